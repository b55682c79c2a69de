/-
  The law and its row.
-/
import Derived.Shelf.SlSortCmp.NoneTotal
import Derived.Shelf.SlicesG.Cmp
import Derived.Test.YtfckjjffdfkelaaGreatProg
import Derived.Test.YtfckjjffdfkelaaGreatSuTb
import Derived.Test.YtfckjjffdfkelaaGreatSuWr
import Derived.Test.YtfckjjffdfkelaaGreatRsk
import Derived.Test.YtfckjjffdfkelaaGreatNS05
import Derived.Test.YtfckjjffdfkelaaGreatEC08
import Derived.Test.YtfckjjffdfkelaaGreatND31
import Derived.Test.YtfckjjffdfkelaaGreatSuP0
import Derived.ChangeSame
import Derived.ChangeOld
import Derived.DataReads
import Derived.Test.YtfckjjffdfkelaaGreatSuE
import Derived.RowKit
import Derived.Test.YtfckjjffdfkelaaGreatFlyM
set_option linter.unusedVariables false
set_option linter.unusedSimpArgs false
set_option maxRecDepth 10000
section
namespace Go.Proofs
open Go.Shelf
def Tryz.sortTm_ren:Go.Shelf.Ren:=⟨fun | 6=>136 | 15=>186 | 14=>185 | 28=>189 | 29=>219 | 20=>210 | 21=>212 | 22=>213 | 23=>214 | 24=>215 | 25=>216 | 26=>217 | 27=>218 | 46=>229 | 47=>230 | 48=>231 | 49=>232 | 50=>233 | 57=>240 | n=>n,fun | 22=>60 | 24=>103 | 25=>163 | 3=>3 | 39=>117 | 0=>0 | 53=>175 | 55=>44 | 4=>4 | 46=>231 | 45=>230 | 50=>82 | 5=>5 | 9=>9 | 66=>250 | 70=>254 | 76=>259 | 77=>260 | n=>n,fun | n=>n⟩
theorem Tryz.sortTm:Go.Proofs.SlLaysF0.n6 Tryz.prog Tryz.sortTm_ren:={
 mixed:=by kernel_rfl
 f6:=⟨Tryz.f136.name,by decide,Tryz.func136.trans (congrArg some (by kernel_rfl))⟩
 f14:=⟨Tryz.f185.name,by decide,Tryz.func185.trans (congrArg some (by kernel_rfl))⟩
 f15:=Tryz.func186.trans (congrArg some (by kernel_rfl))
 f20:=⟨Tryz.f210.name,by decide,Tryz.func210.trans (congrArg some (by kernel_rfl))⟩
 f21:=⟨Tryz.f212.name,by decide,Tryz.func212.trans (congrArg some (by kernel_rfl))⟩
 f22:=⟨Tryz.f213.name,by decide,Tryz.func213.trans (congrArg some (by kernel_rfl))⟩
 f23:=⟨Tryz.f214.name,by decide,Tryz.func214.trans (congrArg some (by kernel_rfl))⟩
 f24:=⟨Tryz.f215.name,by decide,Tryz.func215.trans (congrArg some (by kernel_rfl))⟩
 f25:=⟨Tryz.f216.name,by decide,Tryz.func216.trans (congrArg some (by kernel_rfl))⟩
 f26:=⟨Tryz.f217.name,by decide,Tryz.func217.trans (congrArg some (by kernel_rfl))⟩
 f27:=⟨Tryz.f218.name,by decide,Tryz.func218.trans (congrArg some (by kernel_rfl))⟩
 f28:=Tryz.func189.trans (congrArg some (by kernel_rfl))
 f29:=Tryz.func219.trans (congrArg some (by kernel_rfl))
 f46:=⟨Tryz.f229.name,by decide,Tryz.func229.trans (congrArg some (by kernel_rfl))⟩
 f47:=Tryz.func230.trans (congrArg some (by kernel_rfl))
 f48:=Tryz.func231.trans (congrArg some (by kernel_rfl))
 f49:=⟨Tryz.f232.name,by decide,Tryz.func232.trans (congrArg some (by kernel_rfl))⟩
 f50:=⟨Tryz.f233.name,by decide,Tryz.func233.trans (congrArg some (by kernel_rfl))⟩
 f57:=⟨Tryz.f240.name,by decide,Tryz.func240.trans (congrArg some (by kernel_rfl))⟩
 t0:=Tryz.underlying0
 a0:=Tryz.isAgg0
 z0:=Tryz.sizeOf0
 v0:=Tryz.zeroValue0
 t3:=Tryz.underlying3
 a3:=Tryz.isAgg3
 z3:=Tryz.sizeOf3
 v3:=Tryz.zeroValue3
 t4:=Tryz.underlying4
 a4:=Tryz.isAgg4
 z4:=Tryz.sizeOf4
 v4:=Tryz.zeroValue4
 t5:=Tryz.underlying5
 a5:=Tryz.isAgg5
 z5:=Tryz.sizeOf5
 v5:=Tryz.zeroValue5
 t9:=Tryz.underlying9
 a9:=Tryz.isAgg9
 z9:=Tryz.sizeOf9
 v9:=Tryz.zeroValue9
 t22:=Tryz.underlying60
 a22:=Tryz.isAgg60
 z22:=Tryz.sizeOf60
 v22:=Tryz.zeroValue60
 t25:=Tryz.underlying163
 a25:=Tryz.isAgg163
 z25:=Tryz.sizeOf163
 v25:=Tryz.zeroValue163
 t39:=Tryz.underlying117
 a39:=Tryz.isAgg117
 z39:=Tryz.sizeOf117
 v39:=Tryz.zeroValue117
 t45:=Tryz.underlying230
 a45:=Tryz.isAgg230
 z45:=Tryz.sizeOf230
 v45:=Tryz.zeroValue230
 t46:=Tryz.underlying231
 a46:=Tryz.isAgg231
 z46:=Tryz.sizeOf231
 v46:=Tryz.zeroValue231
 t50:=Tryz.underlying82
 a50:=Tryz.isAgg82
 z50:=Tryz.sizeOf82
 v50:=Tryz.zeroValue82
 t53:=Tryz.underlying175
 a53:=Tryz.isAgg175
 z53:=Tryz.sizeOf175
 v53:=Tryz.zeroValue175
 t55:=Tryz.underlying44
 a55:=Tryz.isAgg44
 z55:=Tryz.sizeOf44
 v55:=Tryz.zeroValue44
 t66:=Tryz.underlying250
 a66:=Tryz.isAgg250
 z66:=Tryz.sizeOf250
 v66:=Tryz.zeroValue250
 t70:=Tryz.underlying254
 a70:=Tryz.isAgg254
 z70:=Tryz.sizeOf254
 v70:=Tryz.zeroValue254
 t76:=Tryz.underlying259
 a76:=Tryz.isAgg259
 z76:=Tryz.sizeOf259
 v76:=Tryz.zeroValue259
 t77:=Tryz.underlying260
 a77:=Tryz.isAgg260
 z77:=Tryz.sizeOf260
 v77:=Tryz.zeroValue260 }
def Tryz.cmpInt_ren:Go.Shelf.Ren:=⟨fun | 5=>138 | 7=>187 | n=>n,fun | 22=>3 | 3=>3 | 4=>4 | n=>n,fun | n=>n⟩
theorem Tryz.cmpInt:Go.Proofs.SlLaysC2.n5 Tryz.prog Tryz.cmpInt_ren:={
 mixed:=by kernel_rfl
 f5:=⟨Tryz.f138.name,by decide,Tryz.func138.trans (congrArg some (by kernel_rfl))⟩
 f7:=⟨Tryz.f187.name,by decide,Tryz.func187.trans (congrArg some (by kernel_rfl))⟩
 t3:=Tryz.underlying3
 a3:=Tryz.isAgg3
 z3:=Tryz.sizeOf3
 v3:=Tryz.zeroValue3
 t4:=Tryz.underlying4
 a4:=Tryz.isAgg4
 z4:=Tryz.sizeOf4
 v4:=Tryz.zeroValue4
 t22:=Tryz.underlying3
 a22:=Tryz.isAgg3
 z22:=Tryz.sizeOf3
 v22:=Tryz.zeroValue3 }
end Go.Proofs
end
section
namespace Su
open Go Go.Proofs Fly
instance:Inhabited Tm:=⟨⟨0,0⟩⟩
def Qc(t:Tm):List Value:=[.int .i64 t.id,.int .u64 t.c]
def cfT(x y:Tm):Int:=Lib.compareInt x.id y.id
theorem ltT(x y:Tm):Go.Proofs.ltOf cfT x y=decide (x.id<y.id):=by
 unfold Go.Proofs.ltOf cfT Lib.compareInt;by_cases h1:x.id<y.id
 · simp[h1]
 · by_cases h2:y.id<x.id <;> simp[h1,h2]
theorem swoT:Go.Sort.SWO (Go.Proofs.ltOf cfT) where
 irrefl x:=by rw[ltT];simp
 trans x y z h1 h2:=by rw[ltT]at *;simp at *;omega
 ntrans x y z h1 h2:=by rw[ltT]at *;simp at *;omega
set_option maxHeartbeats 1000000 in
theorem clos(x y:Tm)(W:World):Calls Tryz.prog 137 #[.agg #[.int .i64 x.id,.int .u64 x.c],.agg #[.int .i64 y.id,.int .u64 y.c]] W fun e w'=>e = .returned (.int .i64 (Lib.compareInt x.id y.id))∧∃q os',w'=Go.Sort.grow (W.drewN q) os':=by
 have hcon:=fun W'=>AnyG.cmp_Compare_int Tryz.cmpInt x.id y.id W'
 change ∀W',Calls Tryz.prog 138 _ _ _ at hcon
 generalize Lib.compareInt x.id y.id=r at hcon ⊢
 go_enter Tryz.func137,Tryz.ntmps137
 go_wp2_with (go_at_call 138;refine(hcon _).mono ?_;rintro e w' ⟨rfl,rfl⟩)
 go_ret
 exact⟨rfl,0,_,by rw[Go.Sort.alloc_eq_grow,Go.Sort.alloc_eq_grow,Go.Sort.grow_grow];rfl⟩
theorem qHs(blk cap:Nat)(d:Array Tm)(w:World)(hH:Go.Sort.HoldsK Qc 2 w blk 0 d)(hblk:blk<w.heap.size)(hsz:d.size<4611686018427387904) :
 Calls Tryz.prog 136 #[.slice (some ⟨blk,0,none⟩) d.size cap,.func (.func 137) #[] #[]] w fun e w'=>
  e = .returned (.tuple #[])∧∃d' n os,Go.Sort.PermIn 0 d.size d d'∧Go.Sort.SortedIn (Go.Proofs.ltOf cfT) 0 d.size d'∧w'=Go.Proofs.sortWorldK Qc 2 w blk 0 n d' os:=by
 have eg:∀args w,(callFunc 137 args).run Tryz.prog w = .ok (.enter 137 args) w:=enters_of Tryz.func137 (by kernel_rfl) rfl
 have hcon:=AnyQ.slices_SortFunc Tryz.sortTm 2 Tryz.isAgg103 Tryz.sizeOf103 Qc (fun _=>rfl) (fun x v hv=>by simp[Qc]at hv;rcases hv with rfl | rfl <;> rfl) cfT swoT 137 #[] blk 0 cap d w eg (fun _ _ _ _ x y=>clos x y _) hH hblk hsz
 exact hcon
def okTm(L:List Tm):Prop:=∀t∈L,inR .i64 t.id=true∧inR .u64 t.c=true
theorem qiL{V:qc}:∀ {L:List Tm} {R:List T} {vs:List Value},RepA V ((L.map vT).flatMap T.cells++R) vs→∃vs2,vs=L.flatMap Qc++vs2∧RepA V R vs2∧okTm L
 | [],R,vs,h=>⟨vs,rfl,h,fun t ht=>by cases ht⟩
 | t::L,R,vs,h=>by
  replace h:RepA V (T.s (.int .i64 t.id)::T.s (.int .u64 t.c)::((L.map vT).flatMap T.cells++R)) vs:=h
  cases h with | cons h1 h=>
  cases h with | cons h2 h=>
  cases h1 with | s h1=>
  cases h2 with | s h2=>
  obtain⟨vs2,rfl,h3,h4⟩:=qiL (L:=L) (R:=R) h
  exact⟨vs2,rfl,h3,fun u hu=>by
   rcases zJ.1 hu with rfl | hu
   · exact⟨h1,h2⟩
   · exact h4 u hu⟩
theorem qnl{V:qc}:∀ {L:List Tm} {R:List T} {vs2:List Value},okTm L→RepA V R vs2→RepA V ((L.map vT).flatMap T.cells++R) (L.flatMap Qc++vs2)
 | [],_,_,_,h=>h
 | t::L,_,_,ho,h=>.cons (.s (ho t (zu ..)).1) (.cons (.s (ho t (zu ..)).2) (qnl (fun u hu=>ho u (zp _ hu)) h))
theorem qed:∀(L:List Tm) (j:Nat),j<L.length*2→(L.flatMap Qc)[j]?=some ((Qc L[j / 2]!)[j % 2]!)
 | [],j,h=>by simp at h
 | t::L,0,_=>rfl
 | t::L,1,_=>rfl
 | t::L,j+2,h=>by
  have e1:(j+2) / 2=j / 2+1:=by omega
  have e2:(j+2) % 2=j % 2:=by omega
  have:=qed L j (by simp at h;omega)
  rw[e1,e2];simpa[Qc]using this
theorem qiM(L:List Tm):(Go.Sort.flatK Qc 2 L.toArray).toList=L.flatMap Qc:=by
 refine XK fun j=>?_
 by_cases h:j<L.length*2
 · rw[qed L j h]
   have hs:j<(Go.Sort.flatK Qc 2 L.toArray).size:=by simp;omega
   have:=Go.Sort.get_flatK Qc 2 L.toArray j (by simpa using h)
   rw[getElem!_pos _ j hs]at this;rw[Vz,VH hs,this];simp
 · have l1:(Go.Sort.flatK Qc 2 L.toArray).toList.length=L.length*2:=by simp
   have l2:∀L:List Tm,(L.flatMap Qc).length=L.length*2:=fun K=>by
    induction K with
    | nil=>rfl
    | cons t K ih=>rw[KG,zw,ih,zq];simp[Qc];omega
   rw[K5 (by omega),K5 (by rw[l2];omega)]
theorem qee(L:List Tm):(L.flatMap Qc).length=L.length*2:=by
 rw[← qiM];simp
theorem qxO(F c:Array Value)(h:F.size≤c.size):(Go.Sort.putCells id 0 F c).toList=F.toList++c.toList.drop F.size:=by
 refine XK fun j=>?_
 rw[List.getElem?_append];unfold Go.Sort.putCells;rw[Vz,Array.getElem?_mapIdx];by_cases hj:j<F.size
 · have hc:j<c.size:=by omega
   rw[VH hc,Kp (by simpa using hj),Vz,VH hj];simp[hj]
 · rw[zZ (by simpa using hj),Vm,Ve]
   rw[show F.size+(j-F.size)=j by omega,Vz];cases hc:c[j]? with
   | none=>rfl
   | some x=>simp[hj]
theorem qxP(F c:Array Value):(Go.Sort.putCells id 0 F c).size=c.size:=by simp[Go.Sort.putCells]
theorem qsv{L:List Tm}{d':Array Tm}(hn:(L.map Tm.id).Nodup)(hp:Go.Sort.PermIn 0 L.toArray.size L.toArray d')(hs:Go.Sort.SortedIn (Go.Proofs.ltOf cfT) 0 L.toArray.size d'):d'.toList=ssK Tm.id L:=by
 have hsz:d'.size=L.length:=by simpa using hp.1
 have hperm:d'.toList.Perm L:=by
  have:=hp.2.2
  rw[XB (by rw[hp.1];exact zE _),XB (zE _)]at this;simpa using this
 refine qb4 ?_ (qEY hn hperm)
 refine List.pairwise_iff_getElem.2 fun i j hi hj hij=>?_
 have hi':i<d'.size:=by simpa using hi
 have hj':j<d'.size:=by simpa using hj
 have:=hs i j (Va _) hij (by simpa[hsz]using hj')
 rw[ltT,getElem!_pos d' j hj',getElem!_pos d' i hi']at this;have:=WN this
 simp only[Array.getElem_toList];omega
theorem froz{w:World}{b o:Nat}{c:Array Value}{e:TypeId}(h:w.heap[b]?=some (.cells c e (0,0))):w.frozen? ⟨b,o,none⟩=false:=by
 unfold World.frozen?
 simp only[h];simp
set_option maxHeartbeats 1000000 in
theorem qGm:YX Tryz.prog tb Jv.sound 136 (qFk 103 (d1 (cF 137)) soS):=by
 intro O svs os k y hr;unfold qFk at hr;split at hr
 · rename_i len asl e' l
   cases hb:(Nat.beq e' 103&&Nat.ble len l.length)with
   | false=>rw[hb]at hr;cases hr
   | true=>
    rw[hb,zd]at hr;rw[zm]at hb;have:=zj hb.1;subst this
    have hlen:=zo hb.2;obtain⟨ts,h1,hr⟩:=osm hr;obtain⟨u,h2,hr⟩:=osm hr;obtain⟨LU,h3,hr⟩:=osm hr;obtain⟨L,rfl⟩:∃L:List Tm,L=LU:=⟨LU,rfl⟩
    obtain⟨L',h4,hr⟩:=osm hr;obtain⟨h7,hend⟩:=qi hr;obtain⟨h5,h6⟩:=qi h4;have:=soi h6;subst this
    rw[zm]at h5;have hnd:(L.map Tm.id).Nodup:=KC h5.1
    have hbig:L.length≤1000000:=zo h5.2
    have:=qgF h1;subst this
    have hl:l.take len=L.map vT:=Zr h3
    have hLl:L.length=len:=by
     have:=congrArg List.length hl
     rw[Kj]at this;have e:(List.map vT L).length=L.length:=zr vT
     omega
    refine⟨by kernel_rfl,fun V I G vs hg hG hrep=>?_⟩
    cases hrep with | cons k1 k2=>
    have k3:RepA V ((d1 (cF 137)).enc u) _:=(d1 (cF 137)).rep h2 (qbf k2)
    cases k3 with | cons q1 q2=>
    cases q2;cases q1 with | fn z1 z2=>
    cases z1;cases z2;obtain⟨G0,g1,gp⟩:=hG;cases g1 with | cons g1 g2=>
    cases g2;cases g1 with
    | vrow=>
     have hlen:len≤0:=hlen
     have hL0:L=[]:=Ka.1 (by omega)
     subst hL0;have hl0:len=0:=hLl.symm
     subst hl0;have hG0:G=[]:=gp.eq_nil
     subst hG0;have e0:ssK Tm.id ([]:List Tm)=[]:=Ju Srt.nil
     rw[e0]at hend;have fin:∀(a:Option Addr) (cap:Nat),yg Tryz.prog 136 #[.slice a 0 cap,.func (.func 137) #[] #[]] V [] fun v V' G'=>∃rs H',k rs H'=some y∧∃I' rvs,GR V' I' H' G'∧RepSs V' I' rs rvs∧v=JN rvs∧IPf [.row true 103 2 []] [.vrow] H' I':=by
      intro a cap w hs hGw hVn hnd';refine(AnyF.slices_SortFunc_none Tryz.sortTm a cap (.func (.func 137) #[] #[]) w).mono ?_
      rintro ex w' ⟨rfl,rfl⟩
      exact⟨_,V,[],rfl,⟨Ext.refl _ _,hs,hGw,(fun p hp=>by cases hp),.nil,Sub.refl _,fun r h0 hr=>absurd h0 hr⟩,[],_,hend,[.vrow],[],⟨[],.cons .vrow .nil,.refl _⟩,.nil,rfl,IPf.refl _ _⟩
     cases k1 with
     | osl hI _ _ _=>simp at hI
     | osl0 h0 _=>exact absurd rfl h0
     | oslv hI=>exact fin _ _
     | oslp hI _=>simp at hI
    | row m1 m2 m3 m4 m5 m6=>
     rename_i b ct cur;cases k1 with
     | osl0 h0 _=>exact absurd rfl h0
     | oslv hI=>simp at hI
     | oslp hI _=>simp at hI
     | osl hI n1 n2 n3=>
      rename_i b' k' ct' cap;simp only[VC,zg,IE.row.injEq]at hI;obtain⟨rfl,rfl,rfl⟩:=hI;subst hLl;have hG1:G=[(b,.cells cur 103 (0,0))]:=List.perm_singleton.1 gp
      subst hG1;have hfl:l.flatMap T.cells=(L.map vT).flatMap T.cells++(l.drop L.length).flatMap T.cells:=by
       rw[← hl,← VI,Ky]
      rw[hfl]at m4;obtain⟨vs2,e2,r2,ok2⟩:=qiL m4;intro w hs hGw hVn hnd';have hw:w.heap[b]?=some (.cells cur 103 (0,0)):=hGw (b,.cells cur 103 (0,0)) (Kw.2 rfl)
      have hVb:V b=none:=hVn (b,.cells cur 103 (0,0)) (Kw.2 rfl)
      have hbl:b<w.heap.size:=(Km.1 hw).1
      have hcs:L.length*2≤cur.size:=by rw[m1];exact zH _ (by omega)
      have hcell:∀j,j<L.length*2→cur[j]?=(L.flatMap Qc)[j]?:=fun j hj=>by
       have h1:(cur.toList.take (l.length*2))[j]?=cur.toList[j]?:=List.getElem?_take_of_lt (by omega)
       rw[e2,Ks (by rw[qee];exact hj)]at h1;rw[← Vz,h1]
      have hH:Go.Sort.HoldsK Qc 2 w b 0 L.toArray:=fun j hj=>by
       have hj':j<L.length*2:=by simpa using hj
       refine⟨?_,froz hw⟩
       rw[zQ,yA hw,hcell j hj',qed L j hj',Go.Sort.get_flatK _ _ _ _ (by simpa using hj')];simp
      have hsz:L.toArray.size<4611686018427387904:=by
       rw[Vh];exact KX hbig (by decide)
      refine(qHs b cap L.toArray w hH hbl hsz).mono ?_
      rintro ex w' ⟨rfl,d',n,os,hp,hsd,rfl⟩
      have hd:=qsv hnd hp hsd;have hds:d'.size=L.length:=by simpa using hp.1
      have hde:d'=(ssK Tm.id L).toArray:=by rw[← hd]
      subst hde;have hF:(Go.Sort.flatK Qc 2 (ssK Tm.id L).toArray).size≤cur.size:=by simpa[yn]using hcs
      have hlist:(Go.Sort.putCells id 0 (Go.Sort.flatK Qc 2 (ssK Tm.id L).toArray) cur).toList=(ssK Tm.id L).flatMap Qc++cur.toList.drop (L.length*2):=by
       rw[qxO _ _ hF,qiM]
       congr 2
       simp[yn]
      have hdrop:(cur.toList.drop (L.length*2)).take ((l.length-L.length)*2)=vs2:=by
       have h1:=congrArg (List.drop (L.length*2)) e2
       rw[List.drop_take,List.drop_left' (qee L)]at h1;rw[← h1];congr 1;omega
      have hW:(Go.Proofs.sortWorldK Qc 2 w b 0 n (ssK Tm.id L).toArray os).heap=w.heap.modify b (Go.Sort.onCells (Go.Sort.putCells id 0 (Go.Sort.flatK Qc 2 (ssK Tm.id L).toArray)))++os:=rfl
      have hblk:(Go.Proofs.sortWorldK Qc 2 w b 0 n (ssK Tm.id L).toArray os).heap[b]?=some (.cells (Go.Sort.putCells id 0 (Go.Sort.flatK Qc 2 (ssK Tm.id L).toArray) cur) 103 (0,0)):=by
       rw[hW,Wt (by simpa using hbl),WU,Kp rfl,hw];rfl
      have hold:∀r,r<w.heap.size→r≠b→(Go.Proofs.sortWorldK Qc 2 w b 0 n (ssK Tm.id L).toArray os).heap[r]?=w.heap[r]?:=fun r hr hne=>by
       rw[hW,Wt (by simpa using hr),WU,zZ (fun e=>hne e.symm)]
      have hsize:w.heap.size≤(Go.Proofs.sortWorldK Qc 2 w b 0 n (ssK Tm.id L).toArray os).heap.size:=by rw[hW];simp
      have hlen':((ssK Tm.id L).map vT++l.drop L.length).length=l.length:=by
       have e:(List.map vT (ssK Tm.id L)).length=(ssK Tm.id L).length:=zr vT
       rw[zw,e,yn,Vf];omega
      have hin:∀x∈(ssK Tm.id L).map vT++l.drop L.length,x∈l:=fun x hx=>by
       rcases zM.1 hx with h | h
       · obtain⟨t,ht,rfl⟩:=K4.1 h
         have:vT t∈L.map vT:=K4.2 ⟨t,(QQ Tm.id L).mem_iff.1 ht,rfl⟩
         rw[← hl]at this;exact VR this
       · exact KZ h
      refine⟨_,V,[(b,.cells (Go.Sort.putCells id 0 (Go.Sort.flatK Qc 2 (ssK Tm.id L).toArray) cur) 103 (0,0))],rfl,⟨⟨rfl,rfl,rfl,hsize,fun k hk hm=>?_⟩,fun r o hr=>?_,fun p hp=>?_,fun p hp=>?_,?_,Sub.refl _,fun r h0 hr=>absurd h0 hr⟩,[],_,hend,[.row b 2 ct],[],⟨_,.cons (.row (by rw[qxP];exact m1) m2 (by rw[hlen'];exact m3) ?_ (fun x hx=>?_) (fun x hx=>m6 x (hin x hx))) .nil,.refl _⟩,.nil,rfl,IPf.setrow (n:=0) rfl⟩
      · refine hold k hk fun e=>hm ?_
        subst e;simp[keys]
      · have hb':r≠b:=fun e=>by rw[e,hVb]at hr;cases hr
        have:=hs r o hr
        rw[hold r (Km.1 this).1 hb'];exact this
      · rw[Kw.1 hp];exact hblk
      · rw[Kw.1 hp];exact⟨.inr (by simp[keys]),hVb⟩
      · simp
      · rw[hlen',hlist,VI]
        have e3:((ssK Tm.id L).flatMap Qc++cur.toList.drop (L.length*2)).take (l.length*2)=(ssK Tm.id L).flatMap Qc++vs2:=by
         have hl2:((ssK Tm.id L).flatMap Qc).length=L.length*2:=by rw[qee,yn]
         rw[Xs,zS (by rw[hl2];omega),hl2,← hdrop]
         congr 2;omega
        rw[e3];exact qnl (fun t ht=>ok2 t ((QQ Tm.id L).mem_iff.1 ht)) r2
      · obtain⟨y,hy,hxy⟩:=KS.1 hx
        exact m5 x (KS.2 ⟨y,hin y hy,hxy⟩)
 · cases hr
end Su
end
section
namespace Su
noncomputable section
open Go Go.Proofs Fly
set_option maxRecDepth 100000
theorem qGn(fu:Nat)  (L:(List Tm))(u:Unit):qgE tb qoU qxN fu 9 134 103 ((d1 (cF 135)).enc (u)) (L.map vT) some=rSS L u:=by kernel_rfl
theorem qHt:YX Tryz.prog tb Jv.sound 134 (qby 103 (d1 (cF 135)) qmS):=qbq qy qiK qsu (by kernel_rfl) fun L a y hl hg h=>⟨0,9,(qGn 0 L a).trans (qFe L a y hl hg h)⟩
def qxQ:Wr:=qkt [(134,qby 103 (d1 (cF 135)) qmS),(136,qFk 103 (d1 (cF 137)) soS)] qAR
theorem qxR:qc7 Tryz.prog tb Jv.sound qxQ:=YY qks (YZ qHt (YZ qGm qb5))
def qkU:qp:=qV [] qoU
theorem qiN:PkT qkU:=qn qiK qr
end
end Su
end
section
namespace Su
noncomputable section
open Go Go.Proofs Fly
set_option maxRecDepth 100000
theorem qB0(fu:Nat)(a:Fm)(most:Int):qz tb qkU (qm0 qxQ (qm1 tb qkU qxQ fu 9)) fu 54 ((dc qB (d1 (cI .i64))).enc (a,most)) (d1 qB).dec=qAG fu a most:=by kernel_rfl
def qxS:PrimD:=prim (dc qB (d1 (cI .i64))) (d1 qB) (qko)
theorem qGo:OkT 54 qxS:=qwl qy qiN qxR (by kernel_rfl) fun a y hg h=>by
 obtain⟨n,hn⟩:=qAK a y hg h;exact⟨n,9,n,(qB0 n a.1 a.2).trans hn⟩
def qkV:qp:=qV [(54,qxS)] qkU
theorem qiO:PkT qkV:=qn qiN (qf qGo qr)
end
end Su
end
section
namespace Su
noncomputable section
open Go Go.Proofs Fly
set_option maxRecDepth 100000
theorem qxT(fu:Nat)  (f:Int):qz tb qkV (shN tb qkV fu 9) fu 140 ((d1 (cI .u64)).enc (f)) (d1 cRt).dec=qCK f:=by kernel_rfl
def qq6:PrimD:=prim (d1 (cI .u64)) (d1 cRt) (qbp)
theorem qB1:OkT 140 qq6:=qj qy qiO (by kernel_rfl) fun a y hg h=>⟨0,9,0,(qxT 0 a).trans (qwg a y hg h)⟩
def qfo:qp:=qV [(140,qq6)] qkV
theorem qgL:PkT qfo:=qn qiO (qf qB1 qr)
end
end Su
end
section
namespace Su
noncomputable section
open Go Go.Proofs Fly
set_option maxRecDepth 100000
theorem qGp(fu:Nat)(a:Fm)(f:Int):qz tb qfo (shN tb qfo fu 9) fu 56 ((dc qB (d1 (cI .u64))).enc (a,f)) (d1 cB).dec=aOf fu a f:=by kernel_rfl
def qC2:PrimD:=prim (dc qB (d1 (cI .u64))) (d1 cB) (qc4)
theorem qHu:OkT 56 qC2:=qj qy qgL (by kernel_rfl) fun a y hg h=>by
 obtain⟨n,hn⟩:=qFg a y hg h;exact⟨n,9,n,(qGp n a.1 a.2).trans hn⟩
def qkW:qp:=qV [(56,qC2)] qfo
theorem qiP:PkT qkW:=qn qgL (qf qHu qr)
end
end Su
end
section
namespace Su
noncomputable section
open Go Go.Proofs Fly
set_option maxRecDepth 100000
theorem qB2(fu:Nat)  (s:(Bool×Int×Int))(f:Int):qz tb qkW (shN tb qkW fu 9) fu 57 ((dc qgV (d1 (cI .u64))).enc (s,f)) (d1 cB).dec=qFh s f:=by kernel_rfl
def qxU:PrimD:=prim (dc qgV (d1 (cI .u64))) (d1 cB) (qwh)
theorem qGq:OkT 57 qxU:=qj qy qiP (by kernel_rfl) fun a y hg h=>⟨0,9,0,(qB2 0 a.1 a.2).trans (qAM a y hg h)⟩
def qoV:qp:=qV [(57,qxU)] qkW
theorem qsw:PkT qoV:=qn qiP (qf qGq qr)
end
end Su
end
section
namespace Su
open Go Go.Proofs Fly
set_option maxRecDepth 100000
theorem qGr(fu:Nat)(a:Fm)(b:Fm)(f:Int)(most:Int):qz tb qoV (shN tb qoV fu 9) fu 11 ((dc qB (dc qB (dc (cI .u64) (d1 (cI .i64))))).enc (a,b,f,most)) (d1 cB).dec=lOf fu a b f most:=by kernel_rfl
noncomputable def qHv:PrimD:=prim (dc qB (dc qB (dc (cI .u64) (d1 (cI .i64))))) (d1 cB) (qCL)
theorem qHw:OkT 11 qHv:=qj qy qsw (by kernel_rfl) fun a y hg h=>by
 obtain⟨n,hn⟩:=qFi a y hg h;exact⟨n,9,n,(qGr n a.1 a.2.1 a.2.2.1 a.2.2.2).trans hn⟩
end Su
end
section
namespace Su
open Go Fly
def jX(P:Program)(t:Nat):Bool:=match P.underlying t with
 | some (.struct _)=>true
 | _=>false
def qiQ(P:Program)(S:List Nat)(n:Nat):Nat→List Field→Bool
 | o,[]=>Nat.beq o n
 | o,f::fs=>Nat.beq f.offset o&&(S.contains f.type&&qiQ P S n (o+P.cellsOf f.type) fs)
def ZJ(P:Program)(S:List Nat)(t:Nat):Bool:=match P.underlying t with
 | some .bool=>Nat.beq (P.cellsOf t) 1
 | some (.int _)=>Nat.beq (P.cellsOf t) 1
 | some (.float _)=>Nat.beq (P.cellsOf t) 1
 | some .string=>Nat.beq (P.cellsOf t) 1
 | some (.slice e)=>Nat.beq (P.cellsOf t) 1&&(S.contains e&&Nat.blt 0 (P.cellsOf e))
 | some (.struct fs)=>qiQ P S (P.cellsOf t) 0 fs.toList
 | _=>false
inductive All2 {α β:Type} (R:α→β→Prop):List α→List β→Prop
 | nil:All2 R [] []
 | cons {a:α} {b:β} {l:List α} {m:List β} (h:R a b) (h':All2 R l m):All2 R (a::l) (b::m)
def Shp(P:Program):Nat→Nat→List T→Prop
 | 0,_,_=>False
 | fuel+1,t,xs=>match P.underlying t with
  | some .bool=>∃b,xs=[.s (.bool b)]
  | some (.int k)=>∃n,xs=[.s (.int k n)]∧(Lit.int k n).wf=true
  | some (.float k)=>∃b,xs=[.s (.float k b)]∧(Lit.float k b).wf=true
  | some .string=>∃s,xs=[.s (.string s)]∧s.size≤maxLen
  | some (.slice e)=>∃l,xs=[.sl (P.cellsOf e) l]∧l.length≤maxLen∧∀x∈l,x.isAgg=jX P e∧Shp P fuel e x.cells
  | some (.struct fs)=>∃parts:List (List T),xs=parts.flatten∧All2 (fun(f:Field) p=>Shp P fuel f.type p) fs.toList parts
  | _=>False
def hv(w:World):qc:=fun b=>w.heap[b]?
theorem qB3{a:Addr}{m n:Nat}(h:n≠0∨m=0∨a.spot=none):(a.add m).add n=a.add (m+n):=by
 unfold Addr.add;by_cases hn:n=0
 · subst hn;simp
 · by_cases hm:m=0
   · subst hm;simp[hn]
   · simp[hn,hm,KD]
theorem qgM{w:World}{a:Addr}{v:Value}(h:w.cell? a=some v):a.spot=none∧rd (hv w) a.block a.off v:=by
 unfold World.cell? at h
 split at h
 · rename_i c e f hb
   cases hs:a.spot with
   | some s=>rw[hs]at h;simp at h
   | none=>rw[hs]at h;exact⟨rfl,c,e,f,hb,by simpa using h⟩
 · simp at h
theorem qq7(a:Addr)(n:Nat):(a.add n).off=a.off+n∧(a.add n).block=a.block:=by
 unfold Addr.add;split
 · rename_i h;subst h;exact⟨rfl,rfl⟩
 · exact⟨rfl,rfl⟩
theorem qq8{w:World}{a:Addr}{k:Nat}(hk:0<k):∀(css:List (List Value)) (s:Nat),(∀i cs,css[i]?=some cs→w.cells? 0 (a.add ((s+i)*k)) k=some cs)→∀j c,css.flatten[j]?=some c→rd (hv w) a.block (a.off+s*k+j) c∧w.cell? (a.add (s*k+j))=some c
 | [],s,h,j,c,hj=>by simp at hj
 | c0::css,s,h,j,c,hj=>by
  obtain⟨_,hl,hc⟩:=World.cells?_some (h 0 c0 rfl)
  simp only[Kr]at hc;rw[Xn]at hj;rcases V5 j k with hjk | hjk
  · rw[Ks (by omega)]at hj
    have h1:=hc j hjk;rw[hj]at h1;have h3:w.cell? (a.add (s*k+j))=some c:=by
     by_cases hj0:j=0
     · subst hj0
       have:(a.add (s*k)).add 0=a.add (s*k):=by unfold Addr.add;simp
       rw[this]at h1;exact h1
     · rw[qB3 (.inl hj0)]at h1;exact h1
    obtain⟨_,h2⟩:=qgM h3;rw[(qq7 _ _).1,(qq7 _ _).2]at h2;exact⟨by rw[KD];exact h2,h3⟩
  · rw[zP (by omega),hl]at hj
    have h2:=qq8 hk css (s+1) (fun i cs hi=>by
     have:=h (i+1) cs (by simpa using hi)
     rw[show s+1+i=s+(i+1) by omega];exact this) (j-k) c hj
    have e1:(s+1)*k+(j-k)=s*k+j:=by rw[zV];omega
    rw[KD,e1]at h2;exact⟨by rw[KD];exact h2.1,h2.2⟩
end Su
end
section
namespace Su
open Go Fly
theorem qoW{β γ:Type}{f:Nat→Option (List β)}{g:List β→Option γ}{n:Nat}{r:List γ}(h:(List.range n).mapM (fun i=>(f i).bind g)=some r) :
 ∃css:List (List β),css.length=n∧∀(i:Nat) (cs:List β),css[i]?=some cs→f i=some cs∧∃y,y∈r∧g cs=some y:=by
 have hl:r.length=n:=by simpa using mapM_some_length h
 refine⟨(List.range n).map fun i=>(f i).getD [],by simp,fun i cs hi=>?_⟩
 have hin:i<n:=by
  have:=(zA.1 hi).1
  simpa using this
 have h1:=mapM_some_get h i i (by simp[hin])
 rw[zD (by omega)]at h1;obtain⟨c,hc,hg⟩:=VS.1 h1;have:cs=c:=by
  rw[KQ,List.getElem?_range hin]at hi;simp[hc]at hi;exact hi.symm
 subst this;exact⟨hc,_,XQ _,hg⟩
theorem qq9{α β:Type}{R:α→β→Prop}:∀ {l:List α},(∀x∈l,∃y,R x y)→∃m,All2 R l m
 | [],_=>⟨[],.nil⟩
 | x::l,h=>by
  obtain⟨y,hy⟩:=h x (zu ..)
  obtain⟨m,hm⟩:=qq9 (l:=l) fun z hz=>h z (zp _ hz)
  exact⟨y::m,.cons hy hm⟩
theorem All2.length{α β:Type}{R:α→β→Prop}{l:List α}{m:List β}(h:All2 R l m):l.length=m.length:=by
 induction h with
 | nil=>rfl
 | cons _ _ ih=>simp[ih]
theorem All2.right{α β:Type}{R:α→β→Prop}{l:List α}{m:List β}(h:All2 R l m):∀y∈m,∃x,R x y:=by
 induction h with
 | nil=>intro y hy;simp at hy
 | cons hr _ ih=>
  intro y hy;rcases zJ.1 hy with rfl | hy
  · exact⟨_,hr⟩
  · exact ih y hy
section
variable {H:Type} {enc:TypeId×Value→H} {P:Program} {w:World} {S:List Nat}
def qB4(enc:TypeId×Value→H)(P:Program)(w:World)(fuel t:Nat)(cs:List Value)(x:DataW H×List MemPlace):Prop :=
 (∃xs,RepA (hv w) xs cs∧(∀y∈xs,y.isAgg=false)∧xs.length=P.cellsOf t∧Shp P fuel t xs)∧∀sp:Nat→Bool,(∀p∈x.2,sp p.block=true)→DataW.trod enc P w 0 sp true fuel t cs=some x
theorem qra{fuel t:Nat}{xs:List T}(h:Shp P fuel t xs)(hg:jX P t=false)(hok:ZJ P S t=true):∃x,xs=[x]∧x.isAgg=false∧x.cells=[x]:=by
 cases fuel with
 | zero=>exact absurd h (by simp[Shp])
 | succ fuel=>
  unfold Shp at h;unfold jX at hg;split at h
  · obtain⟨b,rfl⟩:=h;exact⟨_,rfl,rfl,rfl⟩
  · obtain⟨b,rfl,_⟩:=h;exact⟨_,rfl,rfl,rfl⟩
  · obtain⟨b,rfl,_⟩:=h;exact⟨_,rfl,rfl,rfl⟩
  · obtain⟨b,rfl,_⟩:=h;exact⟨_,rfl,rfl,rfl⟩
  · obtain⟨b,rfl,_⟩:=h;exact⟨_,rfl,rfl,rfl⟩
  · rename_i hu;rw[hu]at hg;simp at hg
  · exact absurd h (by simp)
theorem qsx{fuel e:Nat}{cs:List Value}{x:DataW H×List MemPlace}(hok:ZJ P S e=true)(h:qB4 enc P w fuel e cs x) :
 ∃z:T,RepA (hv w) z.cells cs∧(∀y∈z.cells,y.isAgg=false)∧z.cells.length=P.cellsOf e∧z.isAgg=jX P e∧Shp P fuel e z.cells:=by
 obtain⟨⟨xs,h1,h2,h3,h4⟩,_⟩:=h;cases hg:jX P e with
 | true=>exact⟨.agg xs,h1,h2,h3,rfl,h4⟩
 | false=>
  obtain⟨z,rfl,hz,hzc⟩:=qra h4 hg hok;exact⟨z,by rw[hzc];exact h1,by rw[hzc];exact h2,by rw[hzc];exact h3,hz,by rw[hzc];exact h4⟩
theorem qiR{fuel e:Nat}:∀ {css:List (List Value)} {l:List T},All2 (fun cs z=>RepA (hv w) z.cells cs∧(∀y∈z.cells,y.isAgg=false)∧z.cells.length=P.cellsOf e∧z.isAgg=jX P e∧Shp P fuel e z.cells) css l →
 RepA (hv w) (l.flatMap T.cells) css.flatten∧(∀y∈l.flatMap T.cells,y.isAgg=false)
 | _,_,.nil=>⟨.nil,by simp⟩
 | _,_,.cons h h'=>by
  obtain⟨h1,h2⟩:=qiR h';rw[KG,Xn];refine⟨h.1.append h1,fun y hy=>?_⟩
  rcases zM.1 hy with hy | hy
  · exact h.2.1 y hy
  · exact h2 y hy
theorem qgN{fuel:Nat}{cs:List Value}(ih:∀t∈S,∀(cs:List Value) (x:DataW H×List MemPlace),DataW.trod enc P w 0 (fun _=>true) true fuel t cs=some x→qB4 enc P w fuel t cs x):∀(fs:List Field) (o:Nat) (ys:List (DataW H×List MemPlace)),
 qiQ P S cs.length o fs=true→fs.mapM (fun f=>DataW.trod enc P w 0 (fun _=>true) true fuel f.type ((cs.drop f.offset).take (P.cellsOf f.type)))=some ys →
 ∃parts:List (List T),RepA (hv w) parts.flatten (cs.drop o)∧(∀y∈parts.flatten,y.isAgg=false)∧All2 (fun(f:Field) p=>Shp P fuel f.type p) fs parts
 | [],o,ys,ht,_=>by
  have:=zj ht;subst this
  rw[KM (zE _)];exact⟨[],.nil,by simp,.nil⟩
 | f::fs,o,ys,ht,h=>by
  simp only[qiQ,zm]at ht;obtain⟨h1,h2,h3⟩:=ht;have:=zj h1;subst this
  rw[qHH]at h;obtain⟨y,hy,h⟩:=qb (a:=DataW.trod enc P w 0 (fun _=>true) true fuel f.type ((cs.drop f.offset).take (P.cellsOf f.type))) h
  obtain⟨ys',hys,_⟩:=qb (a:=fs.mapM (fun f=>DataW.trod enc P w 0 (fun _=>true) true fuel f.type ((cs.drop f.offset).take (P.cellsOf f.type)))) h
  obtain⟨⟨xs,a1,a2,a3,a4⟩,_⟩:=ih f.type (by simpa using h2) _ _ hy
  obtain⟨parts,b1,b2,b3⟩:=qgN ih fs _ _ h3 hys;refine⟨xs::parts,?_,fun z hz=>?_,.cons a4 b3⟩
  · rw[Xn,← Ky (P.cellsOf f.type) (cs.drop f.offset),WJ]
    exact a1.append b1
  · rw[Xn]at hz
    rcases zM.1 hz with hz | hz
    · exact a2 z hz
    · exact b2 z hz
theorem qsy(hS:∀t∈S,ZJ P S t=true):∀(fuel t:Nat),t∈S→∀(cs:List Value) (x:DataW H×List MemPlace),DataW.trod enc P w 0 (fun _=>true) true fuel t cs=some x→qB4 enc P w fuel t cs x:=by
 intro fuel;induction fuel with
 | zero=>intro t _ cs x h;simp[DataW.trod]at h
 | succ fuel ih=>
  intro t htS cs x h;have hok:=hS t htS;have one:∀(v:Value),qnw v=true→cs=[v]→Nat.beq (P.cellsOf t) 1=true→Shp P (fuel+1) t [.s v]→(∀sp:Nat→Bool,(∀p∈x.2,sp p.block=true)→DataW.trod enc P w 0 sp true (fuel+1) t cs=some x)→qB4 enc P w (fuel+1) t cs x:=by
   rintro v hv' rfl h1 h2 h3
   exact⟨⟨[.s v],.cons (.s hv') .nil,by simp[T.isAgg],by rw[zj h1];rfl,h2⟩,h3⟩
  have hh:=h;rw[DataW.trod_step]at h;unfold DataW.trodStep at h;split at h
  case h_1 b hu=>
   refine one _ rfl rfl (by simpa[ZJ,hu]using hok) (by simp only[Shp,hu];exact⟨b,rfl⟩) fun sp _=>?_
   rw[DataW.trod_step]at hh ⊢;unfold DataW.trodStep at hh ⊢;simp only[hu]at hh ⊢;exact hh
  case h_2 k k' n hu=>
   split at h
   · rename_i hc
     obtain⟨rfl,hw⟩:=hc;refine one (.int k' n) (show qnw (.int k' n)=true from hw) rfl (by simpa[ZJ,hu]using hok) (by simp only[Shp,hu];exact⟨n,rfl,hw⟩) fun sp _=>?_
     rw[DataW.trod_step]at hh ⊢;unfold DataW.trodStep at hh ⊢;simp only[hu]at hh ⊢;exact hh
   · simp at h
  case h_3 k k' b hu=>
   split at h
   · rename_i hc
     obtain⟨rfl,hw⟩:=hc;refine one _ rfl rfl (by simpa[ZJ,hu]using hok) (by simp only[Shp,hu];exact⟨b,rfl,hw⟩) fun sp _=>?_
     rw[DataW.trod_step]at hh ⊢;unfold DataW.trodStep at hh ⊢;simp only[hu]at hh ⊢;exact hh
   · simp at h
  case h_4 st hu=>
   split at h
   · rename_i hc
     refine one _ (by show Nat.ble _ _=true;rw[VW];exact hc) rfl (by simpa[ZJ,hu]using hok) (by simp only[Shp,hu];exact⟨st,rfl,hc⟩) fun sp _=>?_
     rw[DataW.trod_step]at hh ⊢;unfold DataW.trodStep at hh ⊢;simp only[hu]at hh ⊢;exact hh
   · simp at h
  case h_7 e hu=>
   simp only[ZJ,hu,zm]at hok;refine⟨⟨[.sl (P.cellsOf e) []],.cons (.sl (l:=[]) (vs:=[]) .nil (by simp) (by simp) (by simp) (by simp[maxLen]) (.inl rfl)) .nil,by simp[T.isAgg],by rw[zj hok.1];rfl,?_⟩,fun sp _=>?_⟩
   · simp only[Shp,hu];exact⟨[],rfl,by simp,by simp⟩
   · rw[DataW.trod_step]at hh ⊢;unfold DataW.trodStep at hh ⊢;simp only[hu]at hh ⊢;exact hh
  case h_8 e a len cap hu=>
   simp only[ZJ,hu,zm,List.contains_iff_mem]at hok;obtain⟨ho1,ho2,ho3⟩:=hok;have hk:0<P.cellsOf e:=by rw[Wf]at ho3;exact ho3
   simp only[]at h;split at h
   · rename_i hc
     obtain⟨hc0,hc1,hc2⟩:=hc;simp only[V6,VS]at h;obtain⟨elems,he,rest,hrest,rfl⟩:=h;have hlen:elems.length=len:=by simpa using mapM_some_length he
     obtain⟨css,hcl,hcs⟩:=qoW he;have hz:∀cs∈css,∃z:T,RepA (hv w) z.cells cs∧(∀y∈z.cells,y.isAgg=false)∧z.cells.length=P.cellsOf e∧z.isAgg=jX P e∧Shp P fuel e z.cells:=by
      intro cs hm;obtain⟨i,hi⟩:=VK.1 hm
      obtain⟨_,y,_,hy⟩:=hcs i cs hi;exact qsx (hS e ho2) (ih e ho2 _ _ hy)
     obtain⟨l,hl⟩:=qq9 hz;obtain⟨r1,r2⟩:=qiR hl;have hll:l.length=len:=by rw[← hl.length,hcl]
     have hrd:=qq8 (w:=w) (a:=a) hk css 0 fun i cs hi=>by rw[zQ];exact(hcs i cs hi).1
     refine⟨⟨[.sl (P.cellsOf e) l],.cons ?_ .nil,by simp[T.isAgg],by rw[zj ho1];rfl,?_⟩,fun sp hsp=>?_⟩
     · rw[← hll]
       refine .sl r1 r2 (fun x hx=>?_) (by rw[hll];exact hc1) hc2 ?_
       · obtain⟨cs,hx1⟩:=hl.right x hx
         exact hx1.2.2.1
       · cases hl0:css with
         | nil=>rw[hl0]at hcl;left;rw[← Ka];rw[hll,← hcl];rfl
         | cons c0 css'=>
          right;have h0:=(hcs 0 c0 (by rw[hl0];rfl)).1
          obtain⟨_,hcl0,hcc⟩:=World.cells?_some h0
          have h00:=hcc 0 hk
          have hc00:c0[0]?=some (c0[0]'(by omega)):=by rw[zD]
          rw[hc00]at h00;have hsp:a.spot=none:=by
           have e0:(a.add (0*P.cellsOf e)).add 0=a:=by unfold Addr.add;simp
           rw[e0]at h00;exact(qgM h00).1
          refine⟨a.block,a.off,by cases a;simp at hsp;subst hsp;rfl,fun j c hj=>?_⟩
          rw[← hl0]at hj;have:=(hrd j c hj).1
          simpa using this
     · simp only[Shp,hu]
       refine⟨l,rfl,by omega,fun x hx=>?_⟩
       obtain⟨cs,hx1⟩:=hl.right x hx;exact⟨hx1.2.2.2.1,hx1.2.2.2.2⟩
     · rw[DataW.trod_step]
       unfold DataW.trodStep;simp only[hu];rw[Kp ⟨hc0,hc1,hc2⟩];simp only[V6,VS];have elem:∀(i:Nat) (y:DataW H×List MemPlace),y∈elems++rest→(w.cells? 0 (a.add (i*P.cellsOf e)) (P.cellsOf e)).bind (DataW.trod enc P w 0 (fun _=>true) true fuel e)=some y →
        (w.cells? 0 (a.add (i*P.cellsOf e)) (P.cellsOf e)).bind (DataW.trod enc P w 0 sp true fuel e)=some y:=by
        intro i y hy h1;obtain⟨cs,h2,h3⟩:=VS.1 h1;refine VS.2 ⟨cs,h2,(ih e ho2 _ _ h3).2 sp fun p hp=>hsp p ?_⟩
        exact Wc _ (KS.2 ⟨y,hy,hp⟩)
       refine⟨elems,mapM_carry he fun i y _ hy h1=>elem i y (K9 _ hy) h1,rest,?_,rfl⟩
       simp only[qHL]at hrest;by_cases h0:cap-len=0
       · rw[h0]at hrest ⊢
         simp at hrest;subst hrest;split <;> rfl
       · have hrl:rest.length=cap-len:=by simpa using mapM_some_length hrest
         have:sp a.block=true:=hsp (.cell a.block (a.off+0)) (K9 _ (MemPlace.mem_row.2 ⟨0,Xx (by omega) hk,rfl⟩))
         rw[Kp this];exact mapM_carry hrest fun i y _ hy h1=>elem _ y (Wc _ hy) h1
   · simp at h
  case h_9 fs hu=>
   simp only[ZJ,hu]at hok;split at h
   · rename_i hc
     simp only[V6]at h;obtain⟨ys,hy,rfl⟩:=h;rw[← hc]at hok;obtain⟨parts,b1,b2,b3⟩:=qgN ih fs.toList 0 ys hok hy
     rw[WH]at b1;refine⟨⟨parts.flatten,b1,b2,by rw[b1.length,hc],?_⟩,fun sp hsp=>?_⟩
     · simp only[Shp,hu];exact⟨parts,rfl,b3⟩
     · rw[DataW.trod_step]
       unfold DataW.trodStep;simp only[hu];rw[Kp hc];simp only[V6];have inS:∀(N:Nat) (l:List Field) (o:Nat),qiQ P S N o l=true→∀f∈l,f.type∈S:=by
        intro N l;induction l with
        | nil=>intro o _ f hf;simp at hf
        | cons g l ihl=>
         intro o ht f hf;simp only[qiQ,zm]at ht;rcases zJ.1 hf with rfl | hf
         · simpa using ht.2.1
         · exact ihl _ ht.2.2 f hf
       refine⟨ys,mapM_carry hy fun f y hf hym h1=>(ih f.type (inS _ _ _ hok f hf) _ _ h1).2 sp fun p hp=>hsp p (KS.2 ⟨y,hym,hp⟩),rfl⟩
   · simp at h
  all_goals first
   | (rename_i hu;simp[ZJ,hu]at hok;done)
   | (rename_i hu _;simp[ZJ,hu]at hok;done)
   | (simp at h;done)
end
end Su
end
section
namespace Su
open Go Fly Go.RowKit Go.ChangeShapes
section
variable {H:Type} {enc:TypeId×Value→H} {P:Program} {w:World} {S:List Nat}
def qkX(P:Program)(t:Nat)(x:T):Prop:=x.isAgg=jX P t∧∃fuel,Shp P fuel t x.cells
theorem qB5{r:Reach}{b0:Nat}{t:Nat}{cs:Array Value}(hok:ZJ P S t=true)(hg:jX P t=false)(h:Value.okWide P w r b0 t (.agg cs)):False:=by
 unfold ZJ at hok;unfold Value.okWide Cell.okWide Cell.ok at h;unfold jX at hg;split at hok
 all_goals rename_i hu
 all_goals first
  | (simp[hu]at hok;done)
  | (simp[hu]at hg;done)
  | (simp[hu]at h;done)
theorem qxV(hS:∀t∈S,ZJ P S t=true){r:Reach}{b0 t:Nat}{v:Value}{d:DataW H}{p:List MemPlace}(ht:t∈S)(hval:Value.okWide P w r b0 t v)(h:DataW.Trod enc P w 0 (fun _=>true) true t v d p) :
 (∃x,Rep (hv w) x v∧qkX P t x)∧∀sp:Nat→Bool,(∀q∈p,sp q.block=true)→DataW.Trod enc P w 0 sp true t v d p:=by
 obtain⟨fuel,hf⟩:=h;have hgood:=qsy hS fuel t ht _ _ hf;refine⟨?_,fun sp hsp=>⟨fuel,hgood.2 sp hsp⟩⟩
 obtain⟨⟨xs,h1,h2,h3,h4⟩,_⟩:=hgood;cases hg:jX P t with
 | true=>
  have:∃cs,v = .agg cs:=by
   unfold jX at hg;split at hg
   · rename_i fs hu
     unfold Value.okWide at hval;rw[hu]at hval;obtain⟨cs,rfl,_⟩:=hval;exact⟨cs,rfl⟩
   · simp at hg
  obtain⟨cs,rfl⟩:=this;simp only[Value.cells]at h1;exact⟨.agg xs,.agg h1 h2,by rw[hg];rfl,fuel,h4⟩
 | false=>
  obtain⟨z,rfl,hz,hzc⟩:=qra h4 hg (hS t ht)
  have hvc:v.cells = #[v]:=by
   cases v with
   | agg cs=>exact absurd hval fun h=>qB5 (hS t ht) hg h
   | _=>rfl
  rw[hvc]at h1;cases h1 with
  | cons h1 _=>exact⟨z,h1,by rw[hz,hg],fuel,by rw[hzc];exact h4⟩
theorem qb8(hS:∀t∈S,ZJ P S t=true){r:Reach}{b0:Nat}:∀(ts:List Nat) (vs:List Value) (ds:List (DataW H)) (p:List MemPlace),(∀t∈ts,t∈S)→(∀(j:Nat) t v,ts[j]?=some t→vs[j]?=some v→Value.okWide P w r b0 t v) →
 DataW.TrodAll enc P w 0 (fun _=>true) true ts vs ds p →
 (∃xs,RepA (hv w) xs vs∧All2 (qkX P) ts xs)∧∀sp:Nat→Bool,(∀q∈p,sp q.block=true)→DataW.TrodAll enc P w 0 sp true ts vs ds p
 | [],vs,ds,p,_,_,h=>by
  obtain⟨rfl,rfl,rfl⟩:=trodAll_nil h;exact⟨⟨[],.nil,.nil⟩,fun _ _=>rfl⟩
 | t::ts,vs,ds,p,hts,hval,h=>by
  obtain⟨v,vs1,d,ds1,a,b,rfl,rfl,rfl,h1,h2⟩:=trodAll_cons h;obtain⟨⟨x,a1,a2⟩,a3⟩:=qxV hS (hts t (zu ..)) (hval 0 t v rfl rfl) h1
  obtain⟨⟨xs,b1,b2⟩,b3⟩:=qb8 hS ts vs1 ds1 b (fun u hu=>hts u (zp _ hu)) (fun j t v hj hv=>hval (j+1) t v (by simpa using hj) (by simpa using hv)) h2
  exact⟨⟨x::xs,.cons a1 b1,.cons a2 b2⟩,fun sp hsp=>⟨a,b,a3 sp fun q hq=>hsp q (K9 _ hq),b3 sp fun q hq=>hsp q (Wc _ hq),rfl⟩⟩
theorem qbJ{w':World}{base:Nat}{sp:Nat→Bool}:∀(ts:List Nat) (vs:List Value) (ds:List (DataW H)) (p:List MemPlace),DataW.TrodAll enc P w base sp true ts vs ds p→(∀q∈p,w.sameAt w' q)→DataW.TrodAll enc P w' base sp true ts vs ds p
 | [],vs,ds,p,h,_=>by
  obtain⟨rfl,rfl,rfl⟩:=trodAll_nil h;exact rfl
 | t::ts,vs,ds,p,h,hs=>by
  obtain⟨v,vs1,d,ds1,a,b,rfl,rfl,rfl,h1,h2⟩:=trodAll_cons h;obtain⟨fuel,hf⟩:=h1;exact⟨a,b,⟨fuel,DataW.trod_carry _ _ _ _ hf fun q hq=>hs q (K9 _ hq)⟩,qbJ ts vs1 ds1 b h2 fun q hq=>hs q (Wc _ hq),rfl⟩
end
end Su
end
section
namespace Su
open Go Fly Go.RowKit Go.ChangeShapes
section
variable {H:Type} {enc:TypeId×Value→H} {P:Program} {S:List Nat}
theorem qeA{w:World}{base:Nat}{sp:Nat→Bool}{held:Bool}:∀ {ts:List Nat} {vs:List Value} {ds:List (DataW H)} {p:List MemPlace},DataW.TrodAll enc P w base sp held ts vs ds p→ds.length=ts.length
 | [],_,_,_,h=>by obtain⟨rfl,rfl,rfl⟩:=trodAll_nil h;rfl
 | _::_,_,_,_,h=>by
  obtain⟨v,vs1,d,ds1,a,b,rfl,rfl,rfl,h1,h2⟩:=trodAll_cons h;simp[qeA h2]
theorem qB6{W W':World}{may:MemPlace→Prop}(ho:W'.os=W.os)(hp:W'.output=W.output)(hb:∀b,b<W.heap.size→W'.heap[b]?=W.heap[b]?):W.keptBut W' may:=by
 refine⟨ho,hp,fun i hi=>?_⟩
 rw[hb i hi];cases W.heap[i]? with
 | none=>rfl
 | some o=>cases o <;> first | exact⟨rfl,rfl,rfl,fun _ _=>rfl⟩ | exact .inr ⟨rfl,rfl⟩ | rfl
theorem qsz{fn:Func}{s:ChangeSpec}{apart fresh handsOn again:Bool}(hS:∀t∈S,ZJ P S t=true)(hpar:∀t∈fn.params.toList,t∈S){tb:Nat}(hres:fn.resultTypes = #[tb])(htb:P.underlying tb=some .bool)(hvars:s.vars=[])
 (hsn:∀ds:List (DataW H),ds.length=fn.params.size→s.fn H ds = { results:=[.lit (.bool true)],args:=ds }) {W:World} {args:Array Value} {ds gs:List (DataW H)} {before:List MemPlace} {b0:Nat} {r:Reach}
 (hval:∀(j:Nat) t v,fn.params[j]?=some t→args[j]?=some v→Value.okWide P W r b0 t v) (hW:DataW.Whole enc P fn.params.toList s.vars apart W args.toList ds gs before) {W':World} (ho:W'.os=W.os) (hp:W'.output=W.output) (hb:∀b,b<W.heap.size→W'.heap[b]?=W.heap[b]?) :
 s.post enc P fn apart fresh handsOn again W args (.bool true) W':=by
 have hW0:=hW;have hlt:=hW.lt;obtain⟨p,q,hA,hV,rfl,hz,hn⟩:=hW;have hlen:ds.length=fn.params.size:=by rw[qeA hA];simp
 have hV0:gs=[]∧q=[]:=by
  rw[hvars]at hV;cases gs with
  | nil=>exact⟨rfl,hV⟩
  | cons g l=>exact absurd hV (by intro h;cases h)
 obtain⟨rfl,rfl⟩:=hV0;have same:∀x∈p,W.sameAt W' x:=by
  intro x hx;have h1:=hlt x (K9 _ hx)
  cases x with
  | cell b off=>simp only[World.sameAt,World.cell?];rw[hb b h1]
  | map b=>exact hb b h1
 have hargs:=(qb8 hS _ _ _ _ hpar (fun j t v hj hv=>hval j t v (by simpa using hj) (by simpa using hv)) hA).2
 have hcarry:∀sp:Nat→Bool,(∀x∈p,sp x.block=true)→DataW.TrodAll enc P W' 0 sp true fn.params.toList args.toList ds p:=fun sp hsp=>qbJ _ _ _ _ (hargs sp hsp) same
 have hfn:=hsn ds hlen;have hresult:∀(bs:Nat) (sp:Nat→Bool) (hd:Bool),DataW.TrodAll enc P W' bs sp hd fn.resultTypes.toList ((Value.bool true).resultList fn.resultTypes.size) [.lit (.bool true)] []:=by
  intro bs sp hd;rw[hres];exact trodAll_mk1 (shut_bool htb true)
 have hold:∀x∈p,(fun b=>decide (b<W.heap.size)) x.block=true:=fun x hx=>by simpa using hlt x (K9 _ hx)
 have hvs:∀sp,DataW.TrodVars enc P W' sp s.vars (s.fn H (ds++[])).vars []:=fun sp=>by rw[zO,hfn,hvars];rfl
 refine⟨ds,[],p++[],[],p,[],hW0,?_,?_,hvs _,qB6 ho hp hb,fun _=>⟨?_,?_⟩⟩
 · rw[zO,hfn];exact hresult _ _ _
 · rw[zO,hfn];exact hcarry _ hold
 · intro j t r0 h1 h2
   rw[hres]at h1 h2;have:(Value.bool true).resultList #[tb].size=[.bool true]:=rfl
   rw[this]at h2;cases j with
   | zero=>
    simp at h1 h2;subst h1 h2
    unfold Value.okWide;rw[htb];simp[Cell.okWide,Cell.ok,htb]
   | succ j=>simp at h1
 · refine⟨_,[],([]++p)++[],⟨[]++p,[],trodAll_append (hcarry _ fun _ _=>rfl) (hresult _ _ _),?_,rfl,?_,?_⟩,?_⟩
   · have:=hvs (fun _=>true)
     rw[zO,hfn]at this;exact this
   · intro b off hm
     have hm':MemPlace.cell b off∈p:=by simpa using hm
     have h1:b<W.heap.size:=hlt _ (K9 _ hm')
     have h2:=hz b off (by simpa using hm')
     unfold World.frozen? at h2 ⊢
     rw[hb b h1];exact h2
   · intro ha;simpa using hn ha
   · intro x hx _;simpa using hx
theorem qxW{fn:Func}{f:FuncId}{s:ChangeSpec}{apart fresh handsOn again:Bool}(hS:∀t∈S,ZJ P S t=true)(hpar:∀t∈fn.params.toList,t∈S){tb:Nat}(hres:fn.resultTypes = #[tb])(htb:P.underlying tb=some .bool)(hvars:s.vars=[])
 (hsn:∀ds:List (DataW H),ds.length=fn.params.size→s.fn H ds = { results:=[.lit (.bool true)],args:=ds }) {W:World} {args:Array Value} {ds gs:List (DataW H)} {before:List MemPlace} {b0:Nat} {r:Reach}
 (hval:∀(j:Nat) t v,fn.params[j]?=some t→args[j]?=some v→Value.okWide P W r b0 t v) (hW:DataW.Whole enc P fn.params.toList s.vars apart W args.toList ds gs before)
 (h:∀xs,RepA (hv W) xs args.toList→All2 (qkX P) fn.params.toList xs→yg P f args (hv W) [] fun v _ _=>v = .bool true) :
 Calls P f args W fun e W'=>∃v,e = .returned v∧s.post enc P fn apart fresh handsOn again W args v W':=by
 obtain⟨p,q,hA,hV,hpq,hz,hn⟩:=id hW;obtain⟨⟨xs,h1,h2⟩,_⟩:=qb8 hS _ _ _ _ hpar (fun j t v hj hv=>hval j t v (by simpa using hj) (by simpa using hv)) hA
 refine(h xs h1 h2 W (fun _ _ h=>h) (fun _ h=>by cases h) (fun _ h=>by cases h) Wq).mono ?_
 rintro e W' ⟨v,V',G',rfl,hh,rfl⟩
 exact⟨_,rfl,qsz hS hpar hres htb hvars hsn hval hW hh.ext.os hh.ext.output fun b hb=>hh.ext.block b hb (by simp[keys])⟩
end
end Su
end
