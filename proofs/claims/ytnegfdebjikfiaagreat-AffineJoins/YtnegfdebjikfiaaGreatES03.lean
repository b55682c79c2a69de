/-
  The evaluator computes what the plain functions say.
-/
import Derived.Test.YtnegfdebjikfiaaGreatNS01
import Derived.Test.YtnegfdebjikfiaaGreatSuTb
import Derived.Test.YtnegfdebjikfiaaGreatSuWr
import Derived.Test.YtnegfdebjikfiaaGreatNS04
import Derived.Test.YtnegfdebjikfiaaGreatNS05
import Derived.Shelf.SlSortCmp.NoneTotal
import Derived.Shelf.SlicesG.Cmp
import Derived.Test.YtnegfdebjikfiaaGreatProg
import Derived.Test.YtnegfdebjikfiaaGreatNC31
import Derived.Test.YtnegfdebjikfiaaGreatND02
import Derived.Test.YtnegfdebjikfiaaGreatND04
import Derived.Test.YtnegfdebjikfiaaGreatND10
import Derived.Test.YtnegfdebjikfiaaGreatND12
import Derived.Test.YtnegfdebjikfiaaGreatND13
import Derived.Test.YtnegfdebjikfiaaGreatRsm
import Derived.Test.YtnegfdebjikfiaaGreatRji
import Derived.Test.YtnegfdebjikfiaaGreatND35
import Derived.Test.YtnegfdebjikfiaaGreatSuP0
import Derived.ChangeSame
import Derived.ChangeOld
import Derived.DataReads
set_option linter.unusedVariables false
set_option linter.unusedSimpArgs false
set_option maxRecDepth 10000
section
namespace Su
noncomputable section
open Go Go.Proofs Fly
set_option maxRecDepth 100000
theorem qzi(fu:Nat)(L:(List Tm))(a:Int)(m:Int)(b:Int)(u:Unit):qfC tb qmB qmA fu 9 168 58 ((dc (cI .i64) (dc (cI .i64) (dc (cI .i64) (d1 (cF 79))))).enc (a,m,b,u)) (L.map vT) some=qBX fu L a m b u:=by kernel_rfl
theorem qDj:JN Tryz.prog tb QN.sound 168 (qar 58 (dc (cI .i64) (dc (cI .i64) (dc (cI .i64) (d1 (cF 79))))) ZF):=qaj qx qhi qhh (by kernel_rfl) fun L a y hl hg h=>by
 obtain⟨n,hn⟩:=qxV L a y hl hg h;exact⟨n,9,(qzi n L a.1 a.2.1 a.2.2.1 a.2.2.2).trans hn⟩
def qmC:Wr:=qiV [(168,qar 58 (dc (cI .i64) (dc (cI .i64) (dc (cI .i64) (d1 (cF 79))))) ZF)] qmA
theorem qhj:qcc Tryz.prog tb QN.sound qmC:=JO qhh (JP qDj qaW)
def qmD:qq:=jb [] qmB
theorem qhk:PkT qmD:=qo qhi qw
end
end Su
end
section
namespace Su
noncomputable section
open Go Go.Proofs Fly
set_option maxRecDepth 100000
abbrev qzj:Dec (Int×Int×Int×Unit):=dc (cI .i64) (dc (cI .i64) (dc (cI .i64) (d1 (cF 79))))
theorem qzk(fu:Nat)(R:List Tm→Int×(Int×Int×Unit)→Option (List Tm))(L:List Tm)(a m b:Int)(u:Unit):qfC tb qmD (qiV [(145,qar 58 qzj R)] qmC) fu 9 145 58 (qzj.enc (a,m,b,u)) (L.map vT) some=qko fu R L a m b u:=by kernel_rfl
theorem qvg:∀k,JN Tryz.prog tb QN.sound 145 (qar 58 qzj (QU k))
 | 0=>fun O svs os k y hr=>by
  unfold qar at hr;split at hr
  · obtain⟨_,hr⟩:=qj hr
    obtain⟨ts,h1,hr⟩:=osm hr;obtain⟨a,h2,hr⟩:=osm hr;obtain⟨L,h3,hr⟩:=osm hr;obtain⟨L',h4,hr⟩:=osm hr;exact absurd ((qB5 L a).symm.trans h4) (by simp)
  · cases hr
 | k+1=>qaj qx qhk (JO qhj (JP (qvg k) qaW)) (by kernel_rfl) fun L a L' hl hg h=>by
  obtain⟨n,hn⟩:=qx8 k L a L' h;exact⟨n,9,(qzk n (QU k) L a.1 a.2.1 a.2.2.1 a.2.2.2).trans hn⟩
def qmE:Wr:=qiV [(145,qar 58 qzj (QU 1000000))] qmC
theorem qhl:qcc Tryz.prog tb QN.sound qmE:=JO qhj (JP (qvg 1000000) qaW)
def qmF:qq:=jb [] qmD
theorem qhm:PkT qmF:=qo qhk qw
end
end Su
end
section
namespace Su
noncomputable section
open Go Go.Proofs Fly
set_option maxRecDepth 100000
theorem qzl(fu:Nat)(L:(List Tm))(n:Int)(u:Unit):qfC tb qmF qmE fu 9 113 58 ((dc (cI .i64) (d1 (cF 79))).enc (n,u)) (L.map vT) some=qsV fu L n u:=by kernel_rfl
theorem qDk:JN Tryz.prog tb QN.sound 113 (qar 58 (dc (cI .i64) (d1 (cF 79))) qiI):=qaj qx qhm qhl (by kernel_rfl) fun L a y hl hg h=>by
 obtain⟨n,hn⟩:=qya L a y hl hg h;exact⟨n,9,(qzl n L a.1 a.2).trans hn⟩
def qvh:Wr:=qiV [(113,qar 58 (dc (cI .i64) (d1 (cF 79))) qiI)] qmE
theorem qpX:qcc Tryz.prog tb QN.sound qvh:=JO qhl (JP qDk qaW)
def qmG:qq:=jb [] qmF
theorem qhn:PkT qmG:=qo qhm qw
end
end Su
end
section
namespace Go.Proofs
open Go.Shelf
def Tryz.sortTm_ren:Go.Shelf.Ren:=⟨fun | 6=>81 | 15=>116 | 14=>115 | 28=>153 | 29=>154 | 20=>144 | 21=>146 | 22=>147 | 23=>148 | 24=>149 | 25=>150 | 26=>151 | 27=>152 | 46=>169 | 47=>170 | 48=>171 | 49=>172 | 50=>173 | 57=>180 | n=>n,fun | 22=>26 | 24=>58 | 25=>87 | 3=>3 | 39=>76 | 0=>0 | 53=>147 | 55=>22 | 4=>4 | 46=>141 | 45=>140 | 50=>71 | 5=>5 | 9=>9 | 66=>168 | 70=>172 | 76=>178 | 77=>179 | n=>n,fun | n=>n⟩
theorem Tryz.sortTm:Go.Proofs.SlLaysF0.n6 Tryz.prog Tryz.sortTm_ren:={
 mixed:=by kernel_rfl
 f6:=⟨Tryz.f81.name,by decide,Tryz.func81.trans (congrArg some (by kernel_rfl))⟩
 f14:=⟨Tryz.f115.name,by decide,Tryz.func115.trans (congrArg some (by kernel_rfl))⟩
 f15:=Tryz.func116.trans (congrArg some (by kernel_rfl))
 f20:=⟨Tryz.f144.name,by decide,Tryz.func144.trans (congrArg some (by kernel_rfl))⟩
 f21:=⟨Tryz.f146.name,by decide,Tryz.func146.trans (congrArg some (by kernel_rfl))⟩
 f22:=⟨Tryz.f147.name,by decide,Tryz.func147.trans (congrArg some (by kernel_rfl))⟩
 f23:=⟨Tryz.f148.name,by decide,Tryz.func148.trans (congrArg some (by kernel_rfl))⟩
 f24:=⟨Tryz.f149.name,by decide,Tryz.func149.trans (congrArg some (by kernel_rfl))⟩
 f25:=⟨Tryz.f150.name,by decide,Tryz.func150.trans (congrArg some (by kernel_rfl))⟩
 f26:=⟨Tryz.f151.name,by decide,Tryz.func151.trans (congrArg some (by kernel_rfl))⟩
 f27:=⟨Tryz.f152.name,by decide,Tryz.func152.trans (congrArg some (by kernel_rfl))⟩
 f28:=Tryz.func153.trans (congrArg some (by kernel_rfl))
 f29:=Tryz.func154.trans (congrArg some (by kernel_rfl))
 f46:=⟨Tryz.f169.name,by decide,Tryz.func169.trans (congrArg some (by kernel_rfl))⟩
 f47:=Tryz.func170.trans (congrArg some (by kernel_rfl))
 f48:=Tryz.func171.trans (congrArg some (by kernel_rfl))
 f49:=⟨Tryz.f172.name,by decide,Tryz.func172.trans (congrArg some (by kernel_rfl))⟩
 f50:=⟨Tryz.f173.name,by decide,Tryz.func173.trans (congrArg some (by kernel_rfl))⟩
 f57:=⟨Tryz.f180.name,by decide,Tryz.func180.trans (congrArg some (by kernel_rfl))⟩
 t0:=Tryz.underlying0
 a0:=Tryz.isAgg0
 z0:=Tryz.sizeOf0
 v0:=Tryz.zeroValue0
 t3:=Tryz.underlying3
 a3:=Tryz.isAgg3
 z3:=Tryz.sizeOf3
 v3:=Tryz.zeroValue3
 t4:=Tryz.underlying4
 a4:=Tryz.isAgg4
 z4:=Tryz.sizeOf4
 v4:=Tryz.zeroValue4
 t5:=Tryz.underlying5
 a5:=Tryz.isAgg5
 z5:=Tryz.sizeOf5
 v5:=Tryz.zeroValue5
 t9:=Tryz.underlying9
 a9:=Tryz.isAgg9
 z9:=Tryz.sizeOf9
 v9:=Tryz.zeroValue9
 t22:=Tryz.underlying26
 a22:=Tryz.isAgg26
 z22:=Tryz.sizeOf26
 v22:=Tryz.zeroValue26
 t25:=Tryz.underlying87
 a25:=Tryz.isAgg87
 z25:=Tryz.sizeOf87
 v25:=Tryz.zeroValue87
 t39:=Tryz.underlying76
 a39:=Tryz.isAgg76
 z39:=Tryz.sizeOf76
 v39:=Tryz.zeroValue76
 t45:=Tryz.underlying140
 a45:=Tryz.isAgg140
 z45:=Tryz.sizeOf140
 v45:=Tryz.zeroValue140
 t46:=Tryz.underlying141
 a46:=Tryz.isAgg141
 z46:=Tryz.sizeOf141
 v46:=Tryz.zeroValue141
 t50:=Tryz.underlying71
 a50:=Tryz.isAgg71
 z50:=Tryz.sizeOf71
 v50:=Tryz.zeroValue71
 t53:=Tryz.underlying147
 a53:=Tryz.isAgg147
 z53:=Tryz.sizeOf147
 v53:=Tryz.zeroValue147
 t55:=Tryz.underlying22
 a55:=Tryz.isAgg22
 z55:=Tryz.sizeOf22
 v55:=Tryz.zeroValue22
 t66:=Tryz.underlying168
 a66:=Tryz.isAgg168
 z66:=Tryz.sizeOf168
 v66:=Tryz.zeroValue168
 t70:=Tryz.underlying172
 a70:=Tryz.isAgg172
 z70:=Tryz.sizeOf172
 v70:=Tryz.zeroValue172
 t76:=Tryz.underlying178
 a76:=Tryz.isAgg178
 z76:=Tryz.sizeOf178
 v76:=Tryz.zeroValue178
 t77:=Tryz.underlying179
 a77:=Tryz.isAgg179
 z77:=Tryz.sizeOf179
 v77:=Tryz.zeroValue179 }
def Tryz.cmpInt_ren:Go.Shelf.Ren:=⟨fun | 5=>83 | 7=>117 | n=>n,fun | 22=>3 | 3=>3 | 4=>4 | n=>n,fun | n=>n⟩
theorem Tryz.cmpInt:Go.Proofs.SlLaysC2.n5 Tryz.prog Tryz.cmpInt_ren:={
 mixed:=by kernel_rfl
 f5:=⟨Tryz.f83.name,by decide,Tryz.func83.trans (congrArg some (by kernel_rfl))⟩
 f7:=⟨Tryz.f117.name,by decide,Tryz.func117.trans (congrArg some (by kernel_rfl))⟩
 t3:=Tryz.underlying3
 a3:=Tryz.isAgg3
 z3:=Tryz.sizeOf3
 v3:=Tryz.zeroValue3
 t4:=Tryz.underlying4
 a4:=Tryz.isAgg4
 z4:=Tryz.sizeOf4
 v4:=Tryz.zeroValue4
 t22:=Tryz.underlying3
 a22:=Tryz.isAgg3
 z22:=Tryz.sizeOf3
 v22:=Tryz.zeroValue3 }
end Go.Proofs
end
section
namespace Su
open Go Go.Proofs Fly
instance:Inhabited Tm:=⟨⟨0,0⟩⟩
def yv(t:Tm):List Value:=[.int .i64 t.id,.int .u64 t.c]
def cfT(x y:Tm):Int:=Lib.compareInt x.id y.id
theorem ltT(x y:Tm):Go.Proofs.ltOf cfT x y=decide (x.id<y.id):=by
 unfold Go.Proofs.ltOf cfT Lib.compareInt;by_cases h1:x.id<y.id
 · simp[h1]
 · by_cases h2:y.id<x.id <;> simp[h1,h2]
theorem swoT:Go.Sort.SWO (Go.Proofs.ltOf cfT) where
 irrefl x:=by rw[ltT];simp
 trans x y z h1 h2:=by rw[ltT]at *;simp at *;omega
 ntrans x y z h1 h2:=by rw[ltT]at *;simp at *;omega
set_option maxHeartbeats 1000000 in
theorem clos(x y:Tm)(W:World):Calls Tryz.prog 82 #[.agg #[.int .i64 x.id,.int .u64 x.c],.agg #[.int .i64 y.id,.int .u64 y.c]] W fun e w'=>e = .returned (.int .i64 (Lib.compareInt x.id y.id))∧∃q os',w'=Go.Sort.grow (W.drewN q) os':=by
 have hcon:=fun W'=>AnyG.cmp_Compare_int Tryz.cmpInt x.id y.id W'
 change ∀W',Calls Tryz.prog 83 _ _ _ at hcon
 generalize Lib.compareInt x.id y.id=r at hcon ⊢
 go_enter Tryz.func82,Tryz.ntmps82
 go_wp2_with (go_at_call 83;refine(hcon _).mono ?_;rintro e w' ⟨rfl,rfl⟩)
 go_ret
 exact⟨rfl,0,_,by rw[Go.Sort.alloc_eq_grow,Go.Sort.alloc_eq_grow,Go.Sort.grow_grow];rfl⟩
theorem qEE(blk cap:Nat)(d:Array Tm)(w:World)(hH:Go.Sort.HoldsK yv 2 w blk 0 d)(hblk:blk<w.heap.size)(hsz:d.size<4611686018427387904) :
 Calls Tryz.prog 81 #[.slice (some ⟨blk,0,none⟩) d.size cap,.func (.func 82) #[] #[]] w fun e w'=>
  e = .returned (.tuple #[])∧∃d' n os,Go.Sort.PermIn 0 d.size d d'∧Go.Sort.SortedIn (Go.Proofs.ltOf cfT) 0 d.size d'∧w'=Go.Proofs.sortWorldK yv 2 w blk 0 n d' os:=by
 have eg:∀args w,(callFunc 82 args).run Tryz.prog w = .ok (.enter 82 args) w:=enters_of Tryz.func82 (by kernel_rfl) rfl
 have hcon:=AnyQ.slices_SortFunc Tryz.sortTm 2 Tryz.isAgg58 Tryz.sizeOf58 yv (fun _=>rfl) (fun x v hv=>by simp[yv]at hv;rcases hv with rfl | rfl <;> rfl) cfT swoT 82 #[] blk 0 cap d w eg (fun _ _ _ _ x y=>clos x y _) hH hblk hsz
 exact hcon
def okTm(L:List Tm):Prop:=∀t∈L,inR .i64 t.id=true∧inR .u64 t.c=true
theorem qho{V:qb}:∀ {L:List Tm} {R:List T} {vs:List Value},RepA V ((L.map vT).flatMap T.cells++R) vs→∃vs2,vs=L.flatMap yv++vs2∧RepA V R vs2∧okTm L
 | [],R,vs,h=>⟨vs,rfl,h,fun t ht=>by cases ht⟩
 | t::L,R,vs,h=>by
  replace h:RepA V (T.s (.int .i64 t.id)::T.s (.int .u64 t.c)::((L.map vT).flatMap T.cells++R)) vs:=h
  cases h with | cons h1 h=>
  cases h with | cons h2 h=>
  cases h1 with | s h1=>
  cases h2 with | s h2=>
  obtain⟨vs2,rfl,h3,h4⟩:=qho (L:=L) (R:=R) h
  exact⟨vs2,rfl,h3,fun u hu=>by
   rcases zA.1 hu with rfl | hu
   · exact⟨h1,h2⟩
   · exact h4 u hu⟩
theorem qk6{V:qb}:∀ {L:List Tm} {R:List T} {vs2:List Value},okTm L→RepA V R vs2→RepA V ((L.map vT).flatMap T.cells++R) (L.flatMap yv++vs2)
 | [],_,_,_,h=>h
 | t::L,_,_,ho,h=>.cons (.s (ho t (zq ..)).1) (.cons (.s (ho t (zq ..)).2) (qk6 (fun u hu=>ho u (zo _ hu)) h))
theorem qdb:∀(L:List Tm) (j:Nat),j<L.length*2→(L.flatMap yv)[j]?=some ((yv L[j / 2]!)[j % 2]!)
 | [],j,h=>by simp at h
 | t::L,0,_=>rfl
 | t::L,1,_=>rfl
 | t::L,j+2,h=>by
  have e1:(j+2) / 2=j / 2+1:=by omega
  have e2:(j+2) % 2=j % 2:=by omega
  have:=qdb L j (by simp at h;omega)
  rw[e1,e2];simpa[yv]using this
theorem qhp(L:List Tm):(Go.Sort.flatK yv 2 L.toArray).toList=L.flatMap yv:=by
 refine List.ext_getElem? fun j=>?_
 by_cases h:j<L.length*2
 · rw[qdb L j h]
   have hs:j<(Go.Sort.flatK yv 2 L.toArray).size:=by simp;omega
   have:=Go.Sort.get_flatK yv 2 L.toArray j (by simpa using h)
   rw[getElem!_pos _ j hs]at this;rw[Vf,Vn hs,this];simp
 · have l1:(Go.Sort.flatK yv 2 L.toArray).toList.length=L.length*2:=by simp
   have l2:∀L:List Tm,(L.flatMap yv).length=L.length*2:=fun K=>by
    induction K with
    | nil=>rfl
    | cons t K ih=>rw[Kt,zp,ih,zw];simp[yv];omega
   rw[Vu (by omega),Vu (by rw[l2];omega)]
theorem qdc(L:List Tm):(L.flatMap yv).length=L.length*2:=by
 rw[← qhp];simp
theorem qvi(F c:Array Value)(h:F.size≤c.size):(Go.Sort.putCells id 0 F c).toList=F.toList++c.toList.drop F.size:=by
 refine List.ext_getElem? fun j=>?_
 rw[List.getElem?_append];unfold Go.Sort.putCells;rw[Vf,Array.getElem?_mapIdx];by_cases hj:j<F.size
 · have hc:j<c.size:=by omega
   rw[Vn hc,zR (by simpa using hj),Vf,Vn hj];simp[hj]
 · rw[zP (by simpa using hj),K4,KW]
   rw[show F.size+(j-F.size)=j by omega,Vf];cases hc:c[j]? with
   | none=>rfl
   | some x=>simp[hj]
theorem qvj(F c:Array Value):(Go.Sort.putCells id 0 F c).size=c.size:=by simp[Go.Sort.putCells]
theorem qpY{L:List Tm}{d':Array Tm}(hn:(L.map Tm.id).Nodup)(hp:Go.Sort.PermIn 0 L.toArray.size L.toArray d')(hs:Go.Sort.SortedIn (Go.Proofs.ltOf cfT) 0 L.toArray.size d'):d'.toList=ssK Tm.id L:=by
 have hsz:d'.size=L.length:=by simpa using hp.1
 have hperm:d'.toList.Perm L:=by
  have:=hp.2.2
  rw[Array.extract_eq_self_of_le (by rw[hp.1];exact zE _),Array.extract_eq_self_of_le (zE _)]at this;simpa using this
 refine ZE ?_ (qsJ hn hperm)
 refine List.pairwise_iff_getElem.2 fun i j hi hj hij=>?_
 have hi':i<d'.size:=by simpa using hi
 have hj':j<d'.size:=by simpa using hj
 have:=hs i j (Ve _) hij (by simpa[hsz]using hj')
 rw[ltT,getElem!_pos d' j hj',getElem!_pos d' i hi']at this;have:=Wu this
 simp only[Array.getElem_toList];omega
theorem froz{w:World}{b o:Nat}{c:Array Value}{e:TypeId}(h:w.heap[b]?=some (.cells c e (0,0))):w.frozen? ⟨b,o,none⟩=false:=by
 unfold World.frozen?
 simp only[h];simp
set_option maxHeartbeats 1000000 in
theorem qDl:JN Tryz.prog tb QN.sound 81 (qCR 58 (d1 (cF 82)) soS):=by
 intro O svs os k y hr;unfold qCR at hr;split at hr
 · rename_i len asl e' l
   cases hb:(Nat.beq e' 58&&Nat.ble len l.length)with
   | false=>rw[hb]at hr;cases hr
   | true=>
    rw[hb,zf]at hr;rw[zl]at hb;have:=zk hb.1;subst this
    have hlen:=zr hb.2;obtain⟨ts,h1,hr⟩:=osm hr;obtain⟨u,h2,hr⟩:=osm hr;obtain⟨LU,h3,hr⟩:=osm hr;obtain⟨L,rfl⟩:∃L:List Tm,L=LU:=⟨LU,rfl⟩
    obtain⟨L',h4,hr⟩:=osm hr;obtain⟨h7,hend⟩:=qj hr;obtain⟨h5,h6⟩:=qj h4;have:=soi h6;subst this
    rw[zl]at h5;have hnd:(L.map Tm.id).Nodup:=Ku h5.1
    have hbig:L.length≤1000000:=zr h5.2
    have:=qfD h1;subst this
    have hl:l.take len=L.map vT:=J9 h3
    have hLl:L.length=len:=by
     have:=congrArg List.length hl
     rw[zV]at this;have e:(List.map vT L).length=L.length:=zn vT
     omega
    refine⟨by kernel_rfl,fun V I G vs hg hG hrep=>?_⟩
    cases hrep with | cons k1 k2=>
    have k3:RepA V ((d1 (cF 82)).enc u) _:=(d1 (cF 82)).rep h2 (Z4 k2)
    cases k3 with | cons q1 q2=>
    cases q2;cases q1 with | fn z1 z2=>
    cases z1;cases z2;obtain⟨G0,g1,gp⟩:=hG;cases g1 with | cons g1 g2=>
    cases g2;cases g1 with
    | vrow=>
     have hlen:len≤0:=hlen
     have hL0:L=[]:=Kj.1 (by omega)
     subst hL0;have hl0:len=0:=hLl.symm
     subst hl0;have hG0:G=[]:=gp.eq_nil
     subst hG0;have e0:ssK Tm.id ([]:List Tm)=[]:=QB Srt.nil
     rw[e0]at hend;have fin:∀(a:Option Addr) (cap:Nat),yJ Tryz.prog 81 #[.slice a 0 cap,.func (.func 82) #[] #[]] V [] fun v V' G'=>∃rs H',k rs H'=some y∧∃I' rvs,GR V' I' H' G'∧RepSs V' I' rs rvs∧v=J4 rvs∧IPf [.row true 58 2 []] [.vrow] H' I':=by
      intro a cap w hs hGw hVn hnd';refine(AnyF.slices_SortFunc_none Tryz.sortTm a cap (.func (.func 82) #[] #[]) w).mono ?_
      rintro ex w' ⟨rfl,rfl⟩
      exact⟨_,V,[],rfl,⟨Ext.refl _ _,hs,hGw,(fun p hp=>by cases hp),.nil,Sub.refl _,fun r h0 hr=>absurd h0 hr⟩,[],_,hend,[.vrow],[],⟨[],.cons .vrow .nil,.refl _⟩,.nil,rfl,IPf.refl _ _⟩
     cases k1 with
     | osl hI _ _ _=>simp at hI
     | osl0 h0 _=>exact absurd rfl h0
     | oslv hI=>exact fin _ _
     | oslp hI _=>simp at hI
    | row m1 m2 m3 m4 m5 m6=>
     rename_i b ct cur;cases k1 with
     | osl0 h0 _=>exact absurd rfl h0
     | oslv hI=>simp at hI
     | oslp hI _=>simp at hI
     | osl hI n1 n2 n3=>
      rename_i b' k' ct' cap;simp only[Vh,zg,IE.row.injEq]at hI;obtain⟨rfl,rfl,rfl⟩:=hI;subst hLl;have hG1:G=[(b,.cells cur 58 (0,0))]:=List.perm_singleton.1 gp
      subst hG1;have hfl:l.flatMap T.cells=(L.map vT).flatMap T.cells++(l.drop L.length).flatMap T.cells:=by
       rw[← hl,← Vp,Kv]
      rw[hfl]at m4;obtain⟨vs2,e2,r2,ok2⟩:=qho m4;intro w hs hGw hVn hnd';have hw:w.heap[b]?=some (.cells cur 58 (0,0)):=hGw (b,.cells cur 58 (0,0)) (Ke.2 rfl)
      have hVb:V b=none:=hVn (b,.cells cur 58 (0,0)) (Ke.2 rfl)
      have hbl:b<w.heap.size:=(KU.1 hw).1
      have hcs:L.length*2≤cur.size:=by rw[m1];exact Ks _ (by omega)
      have hcell:∀j,j<L.length*2→cur[j]?=(L.flatMap yv)[j]?:=fun j hj=>by
       have h1:(cur.toList.take (l.length*2))[j]?=cur.toList[j]?:=List.getElem?_take_of_lt (by omega)
       rw[e2,Ki (by rw[qdc];exact hj)]at h1;rw[← Vf,h1]
      have hH:Go.Sort.HoldsK yv 2 w b 0 L.toArray:=fun j hj=>by
       have hj':j<L.length*2:=by simpa using hj
       refine⟨?_,froz hw⟩
       rw[Kk,ye hw,hcell j hj',qdb L j hj',Go.Sort.get_flatK _ _ _ _ (by simpa using hj')];simp
      have hsz:L.toArray.size<4611686018427387904:=by
       rw[VJ];exact VA hbig (by decide)
      refine(qEE b cap L.toArray w hH hbl hsz).mono ?_
      rintro ex w' ⟨rfl,d',n,os,hp,hsd,rfl⟩
      have hd:=qpY hnd hp hsd;have hds:d'.size=L.length:=by simpa using hp.1
      have hde:d'=(ssK Tm.id L).toArray:=by rw[← hd]
      subst hde;have hF:(Go.Sort.flatK yv 2 (ssK Tm.id L).toArray).size≤cur.size:=by simpa[jM]using hcs
      have hlist:(Go.Sort.putCells id 0 (Go.Sort.flatK yv 2 (ssK Tm.id L).toArray) cur).toList=(ssK Tm.id L).flatMap yv++cur.toList.drop (L.length*2):=by
       rw[qvi _ _ hF,qhp]
       congr 2
       simp[jM]
      have hdrop:(cur.toList.drop (L.length*2)).take ((l.length-L.length)*2)=vs2:=by
       have h1:=congrArg (List.drop (L.length*2)) e2
       rw[List.drop_take,List.drop_left' (qdc L)]at h1;rw[← h1];congr 1;omega
      have hW:(Go.Proofs.sortWorldK yv 2 w b 0 n (ssK Tm.id L).toArray os).heap=w.heap.modify b (Go.Sort.onCells (Go.Sort.putCells id 0 (Go.Sort.flatK yv 2 (ssK Tm.id L).toArray)))++os:=rfl
      have hblk:(Go.Proofs.sortWorldK yv 2 w b 0 n (ssK Tm.id L).toArray os).heap[b]?=some (.cells (Go.Sort.putCells id 0 (Go.Sort.flatK yv 2 (ssK Tm.id L).toArray) cur) 58 (0,0)):=by
       rw[hW,V7 (by simpa using hbl),Array.getElem?_modify,zR rfl,hw];rfl
      have hold:∀r,r<w.heap.size→r≠b→(Go.Proofs.sortWorldK yv 2 w b 0 n (ssK Tm.id L).toArray os).heap[r]?=w.heap[r]?:=fun r hr hne=>by
       rw[hW,V7 (by simpa using hr),Array.getElem?_modify,zP (fun e=>hne e.symm)]
      have hsize:w.heap.size≤(Go.Proofs.sortWorldK yv 2 w b 0 n (ssK Tm.id L).toArray os).heap.size:=by rw[hW];simp
      have hlen':((ssK Tm.id L).map vT++l.drop L.length).length=l.length:=by
       have e:(List.map vT (ssK Tm.id L)).length=(ssK Tm.id L).length:=zn vT
       rw[zp,e,jM,VC];omega
      have hin:∀x∈(ssK Tm.id L).map vT++l.drop L.length,x∈l:=fun x hx=>by
       rcases zF.1 hx with h | h
       · obtain⟨t,ht,rfl⟩:=KJ.1 h
         have:vT t∈L.map vT:=KJ.2 ⟨t,(j8 Tm.id L).mem_iff.1 ht,rfl⟩
         rw[← hl]at this;exact VD this
       · exact KT h
      refine⟨_,V,[(b,.cells (Go.Sort.putCells id 0 (Go.Sort.flatK yv 2 (ssK Tm.id L).toArray) cur) 58 (0,0))],rfl,⟨⟨rfl,rfl,rfl,hsize,fun k hk hm=>?_⟩,fun r o hr=>?_,fun p hp=>?_,fun p hp=>?_,?_,Sub.refl _,fun r h0 hr=>absurd h0 hr⟩,[],_,hend,[.row b 2 ct],[],⟨_,.cons (.row (by rw[qvj];exact m1) m2 (by rw[hlen'];exact m3) ?_ (fun x hx=>?_) (fun x hx=>m6 x (hin x hx))) .nil,.refl _⟩,.nil,rfl,IPf.setrow (n:=0) rfl⟩
      · refine hold k hk fun e=>hm ?_
        subst e;simp[keys]
      · have hb':r≠b:=fun e=>by rw[e,hVb]at hr;cases hr
        have:=hs r o hr
        rw[hold r (KU.1 this).1 hb'];exact this
      · rw[Ke.1 hp];exact hblk
      · rw[Ke.1 hp];exact⟨.inr (by simp[keys]),hVb⟩
      · simp
      · rw[hlen',hlist,Vp]
        have e3:((ssK Tm.id L).flatMap yv++cur.toList.drop (L.length*2)).take (l.length*2)=(ssK Tm.id L).flatMap yv++vs2:=by
         have hl2:((ssK Tm.id L).flatMap yv).length=L.length*2:=by rw[qdc,jM]
         rw[WH,KR (by rw[hl2];omega),hl2,← hdrop]
         congr 2;omega
        rw[e3];exact qk6 (fun t ht=>ok2 t ((j8 Tm.id L).mem_iff.1 ht)) r2
      · obtain⟨y,hy,hxy⟩:=KF.1 hx
        exact m5 x (KF.2 ⟨y,hin y hy,hxy⟩)
 · cases hr
end Su
end
section
namespace Su
noncomputable section
open Go Go.Proofs Fly
set_option maxRecDepth 100000
theorem qDm(fu:Nat)  (L:(List Tm))(u:Unit):qfC tb qmG qvh fu 9 78 58 ((d1 (cF 79)).enc (u)) (L.map vT) some=rSS L u:=by kernel_rfl
theorem qEF:JN Tryz.prog tb QN.sound 78 (qar 58 (d1 (cF 79)) qkt):=qaj qx qhn qpX (by kernel_rfl) fun L a y hl hg h=>⟨0,9,(qDm 0 L a).trans (qB9 L a y hl hg h)⟩
def qvk:Wr:=qiV [(78,qar 58 (d1 (cF 79)) qkt),(81,qCR 58 (d1 (cF 82)) soS)] qy2
theorem qvl:qcc Tryz.prog tb QN.sound qvk:=JO qiU (JP qEF (JP qDl qaW))
def qi0:qq:=jb [] qmG
theorem qhq:PkT qi0:=qo qhn qw
end
end Su
end
section
namespace Su
noncomputable section
open Go Go.Proofs Fly
set_option maxRecDepth 100000
theorem qzm(fu:Nat)(a:Fm)(most:Int):qcF tb qi0 (qkR qvk (qkS tb qi0 qvk fu 9)) fu 32 ((dc jC (d1 (cI .i64))).enc (a,most)) (d1 jC).dec=qpB fu a most:=by kernel_rfl
def qvm:PrimD:=prim (dc jC (d1 (cI .i64))) (d1 jC) (qcX)
theorem qDn:OkT 32 qvm:=qub qx qhq qvl (by kernel_rfl) fun a y hg h=>by
 obtain⟨n,hn⟩:=qyf a y hg h;exact⟨n,9,n,(qzm n a.1 a.2).trans hn⟩
def qoB:qq:=jb [(32,qvm)] qi0
theorem YY:PkT qoB:=qo qhq (qe qDn qw)
end
end Su
end
section
namespace Su
noncomputable section
open Go Go.Proofs Fly
set_option maxRecDepth 100000
def qvn:PrimD:=prim (dc (cQ 4 1) (d1 (cI .i64))) (d1 cB) (qsY)
theorem qDo:OkT 161 qvn:=qF qx YY (fun a=>qCb a.1 a.2) (by kernel_rfl) (fun _ _=>by kernel_rfl) qyg
def qvo:PrimD:=prim (d1 (cQ 4 1)) (d1 (cI .i64)) (qsZ)
theorem qDp:OkT 136 qvo:=jz qx YY (fun fu a=>qCc fu a) (by kernel_rfl) (fun _ _=>by kernel_rfl) qyh
def qvp:PrimD:=prim (dc (cQ 4 1) (d1 (cI .i64))) (d1 (cQ 4 1)) (jv)
theorem qDq:OkT 131 qvp:=jz qx YY (fun fu a=>qCd fu a.1 a.2) (by kernel_rfl) (fun _ _=>by kernel_rfl) qyi
def qvq:qq:=jb [(161,qvn),(136,qvo),(131,qvp)] qoB
theorem Yt:PkT qvq:=qo YY (qe qDo (qe qDp (qe qDq qw)))
end
end Su
end
section
namespace Su
noncomputable section
open Go Go.Proofs Fly
set_option maxRecDepth 100000
def qAk:PrimD:=prim (d1 (cQ 2 1)) (d1 (cQ 4 1)) (qz6)
theorem qEG:OkT 160 qAk:=jz qx Yt (fun fu a=>bOf fu a) (by kernel_rfl) (fun _ _=>by kernel_rfl) qCj
def qvr:PrimD:=prim (dc (cQ 4 1) (d1 (cQ 4 1))) (d1 (cQ 4 1)) (yo)
theorem qDr:OkT 133 qvr:=jz qx Yt (fun fu a=>qCg fu a.1 a.2) (by kernel_rfl) (fun _ _=>by kernel_rfl) qyn
def qvs:PrimD:=prim (dc (cQ 4 1) (d1 (cQ 4 1))) (d1 (cI .i64)) (qs3)
theorem qDs:OkT 134 qvs:=jz qx Yt (fun fu a=>qCh fu a.1 a.2) (by kernel_rfl) (fun _ _=>by kernel_rfl) qyo
def qvt:PrimD:=prim (dc (cQ 4 1) (dc (cQ 4 1) (d1 (cI .i64)))) (dc (cQ 4 1) (d1 cB)) (QI)
theorem qDt:OkT 135 qvt:=jz qx Yt (fun fu a=>qCi fu a.1 a.2.1 a.2.2) (by kernel_rfl) (fun _ _=>by kernel_rfl) qyp
def qvu:qq:=jb [(160,qAk),(133,qvr),(134,qvs),(135,qvt)] qvq
theorem Yu:PkT qvu:=qo Yt (qe qEG (qe qDr (qe qDs (qe qDt qw))))
end
end Su
end
section
namespace Su
noncomputable section
open Go Go.Proofs Fly
set_option maxRecDepth 100000
def qvv:PrimD:=prim (dc (cQ 4 1) (d1 (cQ 4 1))) (d1 (cQ 4 1)) (qaT)
theorem qDu:OkT 140 qvv:=jz qx Yu (fun fu a=>qCk fu a.1 a.2) (by kernel_rfl) (fun _ _=>by kernel_rfl) qyq
def qk7:PrimD:=prim (d1 (cI .u64)) (dc cB (dc (cI .i64) (d1 (cI .u64)))) (qkC)
theorem qvw:OkT 108 qk7:=qF qx Yu (fun a=>qmd a) (by kernel_rfl) (fun _ _=>by kernel_rfl) qpG
def qoC:PrimD:=prim (dc cB (dc (cI .i64) (d1 (cI .u64)))) (d1 (cI .u64)) (QV)
theorem qzn:OkT 162 qoC:=qF qx Yu (fun a=>qs6 a.1 a.2.1 a.2.2) (by kernel_rfl) (fun _ _=>by kernel_rfl) qs7
def qk8:PrimD:=prim (d1 (cI .u64)) (d1 (cI .u8)) (qkD)
theorem qvx:OkT 61 qk8:=qF qx Yu (fun a=>qme a) (by kernel_rfl) (fun _ _=>by kernel_rfl) qpH
def qvy:qq:=jb [(140,qvv),(108,qk7),(162,qoC),(61,qk8)] qvu
theorem yj:PkT qvy:=qo Yu (qe qDu (qe qvw (qe qzn (qe qvx qw))))
end
end Su
end
section
namespace Su
noncomputable section
open Go Go.Proofs Fly
set_option maxRecDepth 100000
def qk9:PrimD:=prim (d1 (cI .u64)) (dc (cI .u64) (d1 (cI .i64))) (qkE)
theorem qvz:OkT 130 qk9:=qF qx yj (fun a=>qmf a) (by kernel_rfl) (fun _ _=>by kernel_rfl) qpI
def qvA:PrimD:=prim (d1 (cI .u64)) (d1 cB) (qs8)
theorem qDv:OkT 46 qvA:=qF qx yj (fun a=>qCl a) (by kernel_rfl) (fun _ _=>by kernel_rfl) qyr
def qvB:PrimD:=prim (d1 (cI .u64)) (d1 (cI .i64)) (qs9)
theorem qDw:OkT 103 qvB:=qF qx yj (fun a=>qCm a) (by kernel_rfl) (fun _ _=>by kernel_rfl) qys
def qAl:PrimD:=prim (dc (cI .i64) (d1 cB)) (d1 (cI .u64)) (JL)
theorem qEH:OkT 163 qAl:=qF qx yj (fun a=>qOf a.1 a.2) (by kernel_rfl) (fun _ _=>by kernel_rfl) qCp
def qvC:PrimD:=prim (d1 (cI .u64)) (d1 cB) (qta)
theorem qDx:OkT 129 qvC:=qF qx yj (fun a=>qCn a) (by kernel_rfl) (fun _ _=>by kernel_rfl) qyt
def qAm:PrimD:=prim (dc (cI .u64) (d1 (cI .u8))) (d1 cB) (qz8)
theorem qEI:OkT 128 qAm:=qF qx yj (fun a=>uIs a.1 a.2) (by kernel_rfl) (fun _ _=>by kernel_rfl) qCq
def qoD:PrimD:=prim (d1 cB) (d1 (cI .u64)) (qn0)
theorem qzo:OkT 137 qoD:=qF qx yj (fun a=>qz7 a) (by kernel_rfl) (fun _ _=>by kernel_rfl) qtb
def qvD:PrimD:=prim (d1 cB) (d1 (cI .u64)) (qtc)
theorem qDy:OkT 139 qvD:=qF qx yj (fun a=>uInf a) (by kernel_rfl) (fun _ _=>by kernel_rfl) qyu
def qvE:qq:=jb [(130,qk9),(46,qvA),(103,qvB),(163,qAl),(129,qvC),(128,qAm),(137,qoD),(139,qvD)] qvy
theorem Yv:PkT qvE:=qo yj (qe qvz (qe qDv (qe qDw (qe qEH (qe qDx (qe qEI (qe qzo (qe qDy qw))))))))
end
end Su
end
section
namespace Su
noncomputable section
open Go Go.Proofs Fly
set_option maxRecDepth 100000
def qvF:PrimD:=prim (dc (cI .u64) (d1 (cI .u64))) (dc (cI .i64) (d1 cB)) (qte)
theorem qDz:OkT 51 qvF:=qF qx Yv (fun a=>qCs a.1 a.2) (by kernel_rfl) (fun _ _=>by kernel_rfl) qyv
def qoE:PrimD:=prim (d1 (cI .u64)) (d1 (cQ 4 1)) (qn1)
theorem qzp:OkT 132 qoE:=qF qx Yv (fun a=>qtd a) (by kernel_rfl) (fun _ _=>by kernel_rfl) qtg
def qla:PrimD:=prim (d1 (cI .i64)) (dc (cQ 4 1) (d1 (cI .i64))) (yT)
theorem qvG:OkT 182 qla:=qF qx Yv (fun a=>qmg a) (by kernel_rfl) (fun _ _=>by kernel_rfl) qpJ
def qvH:PrimD:=prim (dc (cA (dc (cQ 4 1) (dc (cQ 4 1) (dc (cI .i64) (d1 cB))))) (dc (cQ 4 1) (d1 (cI .i64)))) (d1 (cI .i64)) (Qg)
theorem qDA:OkT 183 qvH:=qF qx Yv (fun a=>qCt a.1 a.2.1 a.2.2) (by kernel_rfl) (fun _ _=>by kernel_rfl) qyw
def qvI:qq:=jb [(51,qvF),(132,qoE),(182,qla),(183,qvH)] qvE
theorem qhr:PkT qvI:=qo Yv (qe qDz (qe qzp (qe qvG (qe qDA qw))))
end
end Su
end
section
namespace Su
noncomputable section
open Go Go.Proofs Fly
set_option maxRecDepth 100000
def qlb:PrimD:=prim (d1 (cA (dc (cQ 4 1) (dc (cQ 4 1) (dc (cI .i64) (d1 cB)))))) (d1 (cI .i64)) (ZJ)
theorem qvJ:OkT 181 qlb:=jz qx qhr (fun fu a=>qmh fu a) (by kernel_rfl) (fun _ _=>by kernel_rfl) qpK
def qvK:qq:=jb [(181,qlb)] qvI
theorem qhs:PkT qvK:=qo qhr (qe qvJ qw)
end
end Su
end
section
namespace Su
noncomputable section
open Go Go.Proofs Fly
set_option maxRecDepth 100000
def qvL:PrimD:=prim (dc (cA (dc (cQ 4 1) (dc (cQ 4 1) (dc (cI .i64) (d1 cB))))) (d1 (cI .u8))) (dc (cI .i64) (d1 (cI .u8))) (ZL)
theorem qDB:OkT 176 qvL:=qF qx qhs (fun a=>qCu a.1 a.2) (by kernel_rfl) (fun _ _=>by kernel_rfl) qyB
def qvM:qq:=jb [(176,qvL)] qvK
theorem qht:PkT qvM:=qo qhs (qe qDB qw)
end
end Su
end
section
namespace Su
noncomputable section
open Go Go.Proofs Fly
set_option maxRecDepth 100000
def qoF:PrimD:=prim (dc cB (dc (cA (dc (cQ 4 1) (dc (cQ 4 1) (dc (cI .i64) (d1 cB))))) (d1 (cI .u8)))) (dc (cI .u64) (d1 (cI .u8))) (qad)
theorem qzq:OkT 164 qoF:=qF qx qht (fun a=>qto a.1 a.2.1 a.2.2) (by kernel_rfl) (fun _ _=>by kernel_rfl) qtq
def qvN:qq:=jb [(164,qoF)] qvM
theorem qhu:PkT qvN:=qo qht (qe qzq qw)
end
end Su
end
section
namespace Su
noncomputable section
open Go Go.Proofs Fly
set_option maxRecDepth 100000
def qlc:PrimD:=prim (dc cB (dc (cQ 4 1) (dc (cI .i64) (dc cB (d1 (cI .u8)))))) (dc (cI .u64) (d1 (cI .u8))) (qX)
theorem qvO:OkT 138 qlc:=qF qx qhu (fun a=>qmj a.1 a.2.1 a.2.2.1 a.2.2.2.1 a.2.2.2.2) (by kernel_rfl) (fun _ _=>by kernel_rfl) qpL
def qvP:qq:=jb [(138,qlc)] qvN
theorem qhv:PkT qvP:=qo qhu (qe qvO qw)
end
end Su
end
section
namespace Su
noncomputable section
open Go Go.Proofs Fly
set_option maxRecDepth 100000
def qvQ:PrimD:=prim (dc (cI .u64) (dc (cI .u64) (d1 (cI .u8)))) (dc (cI .u64) (d1 (cI .u8))) (fun a=>qyC a.1 a.2.1 a.2.2)
theorem qDC:OkT 102 qvQ:=fnL qx qhv (by kernel_rfl) (fun _ _=>by kernel_rfl)
def qvR:qq:=jb [(102,qvQ)] qvP
theorem qhw:PkT qvR:=qo qhv (qe qDC qw)
end
end Su
end
section
namespace Su
noncomputable section
open Go Go.Proofs Fly
set_option maxRecDepth 100000
def qvS:PrimD:=prim (dc (cI .u64) (dc (cI .u64) (d1 (cI .u8)))) (dc (cI .u64) (d1 (cI .u8))) (fun a=>qyD a.1 a.2.1 a.2.2)
theorem qDD:OkT 101 qvS:=fnL qx qhw (by kernel_rfl) (fun _ _=>by kernel_rfl)
def qvT:qq:=jb [(101,qvS)] qvR
theorem Q8:PkT qvT:=qo qhw (qe qDD qw)
end
end Su
end
section
namespace Su
noncomputable section
open Go Go.Proofs Fly
set_option maxRecDepth 100000
def qoG:PrimD:=prim (d1 (cI .u64)) (d1 (cI .u64)) (qn5)
theorem qzr:OkT 92 qoG:=qF qx Q8 (fun a=>qtw a) (by kernel_rfl) (fun _ _=>by kernel_rfl) qty
def qvU:PrimD:=prim (d1 (cI .u64)) (d1 (cI .u64)) (qtz)
theorem qDE:OkT 57 qvU:=qF qx Q8 (fun a=>qCz a) (by kernel_rfl) (fun _ _=>by kernel_rfl) qyG
def qvV:PrimD:=prim (d1 (cI .u64)) (d1 (cI .u64)) (qtA)
theorem qDF:OkT 50 qvV:=qF qx Q8 (fun a=>qCA a) (by kernel_rfl) (fun _ _=>by kernel_rfl) qyH
def qAn:PrimD:=prim (dc (cI .u64) (dc (cI .u64) (d1 (cI .u8)))) (d1 (cI .u64)) (qAa)
theorem qEJ:OkT 48 qAn:=qF qx Q8 (fun a=>rAd a.1 a.2.1 a.2.2) (by kernel_rfl) (fun _ _=>by kernel_rfl) qCB
def qAo:PrimD:=prim (dc (cI .u64) (dc (cI .u64) (d1 (cI .u8)))) (d1 (cI .u64)) (qAb)
theorem qEK:OkT 49 qAo:=qF qx Q8 (fun a=>rMl a.1 a.2.1 a.2.2) (by kernel_rfl) (fun _ _=>by kernel_rfl) qCC
def qvW:qq:=jb [(92,qoG),(57,qvU),(50,qvV),(48,qAn),(49,qAo)] qvT
theorem Ql:PkT qvW:=qo Q8 (qe qzr (qe qDE (qe qDF (qe qEJ (qe qEK qw)))))
end
end Su
end
section
namespace Su
noncomputable section
open Go Go.Proofs Fly
set_option maxRecDepth 100000
def qvX:PrimD:=prim (dc (cI .u64) (d1 (cI .u64))) (d1 (cI .u64)) (qtC)
theorem qDG:OkT 66 qvX:=qF qx Ql (fun a=>rASl a.1 a.2) (by kernel_rfl) (fun _ _=>by kernel_rfl) qyJ
def qvY:PrimD:=prim (dc (cI .u64) (d1 (cI .u64))) (d1 (cI .u64)) (qtD)
theorem qDH:OkT 72 qvY:=qF qx Ql (fun a=>rMSl a.1 a.2) (by kernel_rfl) (fun _ _=>by kernel_rfl) qyK
def qvZ:PrimD:=prim (d1 cRf) (d1 cB) (qfo)
theorem qDI:OkT 24 qvZ:=jz qx Ql (fun fu a=>qyI fu a) (by kernel_rfl) (fun _ _=>by kernel_rfl) qyL
def qoH:PrimD:=prim (d1 cRf) (d1 cRf) (qaf)
theorem qzs:OkT 37 qoH:=jz qx Ql (fun fu a=>qn8 fu a) (by kernel_rfl) (fun _ _=>by kernel_rfl) qtE
def qAp:PrimD:=prim (dc cRf (d1 (cI .i64))) (d1 (cI .u64)) (qb6)
theorem qEL:OkT 67 qAp:=jz qx Ql (fun fu a=>rAt fu a.1 a.2) (by kernel_rfl) (fun _ _=>by kernel_rfl) qCE
def qv0:PrimD:=prim (dc cRf (d1 cRf)) (d1 (cQ 3 1)) (qtG)
theorem qDJ:OkT 65 qv0:=jz qx Ql (fun fu a=>qCD fu a.1 a.2) (by kernel_rfl) (fun _ _=>by kernel_rfl) qyM
def qv1:qq:=jb [(66,qvX),(72,qvY),(24,qvZ),(37,qoH),(67,qAp),(65,qv0)] qvW
theorem qhx:PkT qv1:=qo Ql (qe qDG (qe qDH (qe qDI (qe qzs (qe qEL (qe qDJ qw))))))
end
end Su
end
section
namespace Su
noncomputable section
open Go Go.Proofs Fly
set_option maxRecDepth 100000
def qv2:PrimD:=prim (d1 cRf) (d1 cRf) (fun a=>qpQ a)
theorem qDK:OkT 56 qv2:=fnL qx qhx (by kernel_rfl) (fun _ _=>by kernel_rfl)
def qoI:qq:=jb [(56,qv2)] qv1
theorem qaX:PkT qoI:=qo qhx (qe qDK qw)
end
end Su
end
section
namespace Su
noncomputable section
open Go Go.Proofs Fly
set_option maxRecDepth 100000
def qAq:PrimD:=prim (d1 jC) (d1 cRf) (qfr)
theorem qEM:OkT 9 qAq:=jz qx qaX (fun fu a=>lOf fu a) (by kernel_rfl) (fun _ _=>by kernel_rfl) qCG
def qAr:PrimD:=prim (dc jC (d1 cRf)) (d1 cB) (qfs)
theorem qEN:OkT 10 qAr:=jz qx qaX (fun fu a=>lIs fu a.1 a.2) (by kernel_rfl) (fun _ _=>by kernel_rfl) qCH
def qv3:qq:=jb [(9,qAq),(10,qAr)] qoI
theorem qhy:PkT qv3:=qo qaX (qe qEM (qe qEN qw))
end
end Su
end
section
namespace Su
noncomputable section
open Go Go.Proofs Fly
set_option maxRecDepth 100000
def qoJ:PrimD:=prim (dc (cI .u64) (d1 (cI .u64))) (d1 (cI .u64)) (qok)
theorem qzt:OkT 112 qoJ:=qF qx qhy (fun a=>qt2 a.1 a.2) (by kernel_rfl) (fun _ _=>by kernel_rfl) qt3
def qv4:qq:=jb [(112,qoJ)] qv3
theorem qhz:PkT qv4:=qo qhy (qe qzt qw)
end
end Su
end
section
namespace Su
noncomputable section
open Go Go.Proofs Fly
set_option maxRecDepth 100000
def qoK:PrimD:=prim (dc cRf (d1 cRf)) (d1 (cI .u64)) (qed)
theorem qzu:OkT 77 qoK:=jz qx qhz (fun fu a=>qkN fu a.1 a.2) (by kernel_rfl) (fun _ _=>by kernel_rfl) qt4
def qv5:qq:=jb [(77,qoK)] qv4
theorem qhA:PkT qv5:=qo qhz (qe qzu qw)
end
end Su
end
section
namespace Su
noncomputable section
open Go Go.Proofs Fly
set_option maxRecDepth 100000
def qoL:PrimD:=prim (dc cRf (d1 cRf)) (d1 cRf) (qca)
theorem qzv:OkT 31 qoL:=jz qx qhA (fun fu a=>qkP fu a.1 a.2) (by kernel_rfl) (fun _ _=>by kernel_rfl) qt8
def qv6:qq:=jb [(31,qoL)] qv5
theorem qhB:PkT qv6:=qo qhA (qe qzv qw)
end
end Su
end
section
namespace Su
noncomputable section
open Go Go.Proofs Fly
set_option maxRecDepth 100000
def qv7:PrimD:=prim (dc cRf (d1 (cI .i64))) (d1 cRf) (qfB)
theorem qDL:OkT 33 qv7:=jz qx qhB (fun fu a=>qyU fu a.1 a.2) (by kernel_rfl) (fun _ _=>by kernel_rfl) qyX
def qDM:qq:=jb [(33,qv7)] qv6
theorem qpZ:PkT qDM:=qo qhB (qe qDL qw)
end
end Su
end
section
namespace Su
open Go Go.Proofs Fly
set_option maxRecDepth 100000
noncomputable def qDN:PrimD:=prim (dc jC (dc jC (d1 (cI .i64)))) (d1 cB) (qua)
theorem qDO:OkT 6 qDN:=qF qx qpZ (fun a=>qCP a.1 a.2.1 a.2.2) (by kernel_rfl) (fun _ _=>by kernel_rfl) qy1
end Su
end
section
namespace Su
open Go Fly
def jD(P:Program)(t:Nat):Bool:=match P.underlying t with
 | some (.struct _)=>true
 | _=>false
def qhC(P:Program)(S:List Nat)(n:Nat):Nat→List Field→Bool
 | o,[]=>Nat.beq o n
 | o,f::fs=>Nat.beq f.offset o&&(S.contains f.type&&qhC P S n (o+P.cellsOf f.type) fs)
def Yw(P:Program)(S:List Nat)(t:Nat):Bool:=match P.underlying t with
 | some .bool=>Nat.beq (P.cellsOf t) 1
 | some (.int _)=>Nat.beq (P.cellsOf t) 1
 | some (.float _)=>Nat.beq (P.cellsOf t) 1
 | some .string=>Nat.beq (P.cellsOf t) 1
 | some (.slice e)=>Nat.beq (P.cellsOf t) 1&&(S.contains e&&Nat.blt 0 (P.cellsOf e))
 | some (.struct fs)=>qhC P S (P.cellsOf t) 0 fs.toList
 | _=>false
inductive All2 {α β:Type} (R:α→β→Prop):List α→List β→Prop
 | nil:All2 R [] []
 | cons {a:α} {b:β} {l:List α} {m:List β} (h:R a b) (h':All2 R l m):All2 R (a::l) (b::m)
def Shp(P:Program):Nat→Nat→List T→Prop
 | 0,_,_=>False
 | fuel+1,t,xs=>match P.underlying t with
  | some .bool=>∃b,xs=[.s (.bool b)]
  | some (.int k)=>∃n,xs=[.s (.int k n)]∧(Lit.int k n).wf=true
  | some (.float k)=>∃b,xs=[.s (.float k b)]∧(Lit.float k b).wf=true
  | some .string=>∃s,xs=[.s (.string s)]∧s.size≤maxLen
  | some (.slice e)=>∃l,xs=[.sl (P.cellsOf e) l]∧l.length≤maxLen∧∀x∈l,x.isAgg=jD P e∧Shp P fuel e x.cells
  | some (.struct fs)=>∃parts:List (List T),xs=parts.flatten∧All2 (fun(f:Field) p=>Shp P fuel f.type p) fs.toList parts
  | _=>False
def hv(w:World):qb:=fun b=>w.heap[b]?
theorem qzw{a:Addr}{m n:Nat}(h:n≠0∨m=0∨a.spot=none):(a.add m).add n=a.add (m+n):=by
 unfold Addr.add;by_cases hn:n=0
 · subst hn;simp
 · by_cases hm:m=0
   · subst hm;simp[hn]
   · simp[hn,hm,KD]
theorem qfJ{w:World}{a:Addr}{v:Value}(h:w.cell? a=some v):a.spot=none∧rd (hv w) a.block a.off v:=by
 unfold World.cell? at h
 split at h
 · rename_i c e f hb
   cases hs:a.spot with
   | some s=>rw[hs]at h;simp at h
   | none=>rw[hs]at h;exact⟨rfl,c,e,f,hb,by simpa using h⟩
 · simp at h
theorem qoM(a:Addr)(n:Nat):(a.add n).off=a.off+n∧(a.add n).block=a.block:=by
 unfold Addr.add;split
 · rename_i h;subst h;exact⟨rfl,rfl⟩
 · exact⟨rfl,rfl⟩
theorem qoN{w:World}{a:Addr}{k:Nat}(hk:0<k):∀(css:List (List Value)) (s:Nat),(∀i cs,css[i]?=some cs→w.cells? 0 (a.add ((s+i)*k)) k=some cs)→∀j c,css.flatten[j]?=some c→rd (hv w) a.block (a.off+s*k+j) c∧w.cell? (a.add (s*k+j))=some c
 | [],s,h,j,c,hj=>by simp at hj
 | c0::css,s,h,j,c,hj=>by
  obtain⟨_,hl,hc⟩:=World.cells?_some (h 0 c0 rfl)
  simp only[Kr]at hc;rw[List.flatten_cons]at hj;rcases VH j k with hjk | hjk
  · rw[Ki (by omega)]at hj
    have h1:=hc j hjk;rw[hj]at h1;have h3:w.cell? (a.add (s*k+j))=some c:=by
     by_cases hj0:j=0
     · subst hj0
       have:(a.add (s*k)).add 0=a.add (s*k):=by unfold Addr.add;simp
       rw[this]at h1;exact h1
     · rw[qzw (.inl hj0)]at h1;exact h1
    obtain⟨_,h2⟩:=qfJ h3;rw[(qoM _ _).1,(qoM _ _).2]at h2;exact⟨by rw[KD];exact h2,h3⟩
  · rw[zO (by omega),hl]at hj
    have h2:=qoN hk css (s+1) (fun i cs hi=>by
     have:=h (i+1) cs (by simpa using hi)
     rw[show s+1+i=s+(i+1) by omega];exact this) (j-k) c hj
    have e1:(s+1)*k+(j-k)=s*k+j:=by rw[Kp];omega
    rw[KD,e1]at h2;exact⟨by rw[KD];exact h2.1,h2.2⟩
end Su
end
