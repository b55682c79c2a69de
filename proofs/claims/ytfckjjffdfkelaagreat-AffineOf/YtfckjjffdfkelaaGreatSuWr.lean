/-
  An evaluator of the program's functions over trees of values, proved sound. No condition.
-/
import Derived.Test.YtfckjjffdfkelaaGreatSuSd
import Derived.Test.YtfckjjffdfkelaaGreatNC14
import Derived.RangeFuncNested
import Derived.RangeFuncBound
import Derived.RangeFuncCalls
import Derived.RangeFuncLeaves
import Derived.RangeFuncWrites
import Derived.Shelf.Abstract
import Derived.Shelf.RegionOpen
import Derived.WalkKit
import Derived.OwnWalkIn
import Derived.TacticsInMore
import Derived.LoopNIn
import Derived.LoopIn
import Derived.Test.YtfckjjffdfkelaaGreatProg
import Derived.Test.YtfckjjffdfkelaaGreatFlyM
import Derived.Test.YtfckjjffdfkelaaGreatNC01
import Derived.Test.YtfckjjffdfkelaaGreatSuTb
import Derived.Test.YtfckjjffdfkelaaGreatNB05
set_option linter.unusedVariables false
set_option linter.unusedSimpArgs false
section
namespace Su
open Go Fly
noncomputable section
abbrev WrT:=∀(O:Type),List SV→List OB→(List SV→List OB→Option O)→Option O
abbrev Wr:=Nat→Option WrT
def qm0(wr:Wr)(call:JI):JI:=fun O f args H k=>match wr f with
 | some g=>g O args H k
 | none=>call O f args H k
def qm1(T:Tbl)(pr:qp)(wr:Wr)(lf:Nat):Nat→JI
 | 0=>fun _ _ _ _ _=>none
 | n+1=>qi9 T pr (qm0 wr (qm1 T pr wr lf n)) lf
variable {P:Program} {B:Bts}
def YX(P:Program)(T:Tbl)(S:Sound P T)(f:Nat)(g:WrT):Prop :=
 ∀(O:Type) args H (k:List SV→List OB→Option O) (y:O),g O args H k=some y→S.tb.go f=true∧∀V I G vs,GOK T V→GR V I H G→RepSs V I args vs →
  yg P f vs.toArray V G fun v V' G'=>∃rs H',k rs H'=some y∧∃I' rvs,GR V' I' H' G'∧RepSs V' I' rs rvs∧v=JN rvs∧IPf H I H' I'
def qc7(P:Program)(T:Tbl)(S:Sound P T)(wr:Wr):Prop:=∀f g,wr f=some g→YX P T S f g
def qAR:Wr:=fun _=>none
theorem qks{T:Tbl}{S:Sound P T}:qc7 P T S qAR:=fun _ _ h=>by cases h
def qkt(l:List (Nat×WrT))(wr:Wr):Wr:=fun f=>List.rec (wr f) (fun p _ ih=>Prod.rec (fun k q=>Bool.rec ih (some q) (Nat.beq k f)) p) l
theorem YY{T:Tbl}{S:Sound P T}{wr:Wr}(h0:qc7 P T S wr):∀ {l:List (Nat×WrT)},(∀q∈l,YX P T S q.1 q.2)→qc7 P T S (qkt l wr)
 | [],_=>h0
 | (k,q)::l,h=>by
  intro f p hp;have ih:=YY h0 (l:=l) fun q hq=>h q (zp _ hq)
  have hp:(Bool.rec (qkt l wr f) (some q) (Nat.beq k f):Option WrT)=some p:=hp
  cases hb:Nat.beq k f with
  | true=>
   rw[hb]at hp;have:=zj hb;subst this
   have:=X4 hp;subst this
   exact h _ (zu ..)
  | false=>rw[hb]at hp;exact ih f p hp
theorem qb5{T:Tbl}{S:Sound P T}:∀q∈([]:List (Nat×WrT)),YX P T S q.1 q.2:=fun _ h=>by cases h
theorem YZ{T:Tbl}{S:Sound P T}{f:Nat}{g:WrT}{l:List (Nat×WrT)}(h:YX P T S f g)(hl:∀q∈l,YX P T S q.1 q.2):∀q∈(f,g)::l,YX P T S q.1 q.2:=fun q hq=>by
 rcases zJ.1 hq with rfl | hq
 · exact h
 · exact hl q hq
theorem qqG{T:Tbl}{S:Sound P T}{wr:Wr}{call:JI}(hC:yT P T S call)(hw:qc7 P T S wr):yT P T S (qm0 wr call):=by
 intro O f args H k y he;unfold qm0 at he;cases hq:wr f with
 | none=>rw[hq]at he;exact hC O f args H k y he
 | some g=>rw[hq]at he;exact hw f g hq O args H k y he
theorem qqH{T:Tbl}(S:Sound P T)(hcode:∀f fn c,T.fns f=some fn→fn.body=some c→okC fn.ntmps T f c=true){pr:qp}{wr:Wr}(hw:qc7 P T S wr)(hreg:∀call,yT P T S call→qlG P T pr call){lf:Nat}:∀m,yT P T S (qm1 T pr wr lf m)
 | 0=>fun O f args H k y he=>by simp[qm1]at he
 | m+1=>by
  have:=qpu S hcode (m:=lf) (hreg _ (qqG (qqH S hcode hw hreg (lf:=lf) m) hw))
  intro O f args H k y he;exact this O f args H k y (by simpa only[qm1]using he)
theorem qqI(h:BtsOK P B)(hc:B.fns.mp (fun f fn=>match fn.body with | some c=>okC fn.ntmps B.tbl f c | none=>true)=B.fns.mp fun _ _=>true){pr:qp}(hpr:QI P B.tbl h.sound pr){wr:Wr}(hw:qc7 P B.tbl h.sound wr)(lf m:Nat) :
 yT P B.tbl h.sound (qm1 B.tbl pr wr lf m) :=
 qqH h.sound (fun f fn c h1 h2=>by
  have:=Bt.mp_ok hc h1
  simp only[h2]at this;exact this) hw (fun call hC=>qjs h.sound hC hpr) m
theorem qwl{h:BtsOK P B}(hc:B.fns.mp (fun f fn=>match fn.body with | some c=>okC fn.ntmps B.tbl f c | none=>true)=B.fns.mp fun _ _=>true){pr:qp}(hpr:QI P B.tbl h.sound pr){wr:Wr}(hw:qc7 P B.tbl h.sound wr)
 {f:Nat} {α ρ:Type} {d:Dec α} {e:Dec ρ} {g:α→Option ρ} (hgo:(B.go.get f).isSome=true)
 (law:∀a y,d.good a→g a=some y→∃lf m n,qz B.tbl pr (qm0 wr (qm1 B.tbl pr wr lf m)) n f (d.enc a) e.dec=some y):Ok1 P B.tbl h.sound f (prim d e g):=by
 refine⟨hgo,?_,fun j hj=>by cases hj⟩
 intro xs y hr V vs hg hrep;obtain⟨a,h1,h2⟩:=osm hr;have hrep':=d.rep h1 hrep;obtain⟨lf,m,n,hl⟩:=law a y (d.rng hrep') h2
 have hF:=(qCm h.sound (fun f fn c h1 h2=>by
  have:=Bt.mp_ok hc h1
  simp only[h2]at this;exact this) (m:=n) (qjs h.sound (qqG (qqI h hc hpr hw lf m) hw) hpr) hl).2 V vs hg hrep'
 intro w hs hG hVn hnd;refine(hF w hs hG hVn hnd).mono ?_
 rintro ex w' ⟨v,V',G',rfl,hh,ts,rvs,h3,h4,rfl⟩
 exact⟨_,V',G',rfl,hh,rvs,e.rep h3 h4,rfl⟩
def qby{α:Type}(e:Nat)(d:Dec α)(g:List Tm→α→Option (List Tm)):WrT:=fun _ svs os k=>match svs,os with
 | .osl 0 0 len::az,[.row true e' 2 l]=>bif Nat.beq e' e&&Nat.beq len l.length then(asTs az).bind fun ts=>(d.dec ts).bind fun a=>(qu l).bind fun L=>(g L a).bind fun L'=>k [] [.row true e 2 (L'.map vT)]else none
 | _,_=>none
def qFk{α:Type}(e:Nat)(d:Dec α)(g:List Tm→α→Option (List Tm)):WrT:=fun _ svs os k=>match svs,os with
 | .osl 0 0 len::az,[.row true e' 2 l]=>bif Nat.beq e' e&&Nat.ble len l.length then(asTs az).bind fun ts=>(d.dec ts).bind fun a=>(qu (l.take len)).bind fun L=>(g L a).bind fun L'=>bif Nat.beq L'.length len then k [] [.row true e 2 (L'.map vT++l.drop len)]else none else none
 | _,_=>none
def qgE{O:Type}(T0:Tbl)(pr:qp)(wr:Wr)(lf m f e:Nat)(args:List T)(l:List T)(dec:List T→Option O):Option O :=
 qm1 T0 pr wr lf m O f (.osl 0 0 l.length::mpT args) [.row true e 2 l] fun r H=>match r,H with
  | [],[.row true e' 2 l']=>bif Nat.beq e' e then dec l' else none
  | _,_=>none
theorem qgF:∀ {l:List SV} {ts:List T},asTs l=some ts→l=mpT ts
 | [],ts,h=>by have:=soi h;subst this;rfl
 | .t x::l,ts,h=>by
  obtain⟨r,h1,h⟩:=osm h;have:=soi h;subst this
  rw[qgF h1];rfl
theorem qAS{V:qc}{I:List IE}{fx:Bool}{e k:Nat}{l:List T}{ie:IE}{G:Own}(h:RepOB V I (.row fx e k l) ie G):l.length≤maxLen:=by
 cases h with
 | row _ h2 h3 _ _ _=>omega
 | vrow=>simp
theorem qbq{h:BtsOK P B}(hc:B.fns.mp (fun f fn=>match fn.body with | some c=>okC fn.ntmps B.tbl f c | none=>true)=B.fns.mp fun _ _=>true){pr:qp}(hpr:QI P B.tbl h.sound pr){wr:Wr}(hw:qc7 P B.tbl h.sound wr)
 {f e:Nat} {α:Type} {d:Dec α} {g:List Tm→α→Option (List Tm)} (hgo:(B.go.get f).isSome=true)
 (law:∀L a L',L.length≤maxLen→d.good a→g L a=some L'→∃lf m,qgE B.tbl pr wr lf m f e (d.enc a) (L.map vT) some=some (L'.map vT)):YX P B.tbl h.sound f (qby e d g):=by
 intro O svs os k y hr;unfold qby at hr;split at hr
 · rename_i len az e' l
   cases hb:(Nat.beq e' e&&Nat.beq len l.length)with
   | false=>rw[hb]at hr;cases hr
   | true=>
    rw[hb,zd]at hr;rw[zm]at hb;have:=zj hb.1;subst this
    have:=zj hb.2;subst this
    obtain⟨ts,h1,hr⟩:=osm hr;obtain⟨a,h2,hr⟩:=osm hr;obtain⟨L,h3,hr⟩:=osm hr;obtain⟨L',h4,hend⟩:=osm hr;have:=qgF h1;subst this
    have hl:l=L.map vT:=Zr h3
    subst hl;refine⟨hgo,fun V I G vs hg hG hrep=>?_⟩
    cases hrep with | cons k1 k2=>
    have k3:=d.rep h2 (qbf k2)
    have hlen:L.length≤maxLen:=by
     obtain⟨G0,g1,_⟩:=hG;cases g1 with
     | cons g1 _=>exact zU (XZ (zr («as»:=L) vT).symm) (qAS g1)
    obtain⟨lf,m,hl⟩:=law L a L' hlen (d.rng k3) h4
    have hF:=(qqI h hc hpr hw lf m _ f _ _ _ _ hl).2 V I G _ hg hG (.cons k1 (RepSs.ofT k3))
    intro w hs hGw hVn hnd;refine(hF w hs hGw hVn hnd).mono ?_
    rintro ex w' ⟨v,V',G',rfl,hh,rs,H',hk,I',rvs,m1,m2,rfl,m3⟩
    split at hk
    · rename_i e'' l'
      cases hb':Nat.beq e'' e' with
      | false=>rw[hb']at hk;cases hk
      | true=>
       rw[hb',zd]at hk;have:=zj hb';subst this
       have:=soi hk;subst this
       exact⟨_,V',G',rfl,hh,[],_,hend,I',rvs,m1,m2,rfl,m3⟩
    · cases hk
 · cases hr
end
end Su
end
section
namespace Go.Proofs.Sho
open Go Go.RowKit Go.Shelf Go.Proofs
attribute [local go_sem] Oper.semAt_some
abbrev Wo(len:Nat):={ x:Nat×Nat // x.1<len∧x.2<4294967296 }
def enW{len:Nat}(x:Wo len):Array Value:=#[.int .i64 (x.1.1:Int),.int .u32 (x.1.2:Int)]
theorem qc8{zs:List Nat}(hz:∀z∈zs,z<4294967296)(j:Nat):zs[j]?.getD 0<4294967296:=by
 cases h:zs[j]? with
 | none=>simp
 | some z=>simpa using hz z (KF h)
def Kb(n₀ B:Nat)(W W':World):Prop:=Below n₀ W W'∧W'.heap[B]?=W.heap[B]?
theorem Kb.trans{n₀ B:Nat}{X Y Z:World}(h:Kb n₀ B X Y)(k:Kb n₀ B Y Z):Kb n₀ B X Z:=⟨h.1.trans k.1,k.2.trans h.2⟩
theorem Kb.refl(n₀ B:Nat)(W:World):Kb n₀ B W W:=⟨Below.refl _ _,rfl⟩
def qao{zs:List Nat}(hz:∀z∈zs,z<4294967296)(h0:0<zs.length)(k:Nat):List (Wo zs.length) :=
 (List.range k).map fun j=>⟨(zs.length-1-j,zs[zs.length-1-j]?.getD 0),by simp only[];omega,qc8 hz _⟩
theorem qic{zs:List Nat}(hz:∀z∈zs,z<4294967296)(h0:0<zs.length)(k:Nat) :
 qao hz h0 (k+1)=qao hz h0 k++[⟨(zs.length-1-k,zs[zs.length-1-k]?.getD 0),by simp only[];omega,qc8 hz _⟩]:=by
 simp[qao,List.range_succ]
theorem qwm{zs:List Nat}(hz:∀z∈zs,z<4294967296)(h0:0<zs.length)(k:Nat):(qao hz h0 k).length=k:=by simp[qao]
theorem qid{zs:List Nat}(hz:∀z∈zs,z<4294967296)(h0:0<zs.length){m:Nat}(hm:m<zs.length) :
 qao hz h0 (zs.length-m)=qao hz h0 (zs.length-(m+1))++[⟨(m,zs[m]?.getD 0),hm,qc8 hz _⟩]:=by
 have h1:zs.length-m=zs.length-(m+1)+1:=by omega
 rw[h1,qic]
 congr 2
 have h2:zs.length-1-(zs.length-(m+1))=m:=by omega
 exact Subtype.ext (by simp only[h2])
set_option maxRecDepth 100000 in
set_option maxHeartbeats 2000000 in
theorem qwn(F:Fence)(n:Nat)(h7:F.fn 234)(hro:F.round=none)(hn:1≤n)(l Bs n₀ b off cap:Nat)(zs:List Nat)(hz:∀z∈zs,z<4294967296)(hl:0<zs.length)(hreach:zs.length≤549755813888)(hb:b<n₀)(J Jx:List (Wo zs.length)→World→Prop)
 (hY:∀pre x W,J pre W→pre.length<zs.length→YieldAt F (n-1) Tryz.prog l (enW x) W fun e W'=>
   (e = .returned (.bool true)∧J (pre++[x]) W'∧Kb n₀ Bs W W')∨(e = .returned (.bool false)∧Jx (pre++[x]) W'))
 (W:World) (hBs:W.cell? ⟨Bs,0,none⟩=some (.slice (some ⟨b,off,none⟩) zs.length cap)) (hc:∀j,j<zs.length→W.cell? ⟨b,off+j,none⟩=some (.int .u32 ((zs[j]?.getD 0:Nat):Int))) (h0:J [] W) :
 CallsIn F n Tryz.prog 234 #[.func (.yield l) #[] #[],.pointer (some ⟨Bs,0,none⟩)] W fun e W'=>(∃v,e = .returned v) ∧
  ((∃ys,ys=qao hz hl zs.length∧J ys W')∨(∃pre,(∃k,k≤zs.length∧pre=qao hz hl k)∧Jx pre W')):=by
 refine callsIn_of_wp Tryz.func234 rfl h7 ?_ hro
 simp only[Tryz.ntmps234,Vh,zq,zB,Nat.reduceAdd,Nat.reduceSub,Xa,W7,Xl,Xe,zX,Vv]
 gi_wp2
 gi_loopw [3] (fun i wr=>∃m:Nat,m≤zs.length∧i = .int .i64 ((m:Int)-1)∧J (qao hz hl (zs.length-m)) wr∧Kb n₀ Bs W wr)
  (fun i _=>(intOf i+1).toNat)
 case atStart=>
  refine⟨zs.length,zE _,?_,?_,Kb.refl _ _ _⟩
  · rfl
  · rw[Vi];exact h0
 case round=>
  obtain⟨m,hm,rfl,hJs,hnx⟩:=hrel;have hBs':wr.cell? ⟨Bs,0,none⟩=some (.slice (some ⟨b,off,none⟩) zs.length cap):=(World.cell?_of_block (a:=⟨Bs,0,none⟩) hnx.2).trans hBs
  cases m with
  | zero=>
   have e0:(((0:Nat):Int)-1) = -1:=rfl
   rw[e0]
   gi_wp2
   go_end0
   exact⟨⟨_,rfl⟩,.inl ⟨_,rfl,hJs⟩⟩
  | succ m=>
   have e0:(((m+1:Nat):Int)-1)=(m:Int):=by omega
   rw[e0];have hcx:wr.cell? ⟨b,off+m,none⟩=some (.int .u32 ((zs[m]?.getD 0:Nat):Int)):=(hnx.1.cell (p:=⟨b,off+m,none⟩) hb).trans (hc m (by omega))
   obtain⟨fn,tmps,assign,body,hy,hR⟩:=hY _ ⟨(m,zs[m]?.getD 0),by simp only[];omega,qc8 hz _⟩ wr hJs (by rw[qwm];omega)
   dsimp only[enW]at hy
   gi_wp2
   refine hR.mono ?_
   rintro e W3 (⟨rfl,hJ3,hk3⟩ | ⟨rfl,hJx3⟩)
   · gi_wp2
     go_roundw
     case rel=>
      exact⟨m,by omega,rfl,by rw[qid hz hl (by omega)];exact hJ3,hnx.trans hk3⟩
     case measure=>simp only[intOf];omega
   · gi_wp2
     refine bodyPost_ret (results_none rfl _ _ _) rfl ?_
     exact⟨⟨_,rfl⟩,.inr ⟨_,⟨zs.length-m,by omega,(qid hz hl (by omega)).symm⟩,hJx3⟩⟩
theorem qm2(F:Fence)(n:Nat)(h7:F.fn 234)(hro:F.round=none)(l Bs:Nat)(sa:Option Addr)(cap:Nat)(K:World→Prop)(W:World)(hBs:W.cell? ⟨Bs,0,none⟩=some (.slice sa 0 cap))(h0:K W) :
 CallsIn F n Tryz.prog 234 #[.func (.yield l) #[] #[],.pointer (some ⟨Bs,0,none⟩)] W fun e W'=>(∃v,e = .returned v)∧K W':=by
 refine callsIn_of_wp Tryz.func234 rfl h7 ?_ hro
 simp only[Tryz.ntmps234,Vh,zq,zB,Nat.reduceAdd,Nat.reduceSub,Xa,W7,Xl,Xe,zX,Vv]
 gi_wp2
 gi_loopw [3] (fun i wr=>i = .int .i64 (-1)∧K wr) (fun _ _=>0)
 case atStart=>exact⟨rfl,h0⟩
 case round=>
  obtain⟨rfl,hJs⟩:=hrel
  gi_wp2
  go_end0
  exact⟨⟨_,rfl⟩,hJs⟩
set_option maxHeartbeats 1000000 in
theorem qm3(F:Fence)(n:Nat)(h5:F.fn 220)(hro:F.round=none)(a:Option Addr)(len cap:Nat)(w:World) :
 CallsIn F n Tryz.prog 220 #[.slice a len cap] w fun e w'=>e = .returned (.func (.func 234) #[] #[.pointer (some ⟨w.heap.size,0,none⟩)])∧w'=w.alloc (.cells #[.slice a len cap] 39):=by
 refine callsIn_of_wp Tryz.func220 rfl h5 ?_ hro
 simp only[Tryz.ntmps220,Vh,zq,zB,Nat.reduceAdd,Nat.reduceSub,Xa,W7,Xl,Xe,zX,Vv]
 gi_wp2
 go_ret
 exact⟨rfl,rfl⟩
def qie(n₀:Nat)(W:World)(sv:Value)(zs:List Nat):Prop :=
 (zs=[]∧∃a cap,sv = .slice a 0 cap)∨∃b off cap,sv = .slice (some ⟨b,off,none⟩) zs.length cap∧b<n₀∧∀j,j<zs.length→W.cell? ⟨b,off+j,none⟩=some (.int .u32 ((zs[j]?.getD 0:Nat):Int))
theorem qie.below{n₀:Nat}{A B:World}(h:Below n₀ A B){sv:Value}{zs:List Nat}:qie n₀ A sv zs→qie n₀ B sv zs
 | .inl e=>.inl e
 | .inr ⟨b,off,cap,e,hb,hc⟩=>.inr ⟨b,off,cap,e,hb,fun j hj=>(h.cell (p:=⟨b,off+j,none⟩) hb).trans (hc j hj)⟩
def All{zs:List Nat}(hz:∀z∈zs,z<4294967296)(ys:List (Wo zs.length)):Prop:=ys=[]∧zs.length=0∨∃hl:0<zs.length,ys=qao hz hl zs.length
theorem qoC(F:Fence)(n:Nat)(h7:F.fn 234)(hro:F.round=none)(hn:1≤n)(Bs n₀:Nat)(sv:Value)(zs:List Nat)(hz:∀z∈zs,z<4294967296)(hreach:zs.length≤549755813888)(w:World)(hBs:Bs<w.heap.size)(hn₀:n₀≤w.heap.size)
 (hc:w.cell? ⟨Bs,0,none⟩=some sv) (hI:qie n₀ w sv zs) :
 SeqStopsK F n Tryz.prog 234 #[.pointer (some ⟨Bs,0,none⟩)] (fun x:Wo zs.length=>enW x) (Kb n₀ Bs) (All hz) (fun _=>True) zs.length w:=fun l J Jx W hW _ _ hY h0=>by
 have hc':=(hW.cell (p:=⟨Bs,0,none⟩) hBs).trans hc
 rcases hI.below (hW.mono hn₀)with⟨h1,a,cap,rfl⟩ | ⟨b,off,cap,rfl,hb,hcs⟩
 · exact(qm2 F n h7 hro l Bs a cap (J []) W hc' h0).mono fun e W' ⟨he,hj⟩=>⟨he,.inl ⟨_,.inl ⟨rfl,by rw[h1];rfl⟩,hj⟩⟩
 · by_cases hl:0<zs.length
   · refine(qwn F n h7 hro hn l Bs n₀ b off cap zs hz hl hreach hb J Jx hY W hc' hcs h0).mono ?_
     rintro e W' ⟨he,⟨ys,rfl,hj⟩ | ⟨pre,_,hj⟩⟩
     · exact⟨he,.inl ⟨_,.inr ⟨hl,rfl⟩,hj⟩⟩
     · exact⟨he,.inr ⟨_,trivial,hj⟩⟩
   · have h2:zs.length=0:=by omega
     rw[h2]at hc';exact(qm2 F n h7 hro l Bs _ cap (J []) W hc' h0).mono fun e W' ⟨he,hj⟩=>⟨he,.inl ⟨_,.inl ⟨rfl,h2⟩,hj⟩⟩
end Go.Proofs.Sho
end
section
namespace Go.Proofs.Sho
open Go Go.RowKit Go.Shelf Go.Proofs
attribute [local go_sem] Oper.semAt_some
theorem qHb(n:Nat):madeCells (Value.int .u32 0).cells n=Array.replicate n (.int .u32 0):=by
 apply Array.ext
 · simp[size_madeCells]
 · intro i h1 h2
   simp[madeCells,Value.cells,XL]
theorem qAT:(Tryz.prog.info? 175).map (fun i=>(i.zero,i.size,i.bytes))=some (some (.int .u32 0),1,4):=by kernel_rfl
theorem qHc(n:Nat)(hn:n≤549755813888)(w:World) :
 (Instr.makeSlice 38 (.int .i64 (n:Int)) (.int .i64 (n:Int))).run Tryz.prog w = .ok (.slice (some ⟨w.heap.size,0,none⟩) n n) (w.alloc (.cells (Array.replicate n (.int .u32 0)) 175)):=by
 obtain⟨i,hi,h1,h2,h3⟩:=info_parts qAT;have h:=run_make (P:=Tryz.prog) w 38 175 i (.int .u32 0) (by kernel_rfl) hi h1 .i64 .i64 (n:Int) (n:Int) (by omega) (Vy _) (by rw[h3];omega) (by omega)
 rw[zl,h2,Wb,qHb]at h;exact h
theorem qbI{W:World}{B:Nat}{o:Obj}(h:W.heap[B]?=some o)(o':Obj):(W.alloc o').heap[B]?=some o:=((World.grownBy_alloc W o' none).block B (Km.1 h).1 (by simp)).trans h
theorem qwo(W:World)(k:Nat)(hk:W.heap.size=k)(o:Obj):(W.alloc o).heap[k]?=some o:=by subst hk;exact World.alloc_heap_new W o
theorem qeE{W:World}{a:Addr}{v:Value}{B:Nat}(h:a.block≠B):(W.setCell a v).heap[B]?=W.heap[B]?:=by
 show(W.heap.modify a.block _)[B]?=_
 rw[WU,zZ h]
theorem qFl{W:World}{B i:Nat}{v:Value}{c:Array Value}{t:TypeId}{fr:Nat×Nat}(h:W.heap[B]?=some (.cells c t fr)):(W.setCell ⟨B,i,none⟩ v).heap[B]?=some (.cells (c.setIfInBounds i v) t fr):=by
 show(W.heap.modify B _)[B]?=_
 rw[WU,Kp rfl,h];rfl
theorem qaX{W:World}{B i:Nat}{c:Array Value}{t:TypeId}{fr:Nat×Nat}{v:Value}(h:W.heap[B]?=some (.cells c t fr))(hi:c[i]?=some v):W.cell? ⟨B,i,none⟩=some v:=by
 simp[World.cell?,h,hi]
theorem qqJ{W:World}{B i:Nat}{c:Array Value}{t:TypeId}(h:W.heap[B]?=some (.cells c t (0,0))):W.frozen? ⟨B,i,none⟩=false:=by
 simp[World.frozen?,h]
theorem qqK{W W':World}{row:Option Nat}{B:Nat}{c:Array Value}{t:TypeId}{fr:Nat×Nat}(h:W.heap[B]?=some (.cells c t fr))(hg:W.grownBy W' row)(hr:∀r,row=some r→∃o:Obj,W.heap[r]?=some o∧o.isCells=false):W'.heap[B]?=some (.cells c t fr) :=
 (hg.block B (Km.1 h).1 (fun e=>by
   obtain⟨o,ho,hc⟩:=hr B e.symm;rw[h]at ho;cases ho;cases hc)).trans h
theorem qc9{n:Int}(h0:0≤n)(h1:n<18446744073709551616):IntKind.u64.wrap n=n:=by rw[IntKind.wrap_u64];omega
theorem qgG(n:Int):IntKind.u32.wrap n=n % 4294967296:=IntKind.wrap_u32 n
theorem qAU{x y r:Nat}(hr:x<2^r):x ||| y*2^r=x+y*2^r:=by
 have:=WZ hr y
 rw[zL,Xw,← this];omega
theorem qHd{R v:Nat}(hR:R<4294967296)(hv:v<4294967296):bits BinOp.or IntKind.u64 ((R:Int)*4294967296) (v:Int)=((R*4294967296+v:Nat):Int):=by
 have h:=Fly.qfw (a:=R*4294967296) (b:=v) (by omega) (by omega)
 rw[Xw,qAU (x:=v) (y:=R) (r:=32) (by simpa using hv),Wz v]at h;rw[← h,Kq];rfl
def stp(b:Nat){len:Nat}(s:Nat×List Nat)(x:Wo len):Nat×List Nat:=((s.1*4294967296+x.1.2) % b,s.2.set x.1.1 ((s.1*4294967296+x.1.2) / b % 4294967296))
def sf(b:Nat){len:Nat}(pre:List (Wo len)):Nat×List Nat:=pre.foldl (stp b) (0,List.replicate len 0)
theorem qku(b:Nat){len:Nat}(pre:List (Wo len))(x:Wo len):sf b (pre++[x])=stp b (sf b pre) x:=by simp[sf]
theorem qwp{b:Nat}(hb:0<b){len:Nat}(pre:List (Wo len)):(sf b pre).1<b:=by
 have:∀(l:List (Wo len)) (s:Nat×List Nat),s.1<b→(l.foldl (stp b) s).1<b:=by
  intro l;induction l with
  | nil=>exact fun s h=>h
  | cons x l ih=>exact fun s _=>ih _ (Vr _ hb)
 exact this pre _ hb
theorem qoD(b:Nat){len:Nat}(pre:List (Wo len)):(sf b pre).2.length=len:=by
 have:∀(l:List (Wo len)) (s:Nat×List Nat),s.2.length=len→(l.foldl (stp b) s).2.length=len:=by
  intro l;induction l with
  | nil=>exact fun s h=>h
  | cons x l ih=>exact fun s h=>ih _ (by simp[stp,h])
 exact this pre _ (by simp)
def Hid(p:Prop):Prop:=p
def vW(n:Nat):Value:=.int .u32 (n:Int)
structure Inv (B b:Nat) {len:Nat} (pre:List (Wo len)) (W:World):Prop where
 h0:W.heap[B]?=some (Obj.cells #[.int .u32 (b:Int)] 175 (0,0))
 h1:W.heap[B+1]?=some (Obj.cells ((sf b pre).2.map vW).toArray 175 (0,0))
 h2:W.heap[B+2]?=some (Obj.cells #[.slice (some ⟨B+1,0,none⟩) len len] 38 (0,0))
 h3:W.heap[B+3]?=some (Obj.cells #[.int .u64 ((sf b pre).1:Int)] 44 (0,0))
theorem Inv.own(B b:Nat)(len:Nat):Own (fun(pre:List (Wo len)) W=>Inv B b pre W) :=
 fun _ _ _ _ hs hg hr=>⟨qqK hs.h0 hg hr,qqK hs.h1 hg hr,qqK hs.h2 hg hr,qqK hs.h3 hg hr⟩
def qwq:Code :=
 Code.region 9
  #[{ dst:=some 34,op:=Op.load 38 (Operand.tmp 6),type:=38,pos:="nat.go:158",after:=#[],
      guard:=none },
    { dst:=some 35,
      op:=Op.call { callee:=Callee.value (Operand.func 148),args:=#[Operand.tmp 34],argTypes:=#[38] },
      type:=39,pos:="nat.go:158",after:=#[{ on:=0,ground:=Ground.data }],guard:=none },
    { dst:=some 36,op:=Op.load 44 (Operand.tmp 7),type:=44,pos:="nat.go:158",after:=#[],
      guard:=none },
    { dst:=some 37,
      op:=Op.call { callee:=Callee.value (Operand.func 78),args:=#[Operand.tmp 36],argTypes:=#[44] },
      type:=39,pos:="nat.go:158",
      after:=#[{ on:=2,ground:=Ground.data },{ on:=1,ground:=Ground.chain }],guard:=none },
    { dst:=some 4,op:=Op.assign (Operand.tmp 35),type:=39,pos:="nat.go:158",
      after :=
       #[{ on:=1,ground:=Ground.data },{ on:=3,ground:=Ground.chain },
         { on:=0,ground:=Ground.phase },{ on:=1,ground:=Ground.phase },
         { on:=2,ground:=Ground.textOnly Departure.lateStores },
         { on:=3,ground:=Ground.textOnly Departure.lateStoresUnsure }],
      guard:=none },
    { dst:=some 5,op:=Op.assign (Operand.tmp 37),type:=39,pos:="nat.go:158",
      after :=
       #[{ on:=3,ground:=Ground.data },{ on:=4,ground:=Ground.chain },
         { on:=0,ground:=Ground.phase },{ on:=1,ground:=Ground.phase },
         { on:=2,ground:=Ground.phase },{ on:=3,ground:=Ground.phase },
         { on:=4,ground:=Ground.phase }],
      guard:=none }]
  true
def qFm(B D b:Nat)(sa:Option Addr)(len cap:Nat):Act :=
 { tmps:=#[.slice sa len cap,.int .u32 (b:Int),undef,.pointer (some ⟨B,0,none⟩),.slice none 0 0,.slice none 0 0,.pointer (some ⟨B+2,0,none⟩),.pointer (some ⟨B+3,0,none⟩),undef,undef,
    .slice sa len cap,.int .i64 (len:Int),.slice (some ⟨B+1,0,none⟩) len len,.slice sa len cap,.func (.func 234) #[] #[.pointer (some ⟨B+4,0,none⟩)],
    undef,undef,undef,undef,undef,undef,undef,undef,undef,undef,undef,undef,undef,undef,undef,undef,undef,undef,undef,undef,undef,undef,undef],defers:=[{ target:=.collected D,args:=#[] }] }
theorem qwr{b len i v m d r1:Nat}{pre:List (Wo len)}{w W W0 W1:World}{hi:i<len}{hv:v<4294967296}(hW1:W.setCell { block:=w.heap.size+3,off:=0 } (Value.int IntKind.u64 (r1:Int))=W1)
 (_h3:W.heap[w.heap.size+3]?=some (Obj.cells #[.int .u64 ((sf b pre).1:Int)] 44 (0,0)))
 (g0:W1.heap[w.heap.size]?=some (Obj.cells #[.int .u32 (b:Int)] 175 (0,0))) (g1:W1.heap[w.heap.size+1]?=some (Obj.cells ((sf b pre).2.map vW).toArray 175 (0,0)))
 (g2:W1.heap[w.heap.size+2]?=some (Obj.cells #[.slice (some ⟨w.heap.size+1,0,none⟩) len len] 38 (0,0))) (g3:W1.heap[w.heap.size+3]?=some (Obj.cells #[.int .u64 (r1:Int)] 44 (0,0)))
 (hst:Hid (stp b (sf b pre) (⟨(i,v),hi,hv⟩:Wo len)=(m,(sf b pre).2.set i d))) (hB:Below w.heap.size w W) (_hsz:W0.heap.size=w.heap.size+5) :
 KeepsFrom W0.heap.size W ((W1.setCell ⟨w.heap.size+1,i,none⟩ (.int .u32 (d:Int))).setCell ⟨w.heap.size+3,0,none⟩ (.int .u64 (m:Int))).drew ∧
  Kb w.heap.size (w.heap.size+4) W ((W1.setCell ⟨w.heap.size+1,i,none⟩ (.int .u32 (d:Int))).setCell ⟨w.heap.size+3,0,none⟩ (.int .u64 (m:Int))).drew ∧
  (Inv w.heap.size b (pre++[(⟨(i,v),hi,hv⟩:Wo len)]) ((W1.setCell ⟨w.heap.size+1,i,none⟩ (.int .u32 (d:Int))).setCell ⟨w.heap.size+3,0,none⟩ (.int .u64 (m:Int))).drew ∧
    Below w.heap.size w ((W1.setCell ⟨w.heap.size+1,i,none⟩ (.int .u32 (d:Int))).setCell ⟨w.heap.size+3,0,none⟩ (.int .u64 (m:Int))).drew):=by
 have hst:stp b (sf b pre) (⟨(i,v),hi,hv⟩:Wo len)=(m,(sf b pre).2.set i d):=hst
 have hbl:Below w.heap.size W ((W1.setCell ⟨w.heap.size+1,i,none⟩ (.int .u32 (d:Int))).setCell ⟨w.heap.size+3,0,none⟩ (.int .u64 (m:Int))).drew:=by
  rw[← hW1];exact((((Below.refl _ W).setCell (p:=⟨w.heap.size+3,0,none⟩) (by simp) _).setCell (p:=⟨w.heap.size+1,i,none⟩) (by simp) _).setCell (p:=⟨w.heap.size+3,0,none⟩) (by simp) _).drew
 refine⟨?_,⟨hbl,?_⟩,⟨?_,?_,?_,?_⟩,hB.trans hbl⟩
 · rw[← hW1]
   exact((((KeepsOthers.setCell _ _ _).trans (KeepsOthers.setCell _ _ _)).trans (KeepsOthers.setCell _ _ _)).trans (KeepsOthers.drew _)).from _
 · show((W1.setCell _ _).setCell _ _).heap[w.heap.size+4]?=_
   rw[qeE (by simp),qeE (by simp),← hW1,qeE (by simp)]
 · show((W1.setCell _ _).setCell _ _).heap[w.heap.size]?=_
   rw[qeE (by simp),qeE (by simp)];exact g0
 · show((W1.setCell _ _).setCell _ _).heap[w.heap.size+1]?=_
   rw[qeE (by simp),qFl g1,qku,hst];simp[WO,vW]
 · show((W1.setCell _ _).setCell _ _).heap[w.heap.size+2]?=_
   rw[qeE (by simp),qeE (by simp)];exact g2
 · show((W1.setCell _ _).setCell _ _).heap[w.heap.size+3]?=_
   rw[qFl ((qeE (by simp)).trans g3),qku,hst];rfl
set_option maxRecDepth 100000 in
set_option maxHeartbeats 4000000 in
theorem qws(F:Fence)(n:Nat)(h3:F.fn 191)(h5:F.fn 220)(h7:F.fn 234)(hro:F.round=none)(hn:3≤n)(sa:Option Addr)(cap:Nat)(b:Nat)(hb0:0<b)(hb1:b<4294967296)(zs:List Nat)(hz:∀z∈zs,z<4294967296)(hreach:zs.length≤549755813888)(w:World)
 (hI:qie w.heap.size w (.slice sa zs.length cap) zs) {Q:Ending→World→Prop}
 (hdone:∀(D:Nat) (ys:List (Wo zs.length)) (W:World) (Kc:Act→World→Prop),(∀a w',Code.wpIn F n Tryz.prog Code.ret (bodyPostM F n Tryz.prog Tryz.f191 Q) a w'→Kc a w')→w.heap.size+5≤D→All hz ys→Inv w.heap.size b ys W→Below w.heap.size w W →
   W.heap[D]?=some (.deferred (some []))→Code.wpIn F n Tryz.prog qwq (Exit.then Kc (bodyPostM F n Tryz.prog Tryz.f191 Q)) (qFm w.heap.size D b sa zs.length cap) W) :
 CallsIn F n Tryz.prog 191 #[.slice sa zs.length cap,.int .u32 (b:Int)] w Q:=by
 have h1:1≤n:=by omega
 refine callsIn_of_wp_marks Tryz.func191 rfl h3 ?_ hro
 simp only[Tryz.ntmps191,Vh,zq,zB,Nat.reduceAdd,Nat.reduceSub,Xa,W7,Xl,Xe,zX,Vv];have hmk:=qHc zs.length hreach
 gi_wp2_with (gi_at_call 220;refine(qm3 F (n-1) h5 hro _ _ _ _).mono ?_;rintro e w' ⟨rfl,rfl⟩)
 obtain⟨W0,hW0⟩:∃W0,((((w.alloc (Obj.cells #[Value.int IntKind.u32 (b:Int)] 175)).alloc (Obj.cells (Array.replicate zs.length (Value.int IntKind.u32 0)) 175)).alloc
  (Obj.cells #[Value.slice (some { block:=w.heap.size+1,off:=0 }) zs.length zs.length] 38)).alloc (Obj.cells #[Value.int IntKind.u64 0] 44)).alloc (Obj.cells #[Value.slice sa zs.length cap] 39)=W0:=⟨_,rfl⟩
 rw[hW0];have hB0:Below w.heap.size w W0:=by rw[← hW0];exact(((((Below.refl _ w).alloc (zE _) _).alloc (by simp) _).alloc (by simp;omega) _).alloc (by simp;omega) _).alloc (by simp;omega) _
 have hsz:W0.heap.size=w.heap.size+5:=by rw[← hW0];simp only[World.size_alloc]
 have hJ0:Inv w.heap.size b ([]:List (Wo zs.length)) W0:=by
  rw[← hW0];refine⟨qbI (qbI (qbI (qbI (qwo _ _ rfl _) _) _) _) _,?_,qbI (qbI (qwo _ _ (by simp only[World.size_alloc]) _) _) _,qbI (qwo _ _ (by simp only[World.size_alloc]) _) _⟩
  have e:((sf b ([]:List (Wo zs.length))).2.map vW).toArray=Array.replicate zs.length (Value.int IntKind.u32 0):=by
   show((List.replicate zs.length 0).map vW).toArray=_
   rw[We];exact List.toArray_replicate ..
  rw[e];exact qbI (qbI (qbI (qwo _ _ (by simp only[World.size_alloc]) _) _) _) _
 have hbx:W0.cell? ⟨w.heap.size+4,0,none⟩=some (.slice sa zs.length cap):=by
  rw[← hW0];exact qaX (qwo _ _ (by simp only[World.size_alloc]) _) rfl
 refine wpIn_rangeFunc_ownG hro h1 (gf:=234) (lb:=#[.pointer (some ⟨w.heap.size+4,0,none⟩)]) rfl h7 (enters_of Tryz.func234 (by kernel_rfl) rfl)
  (qoC F (n-1) h7 hro (by omega) (w.heap.size+4) w.heap.size _ zs hz hreach W0 (by omega) (by omega) hbx (hI.below hB0)) Kb.trans
  (fun W l o o' hl ho hc _=>⟨belowK_b (w:=w) (zE _) W l o o' (by omega) ho hc (by assumption),World.putObj_heap_other (by omega)⟩) (Below.refl _ _) (fun _=>rfl)
  (fun pre W=>Inv w.heap.size b pre W∧Below w.heap.size w W)
  (fun _ _ _=>False)
  (OwnFrom.and ((Inv.own w.heap.size b zs.length).from _) (ownFrom_below (zE _) (by omega)))
  (fun _ _ _ _ _ hs _ _=>hs)
  ⟨hJ0,hB0⟩
  (fun x=>{ tmps:=#[.slice sa zs.length cap,.int .u32 (b:Int),undef,.pointer (some ⟨w.heap.size,0,none⟩),.slice none 0 0,.slice none 0 0,.pointer (some ⟨w.heap.size+2,0,none⟩),.pointer (some ⟨w.heap.size+3,0,none⟩),.int .i64 (x.1.1:Int),.int .u32 (x.1.2:Int),
    .slice sa zs.length cap,.int .i64 (zs.length:Int),.slice (some ⟨w.heap.size+1,0,none⟩) zs.length zs.length,.slice sa zs.length cap,.func (.func 234) #[] #[.pointer (some ⟨w.heap.size+4,0,none⟩)],.int .i64 (x.1.1:Int),.int .u32 (x.1.2:Int),
    undef,undef,undef,undef,undef,undef,undef,undef,undef,undef,undef,undef,undef,undef,undef,undef,undef,undef,undef,undef,undef],defers:=[] }) ?assign ?body ?done ?stop
 case assign=>
  intro l x W K hK;dsimp only[enW]
  gi_wp2
  exact hK
 case body=>
  rintro l pre ⟨⟨i,v⟩,hi,hv⟩ W ⟨hS,hB⟩ _
  dsimp only at hi hv;have c0:=qaX hS.h0 (i:=0) rfl
  have c2:=qaX hS.h2 (i:=0) rfl
  have c3:=qaX hS.h3 (i:=0) rfl
  have f3:=qqJ (i:=0) hS.h3
  have f1:=qqJ (i:=i) hS.h1
  have hr:=qwp hb0 pre;have hmx:Tryz.prog.follows .mixedOrders=true:=by kernel_rfl
  have hor:bits BinOp.or IntKind.u64 (((sf b pre).1:Int)*4294967296) (v:Int)=(((sf b pre).1*4294967296+v:Nat):Int):=qHd (by omega) hv
  gi_wp2
  obtain⟨r1,hr1⟩:∃r1:Nat,(sf b pre).1*4294967296+v=r1:=⟨_,rfl⟩
  have hr2:((sf b pre).1:Int)*4294967296+(v:Int)=(r1:Int):=by rw[← hr1];simp
  have hr3:r1<18446744073709551616:=by omega
  rw[hr2];clear hor hr2;obtain⟨W1,hW1⟩:∃W1,W.setCell { block:=w.heap.size+3,off:=0 } (Value.int IntKind.u64 (r1:Int))=W1:=⟨_,rfl⟩
  rw[hW1];have g0:W1.heap[w.heap.size]?=some (Obj.cells #[.int .u32 (b:Int)] 175 (0,0)):=by rw[← hW1,qeE (by simp)];exact hS.h0
  have g1:W1.heap[w.heap.size+1]?=some (Obj.cells ((sf b pre).2.map vW).toArray 175 (0,0)):=by rw[← hW1,qeE (by simp)];exact hS.h1
  have g2:W1.heap[w.heap.size+2]?=some (Obj.cells #[.slice (some ⟨w.heap.size+1,0,none⟩) zs.length zs.length] 38 (0,0)):=by rw[← hW1,qeE (by simp)];exact hS.h2
  have g3:W1.heap[w.heap.size+3]?=some (Obj.cells #[.int .u64 (r1:Int)] 44 (0,0)):=by rw[← hW1];exact qFl hS.h3
  have c0':=qaX g0 (i:=0) rfl
  have c2':=qaX g2 (i:=0) rfl
  have c3':=qaX g3 (i:=0) rfl
  have f3':=qqJ (i:=0) g3
  have f1':=qqJ (i:=i) g1
  have hb2 : ¬((b:Int)=0):=by omega
  have hb3 : ¬(b=0):=by omega
  have hsl:=qoD b pre;obtain⟨Qi,hQi⟩:∃Qi,(sf b pre).2[i]?=some Qi:=⟨_,zD (by omega)⟩
  have c1':W1.cell? ⟨w.heap.size+1,i,none⟩=some (.int .u32 (Qi:Int)):=qaX g1 (by rw[X6,KQ,hQi];rfl)
  have hwb:IntKind.u64.wrap (b:Int)=(b:Int):=qc9 (by omega) (by omega)
  obtain⟨q,hq⟩:∃q,r1 / b=q:=⟨_,rfl⟩
  have hql:q≤r1:=by rw[← hq];exact VG _ _
  have hq1:IntKind.u64.wrap ((r1:Int) / (b:Int))=(q:Int):=by rw[← hq,← Int.natCast_ediv];exact qc9 (by omega) (by omega)
  obtain⟨d,hd⟩:∃d,q % 4294967296=d:=⟨_,rfl⟩
  have hd1:IntKind.u32.wrap (q:Int)=(d:Int):=by rw[qgG,← hd];omega
  obtain⟨m,hm⟩:∃m,r1 % b=m:=⟨_,rfl⟩
  have hm1:(r1:Int) % (b:Int)=(m:Int):=by rw[← hm,Int.natCast_emod]
  have hm2:(r1:Int).tmod (b:Int)=(m:Int):=by rw[Wp (by omega)];exact hm1
  have hst:Hid (stp b (sf b pre) (⟨(i,v),hi,hv⟩:Wo zs.length)=(m,(sf b pre).2.set i d)):=by
   show(((sf b pre).1*4294967296+v) % b,(sf b pre).2.set i (((sf b pre).1*4294967296+v) / b % 4294967296))=_
   rw[hr1,hm,hq,hd]
  clear hq hd hm
  gi_region_o
  all_goals gi_wp2
  all_goals exact qwr (hi:=hi) (hv:=hv) hW1 hS.h3 g0 g1 g2 g3 hst hB hsz
 case done=>
  rintro D ys W hD hA ⟨hS,hB⟩ hK
  gi_wp2
  exact hdone D ys W _ (by assumption) (by omega) hA hS hB hK
 case stop=>
  rintro D c pre W _ _ h _
  exact h.elim
end Go.Proofs.Sho
end
section
namespace Su
noncomputable section
open Go Go.Proofs Fly
set_option maxRecDepth 100000
abbrev OkT(f:Nat)(p:PrimD):Prop:=Ok1 Tryz.prog tb Jv.sound f p
abbrev PkT(q:qp):Prop:=QI Tryz.prog tb Jv.sound q
theorem qsc(fu:Nat)  (f:Int):qz tb qrF (shN tb qrF fu 9) fu 142 ((d1 (cI .u64)).enc (f)) (dc cB (dc (cI .i64) (d1 (cI .u64)))).dec=qn3 f:=by kernel_rfl
def qm4:PrimD:=prim (d1 (cI .u64)) (dc cB (dc (cI .i64) (d1 (cI .u64)))) (qlW)
theorem qwt:OkT 142 qm4:=qj qy qju (by kernel_rfl) fun a y hg h=>⟨0,9,0,(qsc 0 a).trans (qrH a y hg h)⟩
theorem qwu(fu:Nat)  (neg:Bool)(exp:Int)(frac:Int):qz tb qrF (shN tb qrF fu 9) fu 197 ((dc cB (dc (cI .i64) (d1 (cI .u64)))).enc (neg,exp,frac)) (dc (cI .u64) (d1 (cI .i64))).dec=qt9 neg exp frac:=by kernel_rfl
def qqL:PrimD:=prim (dc cB (dc (cI .i64) (d1 (cI .u64)))) (dc (cI .u64) (d1 (cI .i64))) (ZX)
theorem qAV:OkT 197 qqL:=qj qy qju (by kernel_rfl) fun a y hg h=>⟨0,9,0,(qwu 0 a.1 a.2.1 a.2.2).trans (qua a y hg h)⟩
def Zh:qp:=qV [(142,qm4),(197,qqL)] qrF
theorem ZG:PkT Zh:=qn qju (qf qwt (qf qAV qr))
end
end Su
end
section
namespace Su
noncomputable section
open Go Go.Proofs Fly
set_option maxRecDepth 100000
theorem qsd(fu:Nat)  (f:Int):qz tb Zh (shN tb Zh fu 9) fu 61 ((d1 (cI .u64)).enc (f)) (d1 (cI .u8)).dec=qn5 f:=by kernel_rfl
def qm5:PrimD:=prim (d1 (cI .u64)) (d1 (cI .u8)) (qlX)
theorem qwv:OkT 61 qm5:=qj qy ZG (by kernel_rfl) fun a y hg h=>⟨0,9,0,(qsd 0 a).trans (qrI a y hg h)⟩
theorem qAW(fu:Nat)  (f:Int):qz tb Zh (shN tb Zh fu 9) fu 83 ((d1 (cI .u64)).enc (f)) (d1 (cI .i64)).dec=qDP f:=by kernel_rfl
def qww:PrimD:=prim (d1 (cI .u64)) (d1 (cI .i64)) (quc)
theorem qFn:OkT 83 qww:=qj qy ZG (by kernel_rfl) fun a y hg h=>⟨0,9,0,(qAW 0 a).trans (qy7 a y hg h)⟩
theorem qAX(fu:Nat)  (neg:Bool):qz tb Zh (shN tb Zh fu 9) fu 157 ((d1 cB).enc (neg)) (d1 (cI .u64)).dec=pInf neg:=by kernel_rfl
def qwx:PrimD:=prim (d1 cB) (d1 (cI .u64)) (qud)
theorem qFo:OkT 157 qwx:=qj qy ZG (by kernel_rfl) fun a y hg h=>⟨0,9,0,(qAX 0 a).trans (qy8 a y hg h)⟩
theorem qse(fu:Nat) :qz tb Zh (shN tb Zh fu 9) fu 203 (d0.enc ()) (d1 (cI .u64)).dec=qub :=by kernel_rfl
def qm6:PrimD:=prim d0 (d1 (cI .u64)) (fun _=>qub)
theorem qwy:OkT 203 qm6:=qj qy ZG (by kernel_rfl) fun a y hg h=>⟨0,9,0,(qse 0 ).trans h⟩
def qdT:qp:=qV [(61,qm5),(83,qww),(157,qwx),(203,qm6)] Zh
theorem qdU:PkT qdT:=qn ZG (qf qwv (qf qFn (qf qFo (qf qwy qr))))
end
end Su
end
section
namespace Su
noncomputable section
open Go Go.Proofs Fly
set_option maxRecDepth 100000
theorem qsf(fu:Nat)  (f:Int):qz tb qdT (shN tb qdT fu 9) fu 62 ((d1 (cI .u64)).enc (f)) (dc (cI .u64) (d1 (cI .i64))).dec=qn6 f:=by kernel_rfl
def qm7:PrimD:=prim (d1 (cI .u64)) (dc (cI .u64) (d1 (cI .i64))) (qlY)
theorem qwz:OkT 62 qm7:=qj qy qdU (by kernel_rfl) fun a y hg h=>⟨0,9,0,(qsf 0 a).trans (qrJ a y hg h)⟩
theorem qAY(fu:Nat)  (f:Int):qz tb qdT (shN tb qdT fu 9) fu 82 ((d1 (cI .u64)).enc (f)) (d1 cB).dec=qDQ f:=by kernel_rfl
def qwA:PrimD:=prim (d1 (cI .u64)) (d1 cB) (que)
theorem qFp:OkT 82 qwA:=qj qy qdU (by kernel_rfl) fun a y hg h=>⟨0,9,0,(qAY 0 a).trans (qy9 a y hg h)⟩
def qaY:qp:=qV [(62,qm7),(82,qwA)] qdT
theorem qbr:PkT qaY:=qn qdU (qf qwz (qf qFp qr))
end
end Su
end
section
namespace Su
noncomputable section
open Go Go.Proofs Fly
set_option maxRecDepth 100000
theorem qAZ(fu:Nat)  (a:Int)(b:Int):qz tb qaY (shN tb qaY fu 9) fu 30 ((dc (cI .u64) (d1 (cI .u64))).enc (a,b)) (dc (cI .i64) (d1 cB)).dec=qDR a b:=by kernel_rfl
def qwB:PrimD:=prim (dc (cI .u64) (d1 (cI .u64))) (dc (cI .i64) (d1 cB)) (quf)
theorem qFq:OkT 30 qwB:=qj qy qbr (by kernel_rfl) fun a y hg h=>⟨0,9,0,(qAZ 0 a.1 a.2).trans (qza a y hg h)⟩
theorem qA0(fu:Nat)  (f:Int):qz tb qaY (shN tb qaY fu 9) fu 125 ((d1 (cI .u64)).enc (f)) (d1 (cI .u64)).dec=qDS f:=by kernel_rfl
def qwC:PrimD:=prim (d1 (cI .u64)) (d1 (cI .u64)) (qug)
theorem qFr:OkT 125 qwC:=qj qy qbr (by kernel_rfl) fun a y hg h=>⟨0,9,0,(qA0 0 a).trans (qzb a y hg h)⟩
theorem qA1(fu:Nat)  (f:Int):qz tb qaY (shN tb qaY fu 9) fu 122 ((d1 (cI .u64)).enc (f)) (d1 (cI .u64)).dec=qDT f:=by kernel_rfl
def qwD:PrimD:=prim (d1 (cI .u64)) (d1 (cI .u64)) (quh)
theorem qFs:OkT 122 qwD:=qj qy qbr (by kernel_rfl) fun a y hg h=>⟨0,9,0,(qA1 0 a).trans (qzc a y hg h)⟩
def qkv:qp:=qV [(30,qwB),(125,qwC),(122,qwD)] qaY
theorem qif:PkT qkv:=qn qbr (qf qFq (qf qFr (qf qFs qr)))
end
end Su
end
section
namespace Su
noncomputable section
open Go Go.Proofs Fly
set_option maxRecDepth 100000
theorem qwE(fu:Nat)  (a:Int)(b:Int):qz tb qkv (shN tb qkv fu 9) fu 131 ((dc (cI .u64) (d1 (cI .u64))).enc (a,b)) (d1 cB).dec=qui a b:=by kernel_rfl
def qqM:PrimD:=prim (dc (cI .u64) (d1 (cI .u64))) (d1 cB) (qpE)
theorem qA2:OkT 131 qqM:=qj qy qif (by kernel_rfl) fun a y hg h=>⟨0,9,0,(qwE 0 a.1 a.2).trans (quj a y hg h)⟩
def qkw:qp:=qV [(131,qqM)] qkv
theorem qig:PkT qkw:=qn qif (qf qA2 qr)
end
end Su
end
section
namespace Su
noncomputable section
open Go Go.Proofs Fly
set_option maxRecDepth 100000
theorem qHe(fu:Nat)  (a:(List Int))(i:Int):qz tb qkw (shN tb qkw fu 9) fu 149 ((dc (cQ 1 1) (d1 (cI .i64))).enc (a,i)) (d1 (cI .u64)).dec=At a i:=by kernel_rfl
def At_p:PrimD:=prim (dc (cQ 1 1) (d1 (cI .i64))) (d1 (cI .u64)) (fun a=>At a.1 a.2)
theorem At_c:OkT 149 At_p:=qj qy qig (by kernel_rfl) fun a y hg h=>⟨0,9,0,(qHe 0 a.1 a.2).trans h⟩
def qkx:qp:=qV [(149,At_p)] qkw
theorem qih:PkT qkx:=qn qig (qf At_c qr)
end
end Su
end
section
namespace Su
noncomputable section
open Go Go.Proofs Fly
set_option maxRecDepth 100000
theorem qA3(fu:Nat)(a:(List Int)):qz tb qkx (shN tb qkx fu 9) fu 148 ((d1 (cQ 1 1)).enc (a)) (d1 (cQ 1 1)).dec=qDU fu a:=by kernel_rfl
def qwF:PrimD:=prim (d1 (cQ 1 1)) (d1 (cQ 1 1)) (qjC)
theorem qwG:OkT 148 qwF:=qj qy qih (by kernel_rfl) fun a y hg h=>by
 obtain⟨n,hn⟩:=qzd a y hg h;exact⟨n,9,n,(qA3 n a).trans hn⟩
def Zi:qp:=qV [(148,qwF)] qkx
theorem ZH:PkT Zi:=qn qih (qf qwG qr)
end
end Su
end
section
namespace Su
noncomputable section
open Go Go.Proofs Fly
set_option maxRecDepth 100000
theorem qFt(fu:Nat)(a:(List Int))(b:(List Int)):qz tb Zi (shN tb Zi fu 9) fu 118 ((dc (cQ 1 1) (d1 (cQ 1 1))).enc (a,b)) (d1 (cQ 1 1)).dec=Add fu a b:=by kernel_rfl
def qCM:PrimD:=prim (dc (cQ 1 1) (d1 (cQ 1 1))) (d1 (cQ 1 1)) (ql3)
theorem qHf:OkT 118 qCM:=qj qy ZH (by kernel_rfl) fun a y hg h=>by
 obtain⟨n,hn⟩:=qDV a y hg h;exact⟨n,9,n,(qFt n a.1 a.2).trans hn⟩
theorem qFu(fu:Nat)(a:(List Int))(b:(List Int)):qz tb Zi (shN tb Zi fu 9) fu 68 ((dc (cQ 1 1) (d1 (cQ 1 1))).enc (a,b)) (d1 (cI .i64)).dec=Cmp fu a b:=by kernel_rfl
def qCN:PrimD:=prim (dc (cQ 1 1) (d1 (cQ 1 1))) (d1 (cI .i64)) (qCq)
theorem qHg:OkT 68 qCN:=qj qy ZH (by kernel_rfl) fun a y hg h=>by
 obtain⟨n,hn⟩:=qDW a y hg h;exact⟨n,9,n,(qFu n a.1 a.2).trans hn⟩
theorem qFv(fu:Nat)  (x:Int):qz tb Zi (shN tb Zi fu 9) fu 78 ((d1 (cI .u64)).enc (x)) (d1 (cQ 1 1)).dec=New x:=by kernel_rfl
def qCO:PrimD:=prim (d1 (cI .u64)) (d1 (cQ 1 1)) (fun a=>New a)
theorem qCP:OkT 78 qCO:=qj qy ZH (by kernel_rfl) fun a y hg h=>⟨0,9,0,(qFv 0 a).trans h⟩
theorem qwH(fu:Nat)  (x:Int):qz tb Zi (shN tb Zi fu 9) fu 189 ((d1 (cI .u32)).enc (x)) (d1 (cI .i64)).dec=qhP x:=by kernel_rfl
def qqN:PrimD:=prim (d1 (cI .u32)) (d1 (cI .i64)) (fun a=>qhP a)
theorem qA4:OkT 189 qqN:=qj qy ZH (by kernel_rfl) fun a y hg h=>⟨0,9,0,(qwH 0 a).trans h⟩
def qdV:qp:=qV [(118,qCM),(68,qCN),(78,qCO),(189,qqN)] Zi
theorem qdW:PkT qdV:=qn ZH (qf qHf (qf qHg (qf qCP (qf qA4 qr))))
end
end Su
end
section
namespace Su
noncomputable section
open Go Go.Proofs Fly
set_option maxRecDepth 100000
theorem qFw(fu:Nat)  (a:(List Int)):qz tb qdV (shN tb qdV fu 9) fu 145 ((d1 (cQ 1 1)).enc (a)) (d1 (cI .i64)).dec=Len a:=by kernel_rfl
def qCQ:PrimD:=prim (d1 (cQ 1 1)) (d1 (cI .i64)) (fun a=>Len a)
theorem qHh:OkT 145 qCQ:=qj qy qdW (by kernel_rfl) fun a y hg h=>⟨0,9,0,(qFw 0 a).trans h⟩
theorem qFx(fu:Nat)(a:(List Int))(b:(List Int)):qz tb qdV (shN tb qdV fu 9) fu 67 ((dc (cQ 1 1) (d1 (cQ 1 1))).enc (a,b)) (d1 (cQ 1 1)).dec=Mul fu a b:=by kernel_rfl
def qCR:PrimD:=prim (dc (cQ 1 1) (d1 (cQ 1 1))) (d1 (cQ 1 1)) (qaH)
theorem qHi:OkT 67 qCR:=qj qy qdW (by kernel_rfl) fun a y hg h=>by
 obtain⟨n,hn⟩:=qDX a y hg h;exact⟨n,9,n,(qFx n a.1 a.2).trans hn⟩
def qwI:qp:=qV [(145,qCQ),(67,qCR)] qdV
theorem qsg:PkT qwI:=qn qdW (qf qHh (qf qHi qr))
end
end Su
end
section
namespace Su
open Go Go.Proofs Fly
set_option maxRecDepth 100000
noncomputable def qdX:qp:=qV [] qwI
theorem qdY:PkT qdX:=qn qsg qr
end Su
end
section
namespace Su
noncomputable section
open Go Go.Proofs Fly
set_option maxRecDepth 100000
theorem qFy(fu:Nat)(a:(List Int))(sh:Int):qz tb qdX (shN tb qdX fu 9) fu 195 ((dc (cQ 1 1) (d1 (cI .i64))).enc (a,sh)) (d1 (cQ 1 1)).dec=Shr fu a sh:=by kernel_rfl
def qCS:PrimD:=prim (dc (cQ 1 1) (d1 (cI .i64))) (d1 (cQ 1 1)) (qCr)
theorem qHj:OkT 195 qCS:=qj qy qdY (by kernel_rfl) fun a y hg h=>by
 obtain⟨n,hn⟩:=qDY a y hg h;exact⟨n,9,n,(qFy n a.1 a.2).trans hn⟩
theorem qFz(fu:Nat)(a:(List Int))(sh:Int):qz tb qdX (shN tb qdX fu 9) fu 143 ((dc (cQ 1 1) (d1 (cI .i64))).enc (a,sh)) (dc (cQ 1 1) (d1 (cI .i64))).dec=Shl fu a sh:=by kernel_rfl
def qCT:PrimD:=prim (dc (cQ 1 1) (d1 (cI .i64))) (dc (cQ 1 1) (d1 (cI .i64))) (qhT)
theorem qHk:OkT 143 qCT:=qj qy qdY (by kernel_rfl) fun a y hg h=>by
 obtain⟨n,hn⟩:=qDZ a y hg h;exact⟨n,9,n,(qFz n a.1 a.2).trans hn⟩
def qky:qp:=qV [(195,qCS),(143,qCT)] qdX
theorem qii:PkT qky:=qn qdY (qf qHj (qf qHk qr))
end
end Su
end
section
namespace Su
noncomputable section
open Go Go.Proofs Fly
set_option maxRecDepth 100000
theorem qFA(fu:Nat)(a:(List Int))(b:(List Int)):qz tb qky (shN tb qky fu 9) fu 119 ((dc (cQ 1 1) (d1 (cQ 1 1))).enc (a,b)) (dc (cQ 1 1) (d1 cB)).dec=Sub fu a b:=by kernel_rfl
def qCU:PrimD:=prim (dc (cQ 1 1) (d1 (cQ 1 1))) (dc (cQ 1 1) (d1 cB)) (qhV)
theorem qHl:OkT 119 qCU:=qj qy qii (by kernel_rfl) fun a y hg h=>by
 obtain⟨n,hn⟩:=qD0 a y hg h;exact⟨n,9,n,(qFA n a.1 a.2).trans hn⟩
def qwJ:qp:=qV [(119,qCU)] qky
theorem qsh:PkT qwJ:=qn qii (qf qHl qr)
end
end Su
end
