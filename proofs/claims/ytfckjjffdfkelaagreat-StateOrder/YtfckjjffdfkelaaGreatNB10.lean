/-
  What functions of the program compute, in plain Lean, and that the evaluator finds it.
-/
import Derived.Test.YtfckjjffdfkelaaGreatSuSd
import Derived.Test.YtfckjjffdfkelaaGreatNB09
set_option maxRecDepth 10000
section
namespace Su
open Go Fly
set_option linter.unusedVariables false
noncomputable section
def qm0:((List Int)×((List Int)×Unit))→Option (((List Int)×((List Int)×Unit)) ⊕ ((List Int)×((List Int)×Unit))):=fun p2=>(bif (decide ((0<(((List.length p2.2.1):Nat):Int)))) then
 ((Su.qbS (p2.1,p2.2.1))).bind fun x3 =>
 some (.inl (p2.2.1,(x3.2.1,())))
 else
  some (.inr (p2.1,(p2.2.1,()))))
def Gcd  (fu:Nat) (a:(List Int)) (b:(List Int)):Option (List Int) :=
 ((Su.Qb (Su.ofN (Su.qa a)))).bind fun x0 =>
 ((Su.Qb (Su.ofN (Su.qa b)))).bind fun x1 =>
 (itP fu (qm0) (x0,(x1,()))).bind fun x4 =>
 some x4.1
theorem Qc {v k:Nat} (h:v<4294967296^k):(ofN v).length≤k:=by
 have h1:=jk (qlb k v) (qop k v)
 rw [qtw,Nat.mod_eq_of_lt h,qlc] at h1
 exact h1
theorem J7 {u v:Nat} (h:u≤v):(ofN u).length≤(ofN v).length:=Qc (Nat.lt_of_le_of_lt h y5)
theorem qEv {va vb:Nat} (h1:(ofN va).length≤1000000) (h2:(ofN vb).length≤1000000) (hb:vb≠0):qbS (ofN va,ofN vb)=some (ofN (va / vb),(ofN (va % vb),0)):=by
 unfold qbS
 simp only [valN_ofN]
 rw [Nat.ble_eq_true_of_le h1,Nat.ble_eq_true_of_le h2,Bool.and_self,cond_true,if_neg hb]
theorem qtE:∀ (vb va:Nat),(ofN va).length≤1000000→(ofN vb).length≤1000000→∃ w,∃ n,itP n qm0 (ofN va,(ofN vb,()))=some (ofN (Nat.gcd va vb),(w,())):=by
 intro vb
 induction vb using Nat.strongRecOn with
 | _ vb ih =>
  intro va h1 h2
  by_cases hb:vb=0
  · subst hb
    refine ⟨[],yw ?_⟩
    rw [Nat.gcd_zero_right];rfl
  · have hlt:=Nat.mod_lt va (Nat.pos_of_ne_zero hb)
    obtain ⟨w,hn⟩:=ih (va % vb) hlt vb h2 (Nat.le_trans (J7 (Nat.le_of_lt hlt)) h2)
    refine ⟨w,yv ?_ (by rw [Nat.gcd_comm va vb,Nat.gcd_rec vb va,Nat.gcd_comm];exact hn)⟩
    have hl:0<(ofN vb).length:=by
     have h3:=@y5 vb
     cases h4:(ofN vb).length with
     | zero=>rw [h4] at h3;omega
     | succ=>omega
    have d1:decide ((0:Int)<(((ofN vb).length:Nat):Int))=true:=decide_eq_true (by omega)
    simp only [qm0,d1,cond_true,qEv h1 h2 hb,Option.bind_some]
def qlg (p:List Int×List Int):Option (List Int):=bif Nat.ble p.1.length 1000000&&Nat.ble p.2.length 1000000 then some (ofN (Nat.gcd (qa p.1) (qa p.2))) else none
theorem qEw (p:List Int×List Int) (y:List Int) (hg:(dc (cQ 1 1) (d1 (cQ 1 1))).good p) (h:qlg p=some y):∃ n,Gcd n p.1 p.2=some y:=by
 obtain ⟨a,b⟩:=p
 obtain ⟨⟨ha,la⟩,hb,lb⟩:=hg
 obtain ⟨hm,h⟩:=qj h
 have:=soi h;subst this
 rw [Bool.and_eq_true] at hm
 have hla:=Nat.le_trans (jk a (Wd.of ha)) (Nat.le_of_ble_eq_true hm.1)
 have hlb:=Nat.le_trans (jk b (Wd.of hb)) (Nat.le_of_ble_eq_true hm.2)
 obtain ⟨w,n,hn⟩:=qtE (qa b) (qa a) hla hlb
 refine ⟨n,?_⟩
 have h1:Qb (ofN (qa a))=some (ofN (qa a)):=by unfold Qb qle;rw [Nat.ble_eq_true_of_le (by omega),cond_true]
 have h2:Qb (ofN (qa b))=some (ofN (qa b)):=by unfold Qb qle;rw [Nat.ble_eq_true_of_le (by omega),cond_true]
 show Gcd n a b=some (ofN (Nat.gcd (qa a) (qa b)))
 unfold Gcd
 exact obB h1 (obB h2 (obB hn rfl))
end
end Su
end
section
namespace Su
open Go Fly
noncomputable section
def dm {α β:Type} (d:Dec α) (to:α→β) (fr:β→α) (h1:∀ a,fr (to a)=a) (h2:∀ b,to (fr b)=b):Dec β where
 enc b:=d.enc (fr b)
 dec l:=(d.dec l).bind fun a=>some (to a)
 good b:=d.good (fr b)
 rep {xs b} h V vs hr:=by
  obtain ⟨a,e1,e2⟩:=osm h
  have:=soi e2;subst this
  rw [h1];exact d.rep e1 hr
 de b:=by rw [d.de,Option.bind_some,h2]
 rng {b V vs} hr:=d.rng hr
structure RowD (u k:Nat) where
 d:Dec (U u)
 hv:∀ a,view u a = .agg (d.enc a)
 hk:∀ a,(d.enc a).length=k
 hn:∀ a,((d.enc a).all fun x=>!x.isAgg)=true
section
variable {u k:Nat} (R:RowD u k)
def qy5 (x:T):Option (U u):=match x with | .agg l=>R.d.dec l | _=>none
def unR:List T→Option (List (U u))
 | []=>some []
 | x::l=>(qy5 R x).bind fun a=>(unR l).bind fun b=>some (a::b)
theorem qm1 {x:T} {a:U u} (h:qy5 R x=some a) {V:qc} {vs:List Value} (hr:RepA V x.cells vs):RepA V (view u a).cells vs∧x.cells.length=k:=by
 cases x with
 | agg l =>
  have h':R.d.dec l=some a:=h
  have h1:=R.d.rep h' hr
  have hl:l.length=vs.length:=hr.length
  have hl2:=h1.length
  rw [R.hv]
  exact ⟨h1,by show l.length=k;rw [hl,← hl2,R.hk]⟩
 | _=>exact non h
theorem qhg {V:qc}:∀ {l:List T} {a:List (U u)} {vs:List Value},unR R l=some a→RepA V (l.flatMap T.cells) vs →
 RepA V ((a.map (view u)).flatMap T.cells) vs∧(∀ x∈(a.map (view u)).flatMap T.cells,x.isAgg=false)∧(∀ x∈a.map (view u),x.cells.length=k)∧(∀ x∈l,x.cells.length=k)∧a.length=l.length
 | [],a,vs,h,hr=>by have:=soi h;subst this;exact ⟨hr,by simp,by simp,by simp,rfl⟩
 | x::l,a,vs,h,hr=>by
  obtain ⟨b,h1,h⟩:=osm h;obtain ⟨c,h2,h⟩:=osm h
  have:=soi h;subst this
  rw [List.flatMap_cons] at hr
  obtain ⟨v1,v2,rfl,k1,k2⟩:=hr.split
  obtain ⟨e1,e2⟩:=qm1 R h1 k1
  obtain ⟨f1,f2,f3,f4,f5⟩:=qhg h2 k2
  rw [List.map_cons,List.flatMap_cons]
  refine ⟨e1.append f1,fun y hy=>?_,fun y hy=>?_,fun y hy=>?_,by simp [f5]⟩
  · rcases List.mem_append.1 hy with hy | hy
    · rw [R.hv] at hy
      exact qcW (R.hn b) y hy
    · exact f2 y hy
  · rcases List.mem_cons.1 hy with rfl | hy
    · rw [R.hv];exact R.hk b
    · exact f3 y hy
  · rcases List.mem_cons.1 hy with rfl | hy
    · exact e2
    · exact f4 y hy
theorem qCy {V:qc}:∀ {l:List (U u)} {vs:List Value},RepA V ((l.map (view u)).flatMap T.cells) vs→∀ t∈l,R.d.good t
 | [],_,_,t,ht=>by cases ht
 | y::l,vs,h,t,ht=>by
  rw [List.map_cons,List.flatMap_cons] at h
  obtain ⟨v1,v2,rfl,k1,k2⟩:=h.split
  rcases List.mem_cons.1 ht with rfl | ht
  · rw [R.hv] at k1;exact R.d.rng k1
  · exact qCy k2 t ht
theorem qqO (a:U u):qy5 R (view u a)=some a:=by
 rw [R.hv];exact R.d.de a
theorem qow:∀ l:List (U u),unR R (l.map (view u))=some l
 | []=>rfl
 | x::l=>by simp only [List.map_cons,unR,qqO,qow l,Option.bind_some]
def cL:Cod (List (U u)) where
 enc l:=.ql u k l
 dec x:=match x with
  | .sl w l=>bif Nat.beq w k then unR R l else none
  | x=>qao u k (.t x)
 good l:=(∀ t∈l,R.d.good t)∧l.length≤maxLen
 rep {x a} h V v hr:=by
  split at h
  · obtain ⟨h1,h2⟩:=qj h
    have:=Nat.eq_of_beq_eq_true h1;subst this
    cases hr with | @sl _ _ vs ad cap k1 k2 k3 k4 k5 k6 =>
    obtain ⟨f1,f2,f3,f4,f5⟩:=qhg R h2 k1
    rename_i l
    have hl:(a.map (view u)).length=l.length:=by rw [List.length_map,f5]
    have:=Rep.sl (V:=V) (l:=a.map (view u)) (a:=ad) (cap:=cap) f1 f2 f3 (by omega) k5 (k6.imp (fun e=>by subst e;exact List.eq_nil_of_length_eq_zero (by simpa using hl)) id)
    rw [hl] at this
    exact .ql this
  · have:=qfl h
    simp only [SV.t.injEq] at this;subst this;exact hr
 de a:=by
  show qao u k (.t (.ql u k a))=_
  simp [qao]
 rng {a V v} h:=by
  cases h with | ql h =>
  cases h with | @sl _ _ vs ad cap h1 h2 h3 h4 h5 h6 =>
  rw [List.length_map] at h4
  exact ⟨qCy R h1,by omega⟩
end
def rSp:RowD 12 3:=⟨dc cB (dc (cI .u64) (d1 (cI .u64))),fun _=>rfl,fun _=>rfl,fun _=>rfl⟩
def rIn:RowD 13 3:=⟨dc cB (dc (cI .i64) (d1 (cI .i64))),fun _=>rfl,fun _=>rfl,fun _=>rfl⟩
abbrev cIn:Cod (Bool×Int×Int):=cA (dc cB (dc (cI .i64) (d1 (cI .i64))))
abbrev Ck:=Bool×Int×Int×Bool×Int×Int
abbrev dCk:Dec Ck:=dc cB (dc (cI .i64) (dc (cI .i64) (dc cB (dc (cI .i64) (d1 (cI .i64))))))
abbrev CeP:=Bool×Bool×Bool×Int×Int×Bool×Int×Int×Bool×Int×Int×Bool×Int×Int×Int×Bool×Int×List (U 10)×Int
abbrev dCeP:Dec CeP:=dc cB (dc cB (dc cB (dc (cI .i64) (dc (cI .i64) (dc cB (dc (cI .i64) (dc (cI .i64) (dc cB (dc (cI .i64) (dc (cI .i64) (dc cB (dc (cI .u64) (dc (cI .u64) (dc (cI .u64) (dc cB (dc (cI .u64) (dc Zh (d1 (cI .u64)))))))))))))))))))
def toCe (a:CeP):Su.Ce :=
 ⟨a.1,a.2.1,(a.2.2.1,(a.2.2.2.1,a.2.2.2.2.1)),(a.2.2.2.2.2.1,(a.2.2.2.2.2.2.1,a.2.2.2.2.2.2.2.1)),(a.2.2.2.2.2.2.2.2.1,(a.2.2.2.2.2.2.2.2.2.1,a.2.2.2.2.2.2.2.2.2.2.1)),
  (a.2.2.2.2.2.2.2.2.2.2.2.1,(a.2.2.2.2.2.2.2.2.2.2.2.2.1,a.2.2.2.2.2.2.2.2.2.2.2.2.2.1)),a.2.2.2.2.2.2.2.2.2.2.2.2.2.2.1,
  (a.2.2.2.2.2.2.2.2.2.2.2.2.2.2.2.1,(a.2.2.2.2.2.2.2.2.2.2.2.2.2.2.2.2.1,(a.2.2.2.2.2.2.2.2.2.2.2.2.2.2.2.2.2.1,a.2.2.2.2.2.2.2.2.2.2.2.2.2.2.2.2.2.2)))⟩
def frCe (c:Su.Ce):CeP :=
 (c.f,(c.t,(c.i.1,(c.i.2.1,(c.i.2.2,(c.d.1,(c.d.2.1,(c.d.2.2,(c.p.1,(c.p.2.1,(c.p.2.2,(c.s.1,(c.s.2.1,(c.s.2.2,(c.sl,(c.fm.1,(c.fm.2.1,(c.fm.2.2.1,c.fm.2.2.2))))))))))))))))))
def dCe:Dec (U 14):=dm dCeP toCe frCe (fun _=>rfl) (fun _=>rfl)
def rCe:RowD 14 19:=⟨dCe,fun _=>rfl,fun _=>rfl,fun _=>rfl⟩
def cCe:Cod Su.Ce:=cA (dm dCeP toCe frCe (fun _=>rfl) (fun _=>rfl)) (fun _=>rfl)
abbrev cSt:Cod (Bool×Bool×Int×Int×List (U 14)):=cA (dc cB (dc cB (dc (cI .i64) (dc (cI .i64) (d1 (cL rCe))))))
def rSt:RowD 18 5:=⟨dc cB (dc cB (dc (cI .i64) (dc (cI .i64) (d1 (cL rCe))))),fun _=>rfl,fun _=>rfl,fun _=>rfl⟩
abbrev CcP:=ByteArray×Int×Int×Int×Bool×Int×Int×Int×Int
abbrev dCcP:Dec CcP:=dc cS (dc (cI .i64) (dc (cI .i64) (dc (cI .u8) (dc cB (dc (cI .u64) (dc (cI .u64) (dc (cI .i32) (d1 (cI .i32)))))))))
def toCc (a:CcP):Su.Cc:=⟨a.1,a.2.1,a.2.2.1,a.2.2.2.1,a.2.2.2.2.1,a.2.2.2.2.2.1,a.2.2.2.2.2.2.1,a.2.2.2.2.2.2.2.1,a.2.2.2.2.2.2.2.2⟩
def frCc (c:Su.Cc):CcP:=(c.name,(c.pos,(c.len,(c.type,(c.input,(c.lo,(c.hi,(c.fr,c.to))))))))
def rCc:RowD 15 9:=⟨dm dCcP toCc frCc (fun _=>rfl) (fun _=>rfl),fun _=>rfl,fun _=>rfl,fun _=>rfl⟩
def cSw (w:Nat):Cod (List T) where
 enc l:=.sl w l
 dec x:=match x with | .sl w' l=>bif Nat.beq w' w then some l else none | _=>none
 good l:=l.length≤maxLen
 rep {x a} h V v hr:=by
  cases x with
  | sl w' l =>
   obtain ⟨h1,h2⟩:=qj h
   have:=Nat.eq_of_beq_eq_true h1;subst this
   have:=soi h2;subst this;exact hr
  | _=>exact non h
 de l:=by show (bif Nat.beq w w then some l else none)=_;rw [show Nat.beq w w=true from by simp];rfl
 rng {a V v} h:=by
  cases h with | @sl _ _ vs ad cap h1 h2 h3 h4 h5 h6=>omega
abbrev cCo:Cod (Int×List (U 15)×List T×List T×List T×List T×Int):=cA (dc (cI .i64) (dc (cL rCc) (dc (cSw 10) (dc (cSw 11) (dc (cSw 1) (dc (cSw 1) (d1 (cI .i64))))))))
abbrev VlP:=Int×Bool×Int×Int
abbrev qEx:Dec VlP:=dc (cI .u8) (dc cB (dc (cI .i32) (d1 (cI .u64))))
def toVl (a:VlP):Su.Vl:=⟨a.1,a.2.1,a.2.2.1,a.2.2.2⟩
def qEy (c:Su.Vl):VlP:=(c.type,(c.b,(c.i,c.f)))
def rVl:RowD 16 4:=⟨dm qEx toVl qEy (fun _=>rfl) (fun _=>rfl),fun _=>rfl,fun _=>rfl,fun _=>rfl⟩
abbrev cRt:Cod (Bool×List (U 1)×List (U 1)):=cA (dc cB (dc (cQ 1 1) (d1 (cQ 1 1))))
end
end Su
end
section
namespace Su
open Go Fly
set_option linter.unusedVariables false
noncomputable section
def Low  (neg:Bool) (num:(List Int)) (den:(List Int)):Option (Bool×((List Int)×(List Int))) :=
 ((Su.Len num)).bind fun x0 =>
 (bif (decide ((x0=0))) then
 some (false,([],(Su.ofN 1)))
 else
  ((Su.Len den)).bind fun x1 =>
  (bif (decide ((x1=0))) then
  some (false,([],(Su.ofN 1)))
 else
  ((Su.qlg (num,den))).bind fun x2 =>
  ((Su.qbS (num,x2))).bind fun x3 =>
  ((Su.qbS (den,x2))).bind fun x4 =>
  some (neg,(x3.1,x4.1))))
abbrev Rt:=Bool×(List Int×List Int)
def qdX (neg:Bool) (n d:Nat):Rt:=if n=0∨d=0 then (false,([],ofN 1)) else (neg,(ofN (n / Nat.gcd n d),ofN (d / Nat.gcd n d)))
def lowL:{f:Bool→Nat→Nat→Rt // ∀ b n d,f b n d=qdX b n d}:=Classical.choice ⟨⟨_,fun _ _ _=>rfl⟩⟩
def yn (neg:Bool) (n d:Nat):Rt:=lowL.1 neg n d
theorem YF (neg:Bool) (n d:Nat):yn neg n d=qdX neg n d:=lowL.2 neg n d
def okL (a:List Int):Bool:=Nat.ble a.length 1000000
def Ju (p:Bool×(List Int×List Int)):Option Rt:=bif okL p.2.1&&okL p.2.2 then some (yn p.1 (qa p.2.1) (qa p.2.2)) else none
theorem qau (v:Nat):qt v=0↔v=0:=by
 constructor
 · intro h
   have:=jR.1 (Nat.le_of_eq h)
   simp at this;exact this
 · intro h;subst h;rfl
theorem qox {a:List Int} (hw:Wd a) (h:a.length≤1000000):Len a=some (qt (qa a):Int):=by
 have hbl:qt (qa a)≤32*a.length:=jR.2 (by rw [← J5];exact jf a hw)
 exact qok a (by omega)
theorem qCz {a:List Int} {g:Nat} (h1:a.length≤1000000) (h2:(ofN g).length≤1000000) (hg:g≠0):qbS (a,ofN g)=some (ofN (qa a / g),(ofN (qa a % g),0)):=by
 unfold qbS
 simp only [valN_ofN]
 rw [Nat.ble_eq_true_of_le h1,Nat.ble_eq_true_of_le h2,Bool.and_self,cond_true,if_neg hg]
theorem qEz (p:Bool×(List Int×List Int)) (y:Rt) (hg:(dc cB (dc (cQ 1 1) (d1 (cQ 1 1)))).good p) (h:Ju p=some y):Low p.1 p.2.1 p.2.2=some y:=by
 obtain ⟨neg,a,b⟩:=p
 obtain ⟨_,⟨ha,la⟩,hb,lb⟩:=hg
 obtain ⟨hm,h⟩:=qj h
 have:=soi h;subst this
 rw [Bool.and_eq_true] at hm
 have hwa:=Wd.of ha
 have hwb:=Wd.of hb
 have h1:a.length≤1000000:=Nat.le_of_ble_eq_true hm.1
 have h2:b.length≤1000000:=Nat.le_of_ble_eq_true hm.2
 show Low neg a b=some (yn neg (qa a) (qa b))
 rw [YF]
 unfold Low qdX
 refine obB (qox hwa h1) ?_
 by_cases ha0:qa a=0
 · rw [if_pos (.inl ha0),decide_eq_true (by rw [ha0];rfl),cond_true]
 · have e1:qt (qa a)≠0:=fun e=>ha0 ((qau _).1 e)
   rw [decide_eq_false (by omega),cond_false]
   refine obB (qox hwb h2) ?_
   by_cases hb0:qa b=0
   · rw [if_pos (.inr hb0),decide_eq_true (by rw [hb0];rfl),cond_true]
   · have e2:qt (qa b)≠0:=fun e=>hb0 ((qau _).1 e)
     rw [decide_eq_false (by omega),cond_false,if_neg (by omega)]
     have hgl:Nat.gcd (qa a) (qa b)≤qa a:=Nat.gcd_le_left _ (Nat.pos_of_ne_zero ha0)
     have hg0:Nat.gcd (qa a) (qa b)≠0:=fun e=>ha0 (Nat.gcd_eq_zero_iff.1 e).1
     have hgn:(ofN (Nat.gcd (qa a) (qa b))).length≤1000000:=Nat.le_trans (J7 hgl) (Nat.le_trans (jk a hwa) h1)
     have hs:qlg (a,b)=some (ofN (Nat.gcd (qa a) (qa b))):=by
      unfold qlg
      simp only []
      rw [Nat.ble_eq_true_of_le h1,Nat.ble_eq_true_of_le h2,Bool.and_self,cond_true]
     exact obB hs (obB (qCz h1 hgn hg0) (obB (qCz h2 hgn hg0) rfl))
end
end Su
end
section
namespace Su
open Go Fly
set_option linter.unusedVariables false
noncomputable section
def RLow  (a:(Bool×((List Int)×(List Int)))):Option (Bool×((List Int)×(List Int))) :=
 ((Su.Ju (a.1,(a.2.1,a.2.2)))).bind fun x0 =>
 some (x0.1,(x0.2.1,x0.2.2))
def qEA  (x:Int):Option (Bool×((List Int)×(List Int))) :=
 (bif (decide ((x<0))) then
 ((Su.Ju (true,((Su.ofN (Su.qa [(Go.IntKind.wrap .u32 (Go.IntKind.wrap .u64 (0-(Go.IntKind.wrap .u64 x)))),(Go.IntKind.wrap .u32 (Int.fdiv (Go.IntKind.wrap .u64 (0-(Go.IntKind.wrap .u64 x))) (2^32)))])),(Su.ofN 1))))).bind fun x0 =>
 some (x0.1,(x0.2.1,x0.2.2))
 else
  ((Su.Ju (false,((Su.ofN (Su.qa [(Go.IntKind.wrap .u32 (Go.IntKind.wrap .u64 x)),(Go.IntKind.wrap .u32 (Int.fdiv (Go.IntKind.wrap .u64 x) (2^32)))])),(Su.ofN 1))))).bind fun x1 =>
  some (x1.1,(x1.2.1,x1.2.2)))
def qlh  (neg:Bool) (m:Int) (e:Int):Option ((Bool×((List Int)×(List Int)))×Int) :=
 (bif (decide ((e<(-8192)))) then
 some ((false,([],[])),(31:Int))
 else
  (bif (decide ((8192<e))) then
  some ((false,([],[])),(31:Int))
 else
  ((Su.qhd ((Su.ofN (Su.qa [(Go.IntKind.wrap .u32 m),(Go.IntKind.wrap .u32 (Int.fdiv m (2^32)))])),e))).bind fun x0 =>
  ((Su.qhd ((Su.ofN 1),(Go.IntKind.wrap .i64 (0-e))))).bind fun x1 =>
  ((Su.Ju (neg,(x0.1,x1.1)))).bind fun x2 =>
  some ((x2.1,(x2.2.1,x2.2.2)),(0:Int))))
def qCA  (a:(Bool×((List Int)×(List Int)))):Option (Bool×((List Int)×(List Int))) :=
 ((Su.Ju ((!a.1),(a.2.1,a.2.2)))).bind fun x0 =>
 some (x0.1,(x0.2.1,x0.2.2))
def RAbs  (a:(Bool×((List Int)×(List Int)))):Option (Bool×((List Int)×(List Int))) :=
 ((Su.Ju (false,(a.2.1,a.2.2)))).bind fun x0 =>
 some (x0.1,(x0.2.1,x0.2.2))
def okRt (a:Rt):Bool:=okL a.2.1&&okL a.2.2
def QA (a:Rt):Rt:=yn a.1 (qa a.2.1) (qa a.2.2)
def qli (a:Rt):Rt:=yn (!a.1) (qa a.2.1) (qa a.2.2)
def qqP (a:Rt):Rt:=yn false (qa a.2.1) (qa a.2.2)
theorem JK {neg:Bool} {a b:List Int} (h:(okL a&&okL b)=true):Ju (neg,(a,b))=some (yn neg (qa a) (qa b)):=by
 unfold Ju
 simp only []
 rw [h,cond_true]
def JL (a:Rt):Option Rt:=bif okRt a then some (QA a) else none
theorem qy6 (a y:Rt) (hg:(d1 cRt).good a) (h:JL a=some y):RLow a=some y:=by
 obtain ⟨h1,h⟩:=qj h
 have:=soi h;subst this
 exact obB (JK h1) rfl
def qbT (a:Rt):Option Rt:=bif okRt a then some (qli a) else none
theorem qtF (a y:Rt) (hg:(d1 cRt).good a) (h:qbT a=some y):qCA a=some y:=by
 obtain ⟨h1,h⟩:=qj h
 have:=soi h;subst this
 exact obB (JK h1) rfl
def qcY (a:Rt):Option Rt:=bif okRt a then some (qqP a) else none
theorem qy7 (a y:Rt) (hg:(d1 cRt).good a) (h:qcY a=some y):RAbs a=some y:=by
 obtain ⟨h1,h⟩:=qj h
 have:=soi h;subst this
 exact obB (JK h1) rfl
theorem qcZ (r:Nat) (h:r<18446744073709551616):qa [IntKind.u32.wrap (r:Int),IntKind.u32.wrap (Int.fdiv (r:Int) (2^32))]=r:=by
 have e1:IntKind.u32.wrap (r:Int)=((r % 4294967296:Nat):Int):=by rw [wrap_u32];omega
 have e2:Int.fdiv (r:Int) (2^32)=((r / 4294967296:Nat):Int):=by
  have:=qaV r 32;rwa [show (2:Nat)^32=4294967296 from rfl] at this
 have e3:IntKind.u32.wrap ((r / 4294967296:Nat):Int)=((r / 4294967296:Nat):Int):=qmQ (by omega) (by omega)
 rw [e1,e2,e3]
 simp only [qa,Int.toNat_natCast];omega
theorem qbU {r:Nat} (h:r<18446744073709551616):okL (ofN r)=true:=Nat.ble_eq_true_of_le (Nat.le_trans (Qc (k:=2) (by simpa using h)) (by omega))
def qtG (x:Int):Option Rt:=some (yn (decide (x<0)) x.natAbs 1)
theorem qy8 (x:Int) (y:Rt) (hg:(d1 (cI .i64)).good x) (h:qtG x=some y):qEA x=some y:=by
 have:=soi h;subst this
 have hx:=Js.1 hg
 unfold qEA
 by_cases h0:x<0
 · have e1:IntKind.u64.wrap (0-IntKind.u64.wrap x)=((x.natAbs:Nat):Int):=by rw [wrap_u64,wrap_u64];omega
   rw [decide_eq_true h0,cond_true,e1,qcZ _ (by omega)]
   refine obB (JK (by rw [qbU (by omega),qbU (by omega)];rfl)) ?_
   rw [valN_ofN,valN_ofN]
 · have e1:IntKind.u64.wrap x=((x.natAbs:Nat):Int):=by rw [wrap_u64];omega
   rw [decide_eq_false h0,cond_false,e1,qcZ _ (by omega)]
   refine obB (JK (by rw [qbU (by omega),qbU (by omega)];rfl)) ?_
   rw [valN_ofN,valN_ofN]
theorem qy9 {m s k:Nat} (h:qt m+s≤32*k):(ofN (m*2^s)).length≤k:=by
 refine Qc ?_
 have h2:=Nat.mul_lt_mul_of_pos_right (qbI m) (Nat.two_pow_pos s)
 rw [← Nat.pow_add] at h2
 rw [J5]
 exact Nat.lt_of_lt_of_le h2 (Nat.pow_le_pow_right (by omega) h)
theorem qoy {m s:Nat} (h:qt m+s≤65536):qa (qqM m s).1=m*2^s∧okL (qqM m s).1=true:=by
 rw [qon]
 unfold qom
 by_cases h0:m=0
 · subst h0
   rw [if_pos rfl]
   exact ⟨by simp [qa],rfl⟩
 · rw [if_neg h0,if_neg (by omega)]
   refine ⟨valN_ofN _,?_⟩
   exact Nat.ble_eq_true_of_le (Nat.le_trans (qy9 (k:=2048) h) (by omega))
theorem qtH {m:Nat} {e:Int} (h:m<18446744073709551616):qhd (ofN m,e)=some (qqM m (max e 0).toNat):=by
 unfold qhd
 simp only [valN_ofN]
 rw [qmY,Nat.ble_eq_true_of_le (Nat.le_trans (Qc (k:=2) (by simpa using h)) (by omega)),cond_true]
def qEB (neg:Bool) (m e:Int):Rt×Int:=if e < -8192∨8192<e then ((false,([],[])),31) else (yn neg (m.toNat*2^(max e 0).toNat) (2^(max (-e) 0).toNat),0)
def dyL:{f:Bool→Int→Int→Rt×Int // ∀ b m e,f b m e=qEB b m e}:=Classical.choice ⟨⟨_,fun _ _ _=>rfl⟩⟩
def dyV (neg:Bool) (m e:Int):Rt×Int:=dyL.1 neg m e
theorem qtI (neg:Bool) (m e:Int):dyV neg m e=qEB neg m e:=dyL.2 neg m e
theorem qeq:okS []=true:=by rw [qmY];rfl
def Z1 (p:Bool×(Int×Int)):Option (Rt×Int):=bif okS [] then some (dyV p.1 p.2.1 p.2.2) else none
theorem qtJ (p:Bool×(Int×Int)) (y:Rt×Int) (hg:(dc cB (dc (cI .u64) (d1 (cI .i64)))).good p) (h:Z1 p=some y):qlh p.1 p.2.1 p.2.2=some y:=by
 obtain ⟨neg,m,e⟩:=p
 obtain ⟨_,h⟩:=qj h
 have:=soi h;subst this
 obtain ⟨_,hm,he⟩:=hg
 have hm:0≤m∧m<18446744073709551616:=Qa.1 hm
 have he : -9223372036854775808≤e∧e<9223372036854775808:=Js.1 he
 obtain ⟨M,rfl⟩:∃ M:Nat,m=(M:Int):=⟨m.toNat,by omega⟩
 have hM:M<18446744073709551616:=by omega
 show qlh neg (M:Int) e=some (dyV neg (M:Int) e)
 rw [qtI]
 show qlh neg (M:Int) e=some (if e < -8192∨8192<e then ((false,([],[])),31) else (yn neg ((M:Int).toNat*2^(max e 0).toNat) (2^(max (-e) 0).toNat),0))
 unfold qlh
 by_cases h1:e < -8192
 · rw [if_pos (.inl h1),decide_eq_true h1,cond_true]
 · by_cases h2:8192<e
   · rw [if_pos (.inr h2),decide_eq_false h1,cond_false,decide_eq_true h2,cond_true]
   · have hb:qt M≤64:=jR.2 (by simpa using hM)
     have e1:IntKind.i64.wrap (0-e) = -e:=by rw [w64 (by omega) (by omega)];omega
     obtain ⟨v1,o1⟩:=qoy (m:=M) (s:=(max e 0).toNat) (by omega)
     obtain ⟨v2,o2⟩:=qoy (m:=1) (s:=(max (-e) 0).toNat) (by have:qt 1=1:=rfl;omega)
     rw [if_neg (by omega),decide_eq_false h1,cond_false,decide_eq_false h2,cond_false,qcZ M hM,e1,Int.toNat_natCast]
     refine obB (qtH hM) (obB (qtH (by omega)) (obB (JK (by rw [o1,o2];rfl)) ?_))
     rw [v1,v2,Nat.one_mul]
end
end Su
end
section
namespace Su
open Go Fly
set_option linter.unusedVariables false
noncomputable section
def qEC  (a:(Bool×((List Int)×(List Int)))) (b:(Bool×((List Int)×(List Int)))):Option (Bool×((List Int)×(List Int))) :=
 ((Su.JL (a.1,(a.2.1,a.2.2)))).bind fun x0 =>
 ((Su.JL (b.1,(b.2.1,b.2.2)))).bind fun x1 =>
 ((Su.Zl (x0.2.1,x1.2.1))).bind fun x2 =>
 ((Su.Zl (x0.2.2,x1.2.2))).bind fun x3 =>
 ((Su.Ju ((!(decide ((x0.1=x1.1)))),(x2,x3)))).bind fun x4 =>
 some (x4.1,(x4.2.1,x4.2.2))
def qED  (a:(Bool×((List Int)×(List Int)))) (b:(Bool×((List Int)×(List Int)))):Option (Bool×((List Int)×(List Int))) :=
 ((Su.JL (a.1,(a.2.1,a.2.2)))).bind fun x0 =>
 ((Su.JL (b.1,(b.2.1,b.2.2)))).bind fun x1 =>
 ((Su.Zl (x0.2.1,x1.2.2))).bind fun x2 =>
 ((Su.Zl (x1.2.1,x0.2.2))).bind fun x3 =>
 ((Su.Zl (x0.2.2,x1.2.2))).bind fun x4 =>
 (bif (decide ((x0.1=x1.1))) then
 ((Su.qk6 (x2,x3))).bind fun x5 =>
 ((Su.Ju (x0.1,(x5,x4)))).bind fun x6 =>
 some (x6.1,(x6.2.1,x6.2.2))
 else
  ((Su.qhf (x2,x3))).bind fun x7 =>
  (bif x7.2 then
  ((Su.Ju (x0.1,(x7.1,x4)))).bind fun x8 =>
  some (x8.1,(x8.2.1,x8.2.2))
 else
  ((Su.qhf (x3,x2))).bind fun x9 =>
  ((Su.Ju (x1.1,(x9.1,x4)))).bind fun x10 =>
  some (x10.1,(x10.2.1,x10.2.2))))
def qEE  (a:(Bool×((List Int)×(List Int)))) (b:(Bool×((List Int)×(List Int)))):Option Int :=
 ((Su.JL (a.1,(a.2.1,a.2.2)))).bind fun x0 =>
 ((Su.JL (b.1,(b.2.1,b.2.2)))).bind fun x1 =>
 (bif (!(decide ((x0.1=x1.1)))) then
 (bif x0.1 then
 some (-1)
 else
  some 1)
 else
  ((Su.Zl (x0.2.1,x1.2.2))).bind fun x2 =>
  ((Su.Zl (x1.2.1,x0.2.2))).bind fun x3 =>
  (bif x0.1 then
  some (Go.IntKind.wrap .i64 (0-(Su.Qq (Su.qa x2) (Su.qa x3))))
 else
  some (Su.Qq (Su.qa x2) (Su.qa x3))))
def ok4 (a:Rt):Bool:=Nat.ble a.2.1.length 400000&&Nat.ble a.2.2.length 400000
def nu (a:Rt):Nat:=qa a.2.1
def de (a:Rt):Nat:=qa a.2.2
structure Tidy (a:Rt):Prop where
 wn:Wd a.2.1
 wd:Wd a.2.2
 ln:a.2.1.length≤400000
 ld:a.2.2.length≤400000
theorem qlj {neg:Bool} {a b:List Int} (ha:Wd a) (hb:Wd b) (h1:a.length≤400000) (h2:b.length≤400000):Tidy (yn neg (qa a) (qa b)):=by
 rw [YF]
 unfold qdX
 by_cases h:qa a=0∨qa b=0
 · rw [if_pos h]
   exact ⟨.nil,YA 1,Nat.zero_le _,Nat.le_trans (Qc (v:=1) (k:=1) (by decide)) (by omega)⟩
 · rw [if_neg h]
   exact ⟨YA _,YA _,Nat.le_trans (J7 (Nat.div_le_self _ _)) (Nat.le_trans (jk a ha) h1),Nat.le_trans (J7 (Nat.div_le_self _ _)) (Nat.le_trans (jk b hb) h2)⟩
theorem Z2 {a:Rt} (hg:cRt.good a) (h:ok4 a=true):JL a=some (QA a)∧Tidy (QA a):=by
 unfold ok4 at h
 rw [Bool.and_eq_true] at h
 have h1:=Nat.le_of_ble_eq_true h.1
 have h2:=Nat.le_of_ble_eq_true h.2
 refine ⟨?_,qlj (Wd.of hg.2.1.1) (Wd.of hg.2.2.1) h1 h2⟩
 unfold JL okRt okL
 rw [Nat.ble_eq_true_of_le (by omega),Nat.ble_eq_true_of_le (by omega)];rfl
theorem qaX {a b:List Int} (ha:Wd a) (hb:Wd b) (h1:a.length≤400000) (h2:b.length≤400000):Zl (a,b)=some (ofN (qa a*qa b))∧(ofN (qa a*qa b)).length≤800000:=by
 constructor
 · unfold Zl
   simp only []
   rw [Nat.ble_eq_true_of_le (by omega),cond_true]
 · refine Nat.le_trans (Qc (k:=a.length+b.length) ?_) (by omega)
   rw [Nat.pow_add]
   have ha':=jf a ha
   have hb':=jf b hb
   exact Nat.mul_lt_mul'' ha' hb'
def rmul (a b:Rt):Rt:=yn (!decide ((QA a).1=(QA b).1)) (nu (QA a)*nu (QA b)) (de (QA a)*de (QA b))
def qtK (p:Rt×Rt):Option Rt:=bif ok4 p.1&&ok4 p.2 then some (rmul p.1 p.2) else none
theorem qza (p:Rt×Rt) (y:Rt) (hg:(dc cRt (d1 cRt)).good p) (h:qtK p=some y):qEC p.1 p.2=some y:=by
 obtain ⟨a,b⟩:=p
 obtain ⟨h1,h⟩:=qj h
 have:=soi h;subst this
 rw [Bool.and_eq_true] at h1
 obtain ⟨s1,t1⟩:=Z2 hg.1 h1.1
 obtain ⟨s2,t2⟩:=Z2 hg.2 h1.2
 obtain ⟨m1,l1⟩:=qaX t1.wn t2.wn t1.ln t2.ln
 obtain ⟨m2,l2⟩:=qaX t1.wd t2.wd t1.ld t2.ld
 show qEC a b=some (rmul a b)
 refine obB s1 (obB s2 (obB m1 (obB m2 (obB (JK (by unfold okL;rw [Nat.ble_eq_true_of_le (by omega),Nat.ble_eq_true_of_le (by omega)];rfl)) ?_))))
 rw [valN_ofN,valN_ofN]
 rfl
def qm2 (x y:Rt):Rt :=
 bif decide (x.1=y.1) then yn x.1 (nu x*de y+nu y*de x) (de x*de y)
 else bif decide (nu y*de x≤nu x*de y) then yn x.1 (nu x*de y-nu y*de x) (de x*de y)
 else yn y.1 (nu y*de x-nu x*de y) (de x*de y)
def qqQ (a b:Rt):Rt:=qm2 (QA a) (QA b)
def Zo (p:Rt×Rt):Option Rt:=bif ok4 p.1&&ok4 p.2 then some (qqQ p.1 p.2) else none
theorem Zp {a:List Int} (h:a.length≤1000000):okL a=true:=Nat.ble_eq_true_of_le h
theorem qzb {p q k:Nat} (h1:(ofN p).length≤k) (h2:(ofN q).length≤k):(ofN (p+q)).length≤k+1:=by
 refine Qc ?_
 have h3:=@y5 p
 have h4:=@y5 q
 have h5:4294967296^(ofN p).length≤4294967296^k:=Nat.pow_le_pow_right (by omega) h1
 have h6:4294967296^(ofN q).length≤4294967296^k:=Nat.pow_le_pow_right (by omega) h2
 rw [Nat.pow_succ]
 generalize (4294967296:Nat)^k=P at *
 omega
theorem qEF {p q:Nat} (h1:(ofN p).length≤800000) (h2:(ofN q).length≤800000):qk6 (ofN p,ofN q)=some (ofN (p+q))∧(ofN (p+q)).length≤1000000:=by
 constructor
 · unfold qk6
   simp only [valN_ofN]
   rw [Nat.ble_eq_true_of_le (by omega),cond_true]
 · exact Nat.le_trans (qzb h1 h2) (by omega)
theorem qtL {p q:Nat} (h1:(ofN p).length≤800000):qhf (ofN p,ofN q)=some (if p<q then ([],false) else (ofN (p-q),true)):=by
 unfold qhf
 simp only [valN_ofN]
 rw [Nat.ble_eq_true_of_le (by omega),cond_true]
theorem qzc (p:Rt×Rt) (y:Rt) (hg:(dc cRt (d1 cRt)).good p) (h:Zo p=some y):qED p.1 p.2=some y:=by
 obtain ⟨a,b⟩:=p
 obtain ⟨h1,h⟩:=qj h
 have:=soi h;subst this
 rw [Bool.and_eq_true] at h1
 obtain ⟨s1,t1⟩:=Z2 hg.1 h1.1
 obtain ⟨s2,t2⟩:=Z2 hg.2 h1.2
 obtain ⟨m1,l1⟩:=qaX t1.wn t2.wd t1.ln t2.ld
 obtain ⟨m2,l2⟩:=qaX t2.wn t1.wd t2.ln t1.ld
 obtain ⟨m3,l3⟩:=qaX t1.wd t2.wd t1.ld t2.ld
 show qED a b=some (qm2 (QA a) (QA b))
 refine obB s1 (obB s2 (obB m1 (obB m2 (obB m3 ?_))))
 clear s1 s2 m1 m2 m3 h1 hg
 unfold qm2 nu de
 generalize QA a=x at *
 generalize QA b=y at *
 cases decide (x.1=y.1) with
 | true =>
  rw [cond_true,cond_true]
  obtain ⟨a1,a2⟩:=qEF l1 l2
  refine obB a1 (obB (JK (by rw [Zp a2,Zp (by omega)];rfl)) ?_)
  rw [valN_ofN,valN_ofN]
 | false =>
  rw [cond_false,cond_false]
  refine obB (qtL l1) ?_
  by_cases hlt:qa x.2.1*qa y.2.2<qa y.2.1*qa x.2.2
  · rw [if_pos hlt,decide_eq_false (by omega),cond_false,cond_false]
    refine obB (qtL l2) ?_
    rw [if_neg (by omega)]
    have h5:(ofN (qa y.2.1*qa x.2.2-qa x.2.1*qa y.2.2)).length≤800000:=Nat.le_trans (J7 (Nat.sub_le _ _)) l2
    refine obB (JK (Bool.and_eq_true_iff.2 ⟨Zp (Nat.le_trans h5 (by omega)),Zp (Nat.le_trans l3 (by omega))⟩)) ?_
    rw [valN_ofN,valN_ofN]
  · rw [if_neg hlt,decide_eq_true (by omega),cond_true,cond_true]
    have h5:(ofN (qa x.2.1*qa y.2.2-qa y.2.1*qa x.2.2)).length≤800000:=Nat.le_trans (J7 (Nat.sub_le _ _)) l1
    refine obB (JK (Bool.and_eq_true_iff.2 ⟨Zp (Nat.le_trans h5 (by omega)),Zp (Nat.le_trans l3 (by omega))⟩)) ?_
    rw [valN_ofN,valN_ofN]
def rcm (x y:Rt):Int:=bif !decide (x.1=y.1) then (bif x.1 then -1 else 1) else bif x.1 then -Qq (nu x*de y) (nu y*de x) else Qq (nu x*de y) (nu y*de x)
def qtM (a b:Rt):Int:=rcm (QA a) (QA b)
def qc0 (p:Rt×Rt):Option Int:=bif ok4 p.1&&ok4 p.2 then some (qtM p.1 p.2) else none
theorem qtN (a b:Nat) : -1≤Qq a b∧Qq a b≤1:=by
 unfold Qq
 by_cases h:a<b
 · rw [if_pos h];omega
 · rw [if_neg h]
   by_cases h2:a=b
   · rw [if_pos h2];omega
   · rw [if_neg h2];omega
theorem qzd (p:Rt×Rt) (y:Int) (hg:(dc cRt (d1 cRt)).good p) (h:qc0 p=some y):qEE p.1 p.2=some y:=by
 obtain ⟨a,b⟩:=p
 obtain ⟨h1,h⟩:=qj h
 have:=soi h;subst this
 rw [Bool.and_eq_true] at h1
 obtain ⟨s1,t1⟩:=Z2 hg.1 h1.1
 obtain ⟨s2,t2⟩:=Z2 hg.2 h1.2
 obtain ⟨m1,l1⟩:=qaX t1.wn t2.wd t1.ln t2.ld
 obtain ⟨m2,l2⟩:=qaX t2.wn t1.wd t2.ln t1.ld
 show qEE a b=some (rcm (QA a) (QA b))
 refine obB s1 (obB s2 ?_)
 clear s1 s2 h1 hg
 unfold rcm nu de
 generalize QA a=x at *
 generalize QA b=y at *
 cases decide (x.1=y.1) with
 | false =>
  rw [Bool.not_false,cond_true,cond_true]
  cases x.1 <;> rfl
 | true =>
  rw [Bool.not_true,cond_false,cond_false]
  refine obB m1 (obB m2 ?_)
  rw [valN_ofN,valN_ofN]
  have hc:=qtN (qa x.2.1*qa y.2.2) (qa y.2.1*qa x.2.2)
  have e1:IntKind.i64.wrap (0-Qq (qa x.2.1*qa y.2.2) (qa y.2.1*qa x.2.2)) = -Qq (qa x.2.1*qa y.2.2) (qa y.2.1*qa x.2.2):=by
   rw [w64 (by omega) (by omega)];omega
  rw [e1]
  cases x.1 <;> rfl
end
end Su
end
section
namespace Su
open Go Fly
set_option linter.unusedVariables false
noncomputable section
def qEG  (a:(Bool×((List Int)×(List Int)))) (b:(Bool×((List Int)×(List Int)))):Option (Bool×((List Int)×(List Int))) :=
 ((Su.qbT (b.1,(b.2.1,b.2.2)))).bind fun x0 =>
 ((Su.Zo ((a.1,(a.2.1,a.2.2)),(x0.1,(x0.2.1,x0.2.2))))).bind fun x1 =>
 some (x1.1,(x1.2.1,x1.2.2))
def qEH  (f:Int):Option ((Bool×((List Int)×(List Int)))×Bool) :=
 (bif (decide (((((Su.qF (Su.bK (Int.toNat f))):Nat):Int)=3))) then
 (bif (decide (((((Su.qF (Su.bK (Int.toNat f))):Nat):Int)=3))) then
 some ((false,([],[])),false)
 else
  ((Su.Z1 ((decide (((Int.fdiv f (2^63))=1))),((((Su.spM (Su.bK (Int.toNat f))):Nat):Int),(Su.spE (Su.bK (Int.toNat f))))))).bind fun x0 =>
  some ((x0.1.1,(x0.1.2.1,x0.1.2.2)),true))
 else
  (bif (decide (((((Su.qF (Su.bK (Int.toNat f))):Nat):Int)=4))) then
  some ((false,([],[])),false)
 else
  ((Su.Z1 ((decide (((Int.fdiv f (2^63))=1))),((((Su.spM (Su.bK (Int.toNat f))):Nat):Int),(Su.spE (Su.bK (Int.toNat f))))))).bind fun x1 =>
  some ((x1.1.1,(x1.1.2.1,x1.1.2.2)),true)))
theorem qEI {a:Rt} (h:Tidy a):ok4 a=true:=by
 unfold ok4
 rw [Nat.ble_eq_true_of_le h.ln,Nat.ble_eq_true_of_le h.ld];rfl
def qi1 (a b:Rt):Rt:=qqQ a (qli b)
def qc1 (p:Rt×Rt):Option Rt:=bif ok4 p.1&&ok4 p.2 then some (qi1 p.1 p.2) else none
theorem qze (p:Rt×Rt) (y:Rt) (hg:(dc cRt (d1 cRt)).good p) (h:qc1 p=some y):qEG p.1 p.2=some y:=by
 obtain ⟨a,b⟩:=p
 obtain ⟨h1,h⟩:=qj h
 have:=soi h;subst this
 rw [Bool.and_eq_true] at h1
 have h2:=h1.2
 unfold ok4 at h2
 rw [Bool.and_eq_true] at h2
 have l1:=Nat.le_of_ble_eq_true h2.1
 have l2:=Nat.le_of_ble_eq_true h2.2
 have t:Tidy (qli b):=qlj (Wd.of hg.2.2.1.1) (Wd.of hg.2.2.2.1) l1 l2
 have s1:qbT b=some (qli b):=by
  unfold qbT okRt
  rw [Zp (Nat.le_trans l1 (by omega)),Zp (Nat.le_trans l2 (by omega))];rfl
 have s2:Zo (a,qli b)=some (qi1 a b):=by
  unfold Zo
  simp only []
  rw [h1.1,qEI t];rfl
 show qEG a b=some (qi1 a b)
 exact obB s1 (obB s2 rfl)
def qbV (f:Nat):Rt:=(dyV (bS f) ((spM (bK f):Nat):Int) (spE (bK f))).1
def Jv (f:Nat):Bool:=decide (((qF (bK f):Nat):Int)=3)||decide (((qF (bK f):Nat):Int)=4)
def YG (f:Int):Option (Rt×Bool):=bif okS [] then some (bif Jv f.toNat then ((false,([],[])),false) else (qbV f.toNat,true)) else none
theorem qtO (p:Bool×(Int×Int)):Z1 p=some (dyV p.1 p.2.1 p.2.2):=by
 unfold Z1
 rw [qeq,cond_true]
theorem qzf (f:Int) (y:Rt×Bool) (hg:(d1 (cI .u64)).good f) (h:YG f=some y):qEH f=some y:=by
 obtain ⟨n,rfl,hn⟩:=qO hg
 obtain ⟨_,h⟩:=qj h
 have:=soi h;subst this
 unfold qEH Jv qbV
 rw [Int.toNat_natCast,qiR n hn]
 cases decide (((qF (bK n):Nat):Int)=3) with
 | true =>
  simp only [cond_true,Bool.true_or]
 | false =>
  cases decide (((qF (bK n):Nat):Int)=4) with
  | true=>simp only [cond_true,cond_false,Bool.or_true]
  | false =>
   simp only [cond_false,Bool.or_false]
   exact obB (qtO _) rfl
end
end Su
end
section
namespace Su
open Go Fly
set_option linter.unusedVariables false
noncomputable section
def qm3  (f:Int):Option (Bool×(Int×Int)) :=
 some ((decide (((Go.IntKind.wrap .u64 (Int.tdiv f 9223372036854775808))=1))),((Go.IntKind.wrap .i64 (Int.tmod (Go.IntKind.wrap .u64 (Int.tdiv f 4503599627370496)) 2048)),(Int.tmod f 4503599627370496)))
def qm4  (f:Int):Option Int :=
 (bif (decide (((Go.IntKind.wrap .i64 (Int.tmod (Go.IntKind.wrap .u64 (Int.tdiv f 4503599627370496)) 2048))=2047))) then
 (bif (decide (((Int.tmod f 4503599627370496)=0))) then
 some 3
 else
  (bif (decide (((Go.IntKind.wrap .i64 (Int.tmod (Go.IntKind.wrap .u64 (Int.tdiv f 4503599627370496)) 2048))=2047))) then
  some 4
 else
  (bif (decide (((Go.IntKind.wrap .i64 (Int.tmod (Go.IntKind.wrap .u64 (Int.tdiv f 4503599627370496)) 2048))=0))) then
  (bif (decide (((Int.tmod f 4503599627370496)=0))) then
  some 0
 else
  (bif (decide (((Go.IntKind.wrap .i64 (Int.tmod (Go.IntKind.wrap .u64 (Int.tdiv f 4503599627370496)) 2048))=0))) then
  some 1
 else
  some 2))
 else
  (bif (decide (((Go.IntKind.wrap .i64 (Int.tmod (Go.IntKind.wrap .u64 (Int.tdiv f 4503599627370496)) 2048))=0))) then
  some 1
 else
  some 2))))
 else
  (bif (decide (((Go.IntKind.wrap .i64 (Int.tmod (Go.IntKind.wrap .u64 (Int.tdiv f 4503599627370496)) 2048))=2047))) then
  some 4
 else
  (bif (decide (((Go.IntKind.wrap .i64 (Int.tmod (Go.IntKind.wrap .u64 (Int.tdiv f 4503599627370496)) 2048))=0))) then
  (bif (decide (((Int.tmod f 4503599627370496)=0))) then
  some 0
 else
  (bif (decide (((Go.IntKind.wrap .i64 (Int.tmod (Go.IntKind.wrap .u64 (Int.tdiv f 4503599627370496)) 2048))=0))) then
  some 1
 else
  some 2))
 else
  (bif (decide (((Go.IntKind.wrap .i64 (Int.tmod (Go.IntKind.wrap .u64 (Int.tdiv f 4503599627370496)) 2048))=0))) then
  some 1
 else
  some 2))))
theorem qtP (m n:Nat):Int.tdiv (m:Int) (n:Int)=((m / n:Nat):Int):=rfl
theorem qtQ (m n:Nat):Int.tmod (m:Int) (n:Int)=((m % n:Nat):Int):=rfl
theorem td63 {f:Nat} (h:f<18446744073709551616):decide (IntKind.u64.wrap (Int.tdiv (f:Int) 9223372036854775808)=1)=bS f:=by
 rw [show (9223372036854775808:Int)=((9223372036854775808:Nat):Int) from rfl,qtP,js (by omega) (by omega)]
 refine bB ?_
 rw [qaS]
 constructor
 · intro h;have:f / 9223372036854775808=1:=by omega
   rw [this];rfl
 · intro h;omega
theorem tdE {f:Nat} (h:f<18446744073709551616):IntKind.i64.wrap (Int.tmod (IntKind.u64.wrap (Int.tdiv (f:Int) 4503599627370496)) 2048)=((bK f / 4503599627370496:Nat):Int):=by
 rw [show (4503599627370496:Int)=((4503599627370496:Nat):Int) from rfl,qtP,js (by omega) (by omega),show (2048:Int)=((2048:Nat):Int) from rfl,qtQ,w64 (by omega) (by omega)]
 congr 1
 unfold bK;omega
theorem tmF (f:Nat):Int.tmod (f:Int) 4503599627370496=((bK f % 4503599627370496:Nat):Int):=by
 rw [show (4503599627370496:Int)=((4503599627370496:Nat):Int) from rfl,qtQ]
 congr 1
 unfold bK;omega
def qlk (f:Int):Option (Bool×(Int×Int)):=some (bS f.toNat,((bK f.toNat / 4503599627370496:Nat):Int),((bK f.toNat % 4503599627370496:Nat):Int))
theorem qqR (f:Int) (y:Bool×(Int×Int)) (hg:(d1 (cI .u64)).good f) (h:qlk f=some y):qm3 f=some y:=by
 obtain ⟨n,rfl,hn⟩:=qO hg
 have:=soi h;subst this
 unfold qm3
 rw [td63 hn,tdE hn,tmF,Int.toNat_natCast]
def qll (f:Int):Option Int:=some ((qF (bK f.toNat):Nat):Int)
theorem qqS (f:Int) (y:Int) (hg:(d1 (cI .u64)).good f) (h:qll f=some y):qm4 f=some y:=by
 obtain ⟨n,rfl,hn⟩:=qO hg
 have:=soi h;subst this
 unfold qm4
 rw [tdE hn,tmF,Int.toNat_natCast]
 have hk:=qfz n
 generalize bK n=k at *
 have e:k=k / 4503599627370496*4503599627370496+k % 4503599627370496:=by omega
 have he:k / 4503599627370496≤2047:=by omega
 have hf:k % 4503599627370496<4503599627370496:=by omega
 have hc:=qog he hf
 rw [← e] at hc
 rw [hc]
 generalize k / 4503599627370496=E at *
 generalize k % 4503599627370496=F at *
 rw [show (2047:Int)=((2047:Nat):Int) from rfl,show (0:Int)=((0:Nat):Int) from rfl,JI,JI,JI]
 by_cases h1:E=2047
 · subst h1
   by_cases h2:F=0
   · subst h2;rfl
   · simp [h2]
 · by_cases h2:E=0
   · subst h2
     by_cases h3:F=0
     · subst h3;rfl
     · simp [h3]
   · simp [h1,h2]
end
end Su
end
section
namespace Su
open Go Fly
set_option linter.unusedVariables false
noncomputable section
def qtR  (e:Int):Option Int :=
 (bif (decide (((((Su.qF (Su.bK (Int.toNat e))):Nat):Int)=0))) then
 some 0
 else
  (bif (decide (((((Su.qF (Su.bK (Int.toNat e))):Nat):Int)=4))) then
  (bif (decide (((((Su.qF (Su.bK (Int.toNat e))):Nat):Int)=4))) then
  some ((9218868437227405312:Nat):Int)
 else
  some e)
 else
  (bif (decide (((Int.fdiv e (2^63))=1))) then
  some ((9218868437227405312:Nat):Int)
 else
  some e)))
def qi2  (e:Int):Option Int :=
 (bif (decide (((((Su.qF (Su.bK (Int.toNat e))):Nat):Int)=0))) then
 some 0
 else
  (bif (decide (((((Su.qF (Su.bK (Int.toNat e))):Nat):Int)=4))) then
  some 9218868437227405312
 else
  (bif (decide (((Int.fdiv e (2^63))=1))) then
  some 9218868437227405312
 else
  some e)))
def qEJ  (f:Int):Option Bool :=
 (bif (!(decide (((((Su.qF (Su.bK (Int.toNat f))):Nat):Int)=3)))) then
 some (!(decide (((((Su.qF (Su.bK (Int.toNat f))):Nat):Int)=4))))
 else
  some false)
def qtS (f:Int):Option Bool:=some (jS (bK f.toNat))
theorem qzg (f:Int) (y:Bool) (hg:(d1 (cI .u64)).good f) (h:qtS f=some y):qEJ f=some y:=by
 obtain ⟨n,rfl,hn⟩:=qO hg
 have:=soi h;subst this
 unfold qEJ
 rw [Int.toNat_natCast,← qiP]
 cases decide (((qF (bK n):Nat):Int)=3) <;> rfl
def gdF (e:Int):Int:=bif Nat.beq (bK e.toNat) 0 then 0 else bif qU (bK e.toNat)||bS e.toNat then 9218868437227405312 else e
def qoz (e:Int):Option Int:=some (gdF e)
theorem qtT (e y:Int) (hg:(d1 (cI .u64)).good e) (h:qoz e=some y):qtR e=some y:=by
 obtain ⟨n,rfl,hn⟩:=qO hg
 have:=soi h;subst this
 unfold qtR gdF
 rw [Int.toNat_natCast,Z0,Zj,qiR n hn]
 cases Nat.beq (bK n) 0 <;> cases qU (bK n) <;> cases bS n <;> rfl
def qhh (e:Int):Option Int:=some (gdF e)
theorem qm5 (e y:Int) (hg:(d1 (cI .u64)).good e) (h:qhh e=some y):qi2 e=some y:=by
 obtain ⟨n,rfl,hn⟩:=qO hg
 have:=soi h;subst this
 unfold qi2 gdF
 rw [Int.toNat_natCast,Z0,Zj,qiR n hn]
 cases Nat.beq (bK n) 0 <;> cases qU (bK n) <;> cases bS n <;> rfl
end
end Su
end
section
namespace Su
open Go Fly
set_option linter.unusedVariables false
noncomputable section
def qoA:(Int×((List Int)×(Int×(Int×Unit))))→Option ((Int×((List Int)×(Int×(Int×Unit)))) ⊕ (Lp (Int×((List Int)×(Int×(Int×Unit)))) Int)):=fun p1=>(bif (decide ((p1.2.2.2.1<p1.2.2.1))) then
 ((Su.idx p1.2.1 p1.2.2.2.1)).bind fun x2 =>
 (bif (Su.qU (Su.bK (Int.toNat x2))) then
 some (.inr (.ret 9221120237041090560))
 else
  (bif (Su.yL (Int.toNat p1.1) (Int.toNat x2)) then
  some (.inl (x2,(p1.2.1,(p1.2.2.1,((Go.IntKind.wrap .i64 (p1.2.2.2.1+1)),())))))
 else
  some (.inl (p1.1,(p1.2.1,(p1.2.2.1,((Go.IntKind.wrap .i64 (p1.2.2.2.1+1)),())))))))
 else
  some (.inr (.exit 0 (p1.1,(p1.2.1,(p1.2.2.1,(p1.2.2.2.1,())))))))
def qEK  (fu:Nat) (l:(List Int)):Option Int :=
 (bif (decide (((((List.length l):Nat):Int)=0))) then
 some 9221120237041090560
 else
  ((Su.idx l 0)).bind fun x0 =>
  (itP fu (qoA) (x0,(l,((((List.length l):Nat):Int),((0:Int),()))))).bind fun x3 =>
  (match x3 with
 | .exit i4 p5=>(bif (Nat.beq i4 0) then
  some p5.1
 else
  none)
 | .ret o6=>some o6))
def qoB:(Int×((List Int)×(Int×(Int×Unit))))→Option ((Int×((List Int)×(Int×(Int×Unit)))) ⊕ (Lp (Int×((List Int)×(Int×(Int×Unit)))) Int)):=fun p1=>(bif (decide ((p1.2.2.2.1<p1.2.2.1))) then
 ((Su.idx p1.2.1 p1.2.2.2.1)).bind fun x2 =>
 (bif (Su.qU (Su.bK (Int.toNat x2))) then
 some (.inr (.ret 9221120237041090560))
 else
  (bif (Su.yL (Int.toNat x2) (Int.toNat p1.1)) then
  some (.inl (x2,(p1.2.1,(p1.2.2.1,((Go.IntKind.wrap .i64 (p1.2.2.2.1+1)),())))))
 else
  some (.inl (p1.1,(p1.2.1,(p1.2.2.1,((Go.IntKind.wrap .i64 (p1.2.2.2.1+1)),())))))))
 else
  some (.inr (.exit 0 (p1.1,(p1.2.1,(p1.2.2.1,(p1.2.2.2.1,())))))))
def qEL  (fu:Nat) (l:(List Int)):Option Int :=
 (bif (decide (((((List.length l):Nat):Int)=0))) then
 some 9221120237041090560
 else
  ((Su.idx l 0)).bind fun x0 =>
  (itP fu (qoB) (x0,(l,((((List.length l):Nat):Int),((0:Int),()))))).bind fun x3 =>
  (match x3 with
 | .exit i4 p5=>(bif (Nat.beq i4 0) then
  some p5.1
 else
  none)
 | .ret o6=>some o6))
def qtU (l:List Int):Option Int:=match l with
 | [a,b]=>some (qfA a.toNat b.toNat:Int)
 | _=>none
def qtV (l:List Int):Option Int:=match l with
 | [a,b]=>some (qiQ a.toNat b.toNat:Int)
 | _=>none
theorem qCB:IntKind.i64.wrap (0+1)=1:=by decide
theorem qCC:IntKind.i64.wrap (1+1)=2:=by decide
theorem qzh (l:List Int) (y:Int) (hg:(d1 (cQ 2 1)).good l) (h:qtU l=some y):∃ n,qEK n l=some y:=by
 match l,h with
 | [a,b],h =>
  have:=soi h;subst this
  obtain ⟨A,rfl,hA⟩:=qO (hg.1 a (List.mem_cons_self ..))
  obtain ⟨B,rfl,hB⟩:=qO (hg.1 b (List.mem_cons_of_mem _ (List.mem_cons_self ..)))
  refine ⟨3,?_⟩
  unfold qEK qfA
  have i0:idx [(A:Int),(B:Int)] 0=some (A:Int):=rfl
  have i1:idx [(A:Int),(B:Int)] 1=some (B:Int):=rfl
  simp only [List.length_cons,List.length_nil,i0,Option.bind_some,qM,qoA,Int.toNat_natCast,qCB]
  have d0:decide ((((0+1+1:Nat):Int))=0)=false:=by decide
  have d1:decide ((0:Int)<(((0+1+1:Nat):Int)))=true:=by decide
  have d2:decide ((1:Int)<(((0+1+1:Nat):Int)))=true:=by decide
  have d3:decide ((2:Int)<(((0+1+1:Nat):Int)))=false:=by decide
  rw [d0,d1]
  cases ha:qU (bK A) with
  | true=>rfl
  | false =>
   simp only [cond_true,cond_false,Bool.false_or]
   cases hAA:yL A A <;> (
    simp only [cond_true,cond_false,Option.bind_some,d2,i1,Int.toNat_natCast]
    cases hb:qU (bK B) with
    | true=>rfl
    | false =>
     simp only [cond_true,cond_false]
     cases hAB:yL A B <;> (
      simp only [cond_true,cond_false,Option.bind_some,qCC,d3]
      rfl))
theorem qzi (l:List Int) (y:Int) (hg:(d1 (cQ 2 1)).good l) (h:qtV l=some y):∃ n,qEL n l=some y:=by
 match l,h with
 | [a,b],h =>
  have:=soi h;subst this
  obtain ⟨A,rfl,hA⟩:=qO (hg.1 a (List.mem_cons_self ..))
  obtain ⟨B,rfl,hB⟩:=qO (hg.1 b (List.mem_cons_of_mem _ (List.mem_cons_self ..)))
  refine ⟨3,?_⟩
  unfold qEL qiQ
  have i0:idx [(A:Int),(B:Int)] 0=some (A:Int):=rfl
  have i1:idx [(A:Int),(B:Int)] 1=some (B:Int):=rfl
  simp only [List.length_cons,List.length_nil,i0,Option.bind_some,qM,qoB,Int.toNat_natCast,qCB]
  have d0:decide ((((0+1+1:Nat):Int))=0)=false:=by decide
  have d1:decide ((0:Int)<(((0+1+1:Nat):Int)))=true:=by decide
  have d2:decide ((1:Int)<(((0+1+1:Nat):Int)))=true:=by decide
  have d3:decide ((2:Int)<(((0+1+1:Nat):Int)))=false:=by decide
  rw [d0,d1]
  cases ha:qU (bK A) with
  | true=>rfl
  | false =>
   simp only [cond_true,cond_false,Bool.false_or]
   cases hAA:yL A A <;> (
    simp only [cond_true,cond_false,Option.bind_some,d2,i1,Int.toNat_natCast]
    cases hb:qU (bK B) with
    | true=>rfl
    | false =>
     simp only [cond_true,cond_false]
     cases hAB:yL B A <;> (
      simp only [cond_true,cond_false,Option.bind_some,qCC,d3]
      rfl))
end
end Su
end
section
namespace Su
open Go Fly
set_option linter.unusedVariables false
noncomputable section
def qEM  (f:Int):Option Bool :=
 (bif (!(decide (((((Su.qF (Su.bK (Int.toNat f))):Nat):Int)=4)))) then
 some (!(decide (((((Su.qF (Su.bK (Int.toNat f))):Nat):Int)=3))))
 else
  some false)
def qtW  (f:Int):Option Bool :=
 some (decide (((((Su.qF (Su.bK (Int.toNat f))):Nat):Int)=0)))
theorem obs {α β:Type} {a:Option α} {f:α→Option β} {t:α} {r:Option β} (h:a=some t) (h2:f t=r):a.bind f=r:=by rw [h];exact h2
def qtX (f:Int):Option Bool:=some (jS (bK f.toNat))
def qoC (f:Int):Option Bool:=some (Nat.beq (bK f.toNat) 0)
theorem qzj (f:Int) (y:Bool) (hg:(d1 (cI .u64)).good f) (h:qtX f=some y):qEM f=some y:=by
 have:=soi h;subst this
 unfold qEM
 rw [← qiP]
 cases decide (((qF (bK f.toNat):Nat):Int)=4) with
 | true=>rw [Bool.not_true,cond_false,Bool.and_false]
 | false=>rw [Bool.not_false,cond_true,Bool.and_true]
theorem qtY (f:Int) (y:Bool) (hg:(d1 (cI .u64)).good f) (h:qoC f=some y):qtW f=some y:=by
 have:=soi h;subst this
 unfold qtW
 rw [Zj]
end
end Su
end
