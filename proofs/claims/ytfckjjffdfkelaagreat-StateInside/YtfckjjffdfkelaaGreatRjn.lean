/-
  Bits and rounding, in plain Lean. No condition.
-/
import Derived.Test.YtfckjjffdfkelaaGreatRin
import Derived.Test.YtfckjjffdfkelaaGreatSuSd
import Derived.Test.YtfckjjffdfkelaaGreatNB30
set_option maxRecDepth 10000
section
namespace Su
open Go Fly
set_option linter.unusedVariables false
noncomputable section
theorem qlr {e:Int} (h:Fw e):Nz (gdF e)∧0≤ky (gdF e):=by
 unfold gdF
 cases h0:Nat.beq (bK e.toNat) 0 with
 | true =>
  show Nz 0∧0≤ky 0
  exact ⟨⟨⟨by decide,by decide⟩,by decide,by decide⟩,by decide⟩
 | false =>
  cases h1:(qU (bK e.toNat)||bS e.toNat) with
  | true =>
   show Nz 9218868437227405312∧0≤ky 9218868437227405312
   exact ⟨⟨⟨by decide,by decide⟩,by decide,by decide⟩,by decide⟩
  | false =>
   rw [Bool.or_eq_false_iff] at h1
   show Nz e∧0≤ky e
   refine ⟨⟨h,h1.1,fun e0=>?_⟩,?_⟩
   · subst e0;revert h0;decide
   · unfold ky Qh;rw [h1.2,cond_false];omega
theorem qCS {a b:Int} (ha:Nz a) (hb:Nz b):mxI a b=if ky a<ky b then b else a:=qHD ha.w hb.w ha.n hb.n
theorem qFu {a:Int} (ha:Fw a):qm2 0 a=gdF a:=by
 obtain ⟨h1,h2⟩:=qlr ha
 have z:Nz 0:=⟨⟨by decide,by decide⟩,by decide,by decide⟩
 have e0:ky 0=0:=by decide
 unfold qm2
 rw [qCS z h1,e0]
 by_cases h:0<ky (gdF a)
 · rw [if_pos h]
 · rw [if_neg h]
   exact quI z.w h1.w z.z h1.z (by omega)
theorem qls {a b:Int} (ha:Fw a) (hb:Fw b):qfO [a,b]=if ky (gdF a)<ky (gdF b) then gdF b else gdF a:=by
 show qm2 (qm2 0 a) b=_
 rw [qFu ha]
 exact qCS (qlr ha).1 (qlr hb).1
theorem qvi {a:Int} (ha:Fw a):qfO [a,a]=gdF a:=by rw [qls ha ha,if_neg (by omega)]
def inC (t:Int) (x y:Su.Ce):Bool :=
 bif decide (t=1) then ((x.f||y.f) == y.f)&&(((x.t||y.t) == y.t)&&true)
 else bif decide (t=2) then y6 x.i y.i&&qfL (x.d,x.p) (y.d,y.p)
 else (y.fm.1||(ofS y.fm x.s.2.1&&ofS y.fm x.s.2.2))&&(Zl x.s y.s&&decide (qfO [x.sl,y.sl]=gdF y.sl))
theorem qCT {t:Int} {x y:Su.Ce} (h:t=1):inC t x y=(((x.f||y.f) == y.f)&&(((x.t||y.t) == y.t)&&true)):=by
 unfold inC;rw [decide_eq_true h];rfl
theorem qCU {t:Int} {x y:Su.Ce} (h:t=2):inC t x y=(y6 x.i y.i&&qfL (x.d,x.p) (y.d,y.p)):=by
 unfold inC;rw [decide_eq_true h,decide_eq_false (by omega)];rfl
theorem qvj {t:Int} {x y:Su.Ce} (h:t=3):inC t x y=((y.fm.1||(ofS y.fm x.s.2.1&&ofS y.fm x.s.2.2))&&(Zl x.s y.s&&decide (qfO [x.sl,y.sl]=gdF y.sl))):=by
 unfold inC;rw [decide_eq_false (by omega),decide_eq_false (by omega)];rfl
structure Cw (t:Int) (x:Su.Ce):Prop where
 bare:qo x t=x
 some:qJ x t=false
 sp:SpW x.s
 sl:Fw x.sl
theorem qqU (x:Su.Ce) (t:Int):qo (qo x t) t=qo x t:=by
 by_cases h1:t=1
 · rw [qeu h1,qeu h1]
 · by_cases h2:t=2
   · rw [qev h2,qev h2]
   · by_cases h3:t=3
     · rw [Z7 h3,Z7 h3]
     · unfold qo;rw [decide_eq_false h1,decide_eq_false h2,decide_eq_false h3];rfl
theorem qqV {x:Su.Ce} {t:Int} (h:qJ x t=false):t=1∨t=2∨t=3:=by
 by_cases h1:t=1
 · exact .inl h1
 · by_cases h2:t=2
   · exact .inr (.inl h2)
   · by_cases h3:t=3
     · exact .inr (.inr h3)
     · unfold qJ at h;rw [decide_eq_false h1,decide_eq_false h2,decide_eq_false h3] at h;cases h
theorem qvk:SpW iv0:=⟨⟨by decide,by decide⟩,⟨by decide,by decide⟩⟩
theorem qAb {t:Int} {x:Su.Ce} (hx:Cw t x) (hF:t=3→x.fm.1=true):inC t x x=true:=by
 rcases qqV hx.some with ht | ht | ht
 · rw [qCT ht];cases x.f <;> cases x.t <;> rfl
 · rw [qCU ht,Z2,qqH];rfl
 · rw [qvj ht,hF ht,qqK hx.sp,qvi hx.sl,decide_eq_true rfl];rfl
structure Ev (c:CoD) (s:StD):Prop where
 live:s.1=false
 len:s.2.2.2.2.length=c.2.1.length
 kN:ivN (stK s)=stK s
 kS:(stK s).1=false
 cell:∀ (i:Nat) (hi:i<c.2.1.length),Cw c.2.1[i].type (s.2.2.2.2[i]'(by omega))
def jH (_:Nat) (_:Su.Cc) (x:Su.Ce):Su.Ce:=x
theorem qAc {s:StD} (h:s.1=false):mkS (stK s) s.2.2.2.2=s:=by
 obtain ⟨a,b,d,e,l⟩:=s
 have h:a=false:=h
 subst h;rfl
theorem qvl {c:CoD} {s:StD} {f:Nat→Su.Cc→Su.Ce→Su.Ce} (h1:s.1=false) (h2:s.2.2.2.2.length=c.2.1.length) (h3:(ivN (stK s)).1=false)
 (hc:∀ (i:Nat) (hi:i<c.2.1.length),qJ (qo (f i c.2.1[i] (s.2.2.2.2[i]'(by omega))) c.2.1[i].type) c.2.1[i].type=false) :
 ∃ P,qC c s f=mkS (ivN (stK s)) P∧P.length=c.2.1.length∧∀ (i:Nat) (hi:i<c.2.1.length),P[i]?=some (qo (f i c.2.1[i] (s.2.2.2.2[i]'(by omega))) c.2.1[i].type):=by
 have hout:∀ (i:Nat) (hi:i<c.2.1.length),q9 c.2.1 s.2.2.2.2 f i=some (qo (f i c.2.1[i] (s.2.2.2.2[i]'(by omega))) c.2.1[i].type):=by
  intro i hi
  unfold q9
  rw [List.getElem?_eq_getElem hi,List.getElem?_eq_getElem (show i<s.2.2.2.2.length by omega)]
  exact qt (hc i hi)
 obtain ⟨P,hP⟩:=Yy (out:=q9 c.2.1 s.2.2.2.2 f) (n:=c.2.1.length) fun i hi=>by rw [hout i hi];simp
 refine ⟨P,?_,jl hP,fun i hi=>by rw [← Jg hP i hi,hout i hi]⟩
 rw [jP f h1 h2 (by rw [qd0];exact h3),hP,qd0];rfl
theorem qo7 {c:CoD} {s:StD} (h:Ev c s):qC c s jH=s:=by
 obtain ⟨P,e,hl,hg⟩:=qvl (f:=jH) h.live h.len (by rw [h.kN];exact h.kS) fun i hi=>by
  have:=h.cell i hi
  show qJ (qo (s.2.2.2.2[i]'_) _) _=false
  rw [this.bare];exact this.some
 rw [e,h.kN]
 have:P=s.2.2.2.2:=by
  refine List.ext_getElem? fun i=>?_
  by_cases hi:i<c.2.1.length
  · rw [hg i hi,List.getElem?_eq_getElem (by rw [h.len];exact hi)]
    exact congrArg some (h.cell i hi).bare
  · rw [List.getElem?_eq_none (by omega),List.getElem?_eq_none (by rw [h.len];omega)]
 rw [this];exact qAc h.live
theorem qhj {c:CoD} {s:StD} {f:Nat→Su.Cc→Su.Ce→Su.Ce} (h:(qC c s f).1=true):qC c s f=ji:=by
 revert h
 unfold qC
 cases s.1 with
 | true=>intro _;rfl
 | false =>
  cases (!decide (s.2.2.2.2.length=c.2.1.length)) with
  | true=>intro _;rfl
  | false =>
   cases (qH [stK s]).1 with
   | true=>intro _;rfl
   | false =>
    simp only [cond_false]
    cases qP (q9 c.2.1 s.2.2.2.2 f) c.2.1.length with
    | none=>intro _;rfl
    | some P=>intro h;cases h
theorem QL {c:CoD} {s:StD} {f:Nat→Su.Cc→Su.Ce→Su.Ce} (h:(qC c s f).1=false) :
 ∃ (h2:s.2.2.2.2.length=c.2.1.length) (P:List Su.Ce),s.1=false∧(ivN (stK s)).1=false∧qC c s f=mkS (ivN (stK s)) P∧P.length=c.2.1.length ∧
  ∀ (i:Nat) (hi:i<c.2.1.length),P[i]?=some (qo (f i c.2.1[i] (s.2.2.2.2[i]'(by omega))) c.2.1[i].type)∧qJ (qo (f i c.2.1[i] (s.2.2.2.2[i]'(by omega))) c.2.1[i].type) c.2.1[i].type=false:=by
 have h1:s.1=false:=by
  cases h1:s.1 with
  | false=>rfl
  | true=>rw [show qC c s f=ji from qz h1] at h;cases h
 have h2:s.2.2.2.2.length=c.2.1.length:=by
  by_cases h2:s.2.2.2.2.length=c.2.1.length
  · exact h2
  · rw [show qC c s f=ji from (qt h1).trans (qz (by rw [decide_eq_false h2];rfl))] at h;cases h
 have h3:(ivN (stK s)).1=false:=by
  cases h3:(ivN (stK s)).1 with
  | false=>rfl
  | true=>rw [show qC c s f=ji from (qt h1).trans ((qt (by rw [decide_eq_true h2];rfl)).trans (qz (by rw [qd0];exact h3)))] at h;cases h
 rw [jP f h1 h2 (by rw [qd0];exact h3),qd0] at h
 cases hb:qP (q9 c.2.1 s.2.2.2.2 f) c.2.1.length with
 | none=>rw [hb] at h;cases h
 | some P =>
  refine ⟨h2,P,h1,h3,by rw [jP f h1 h2 (by rw [qd0];exact h3),qd0,hb];rfl,jl hb,fun i hi=>?_⟩
  have hg:=Jg hb i hi
  unfold q9 at hg
  rw [List.getElem?_eq_getElem hi,List.getElem?_eq_getElem (show i<s.2.2.2.2.length by omega)] at hg
  simp only [] at hg
  cases hn:qJ (qo (f i c.2.1[i] (s.2.2.2.2[i]'(by omega))) c.2.1[i].type) c.2.1[i].type with
  | true =>
   rw [hn,cond_true] at hg
   rw [List.getElem?_eq_getElem (show i<P.length by rw [jl hb];exact hi)] at hg
   cases hg
  | false =>
   rw [hn,cond_false] at hg
   exact ⟨hg.symm,rfl⟩
theorem qo8 {c:CoD} {s:StD} {f:Nat→Su.Cc→Su.Ce→Su.Ce} (h:(qC c s f).1=false)
 (hw:∀ (i:Nat) (hi:i<c.2.1.length) (hs:i<s.2.2.2.2.length),SpW (qo (f i c.2.1[i] s.2.2.2.2[i]) c.2.1[i].type).s∧Fw (qo (f i c.2.1[i] s.2.2.2.2[i]) c.2.1[i].type).sl):Ev c (qC c s f):=by
 obtain ⟨h2,P,h1,h3,e,hl,hg⟩:=QL h
 rw [e]
 refine ⟨rfl,hl,?_,h3,fun i hi=>?_⟩
 · show ivN (ivN (stK s))=ivN (stK s);exact Qj _
 · have hiP:i<P.length:=by omega
   have:=(hg i hi).1
   rw [List.getElem?_eq_getElem hiP] at this
   show Cw c.2.1[i].type P[i]
   rw [soi this]
   exact ⟨qqU _ _,(hg i hi).2,(hw i hi (by omega)).1,(hw i hi (by omega)).2⟩
structure Pl (c:CoD) (s:StD):Prop where
 ev:Ev c s
 bad:∀ (i:Nat) (hi:i<c.2.1.length),c.2.1[i].type=3→(s.2.2.2.2[i]'(by have:=ev.len;omega)).fm=qhi
def Sw (s:StD):Prop:=∀ x∈s.2.2.2.2,SpW x.s∧Fw x.sl∧FmW x.fm
theorem qi3 {x:Su.Ce} (h1:SpW x.s) (h2:Fw x.sl) (t:Int):SpW (qo x t).s∧Fw (qo x t).sl:=by
 unfold qo
 cases decide (t=1) with
 | true=>exact ⟨qvk,qvf⟩
 | false =>
  cases decide (t=2) with
  | true=>exact ⟨qvk,qvf⟩
  | false =>
   cases decide (t=3) with
   | true=>exact ⟨h1,h2⟩
   | false=>exact ⟨qvk,qvf⟩
theorem qHI {s:StD} {x:Su.Ce} (h:SpW x.s∧Fw x.sl∧FmW x.fm) (i:Nat) (d:Su.Cc):SpW (Zr s i d x).s∧Fw (Zr s i d x).sl:=by
 unfold Zr
 cases decide (d.type=2) with
 | true=>exact ⟨qCR h.1 (qo6 h.2.2),h.2.1⟩
 | false=>exact ⟨qCR h.1 (qo6 h.2.2),h.2.1⟩
theorem qFv {c:CoD} {s:StD} (hw:Sw s) (h:(qcg c s).1=false):Ev c (qcg c s) :=
 qo8 h fun i hi hs=>by
  obtain ⟨a,b⟩:=qHI (s:=s) (hw _ (List.getElem_mem hs)) i c.2.1[i]
  exact qi3 a b _
theorem qvm {c:CoD} {s:StD} (hw:Sw s) (h:(jR c s).1=false):Pl c (jR c s):=by
 have h':(qC c (qcg c s) Yz).1=false:=h
 obtain ⟨h2,P,h1,h3,e,hl,hg⟩:=QL h'
 have er:=qFv hw h1
 have ev:Ev c (qC c (qcg c s) Yz):=by
  clear hg e h3
  generalize qcg c s=r at *
  exact qo8 h' fun i hi hs=>qi3 (x:=Yz i c.2.1[i] r.2.2.2.2[i]) (er.cell i hi).sp (er.cell i hi).sl _
 refine ⟨ev,fun i hi ht=>?_⟩
 have hiP:i<P.length:=by omega
 have:=(hg i hi).1
 rw [List.getElem?_eq_getElem hiP] at this
 have e2:(jR c s).2.2.2.2=P:=by
  show (qC c (qcg c s) Yz).2.2.2.2=P
  rw [e];rfl
 have e3:((jR c s).2.2.2.2[i]'(by rw [e2];exact hiP))=P[i]:=by simp only [e2]
 rw [e3,soi this,Z7 ht];rfl
theorem qm6 {c:CoD} {s:StD} (h:(jR c s).1=true):jR c s=ji:=qhj h
def inN (C:List Su.Cc) (X Y:List Su.Ce) (i:Nat):Bool :=
 match C[i]?,X[i]?,Y[i]? with
 | some d,some x,some y=>inC d.type x y
 | _,_,_=>true
def qda (c:CoD) (a b:StD):Bool :=
 bif (qC c a jH).1||(qC c b jH).1 then (qC c a jH).1
 else Yv c.2.1.length (inN c.2.1 (qC c a jH).2.2.2.2 (qC c b jH).2.2.2.2)&&y6 (stK (qC c a jH)) (stK (qC c b jH))
theorem qvn (c:CoD) (b:StD):qda c ji b=true:=rfl
theorem qAd {c:CoD} {a b:StD} (ha:Ev c a) (hb:Ev c b):qda c a b=true↔(∀ (i:Nat) (hi:i<c.2.1.length),inC c.2.1[i].type (a.2.2.2.2[i]'(by have:=ha.len;omega)) (b.2.2.2.2[i]'(by have:=hb.len;omega))=true)∧y6 (stK a) (stK b)=true:=by
 unfold qda
 rw [qo7 ha,qo7 hb,ha.live,hb.live,Bool.or_self,cond_false,Bool.and_eq_true,Jc]
 refine and_congr_left fun _=>forall_congr' fun i=>?_
 unfold inN
 constructor
 · intro h hi
   have:=h hi
   rw [List.getElem?_eq_getElem hi,List.getElem?_eq_getElem (by have:=ha.len;omega),List.getElem?_eq_getElem (by have:=hb.len;omega)] at this
   exact this
 · intro h hi
   rw [List.getElem?_eq_getElem hi,List.getElem?_eq_getElem (by have:=ha.len;omega),List.getElem?_eq_getElem (by have:=hb.len;omega)]
   exact h hi
end
end Su
end
section
namespace Su
open Go Fly
set_option linter.unusedVariables false
noncomputable section
def qFw  (x:Su.Ce) (t:Int) (y:Su.Ce):Option Bool :=
 (bif (decide ((t=1))) then
 some ((((Su.Ce.f x)||(Su.Ce.f y)) == (Su.Ce.f y))&&((((Su.Ce.t x)||(Su.Ce.t y)) == (Su.Ce.t y))&&true))
 else
  (bif (decide ((t=2))) then
  (bif (Su.y6 x.3 y.3) then
  some (Su.qfL (x.4,x.5) (y.4,y.5))
 else
  some false)
 else
  (bif y.8.1 then
  (bif (Su.Zl x.6 y.6) then
  some (decide (((Su.qfO [(Su.Ce.sl x),(Su.Ce.sl y)])=(Su.gdF (Su.Ce.sl y)))))
 else
  some false)
 else
  ((Su.qci (y.8,x.6.2.1))).bind fun x0 =>
  (bif x0 then
  ((Su.qci (y.8,x.6.2.2))).bind fun x1 =>
  (bif x1 then
  (bif (Su.Zl x.6 y.6) then
  some (decide (((Su.qfO [(Su.Ce.sl x),(Su.Ce.sl y)])=(Su.gdF (Su.Ce.sl y)))))
 else
  some false)
 else
  some false)
 else
  some false))))
def qfX (p:Su.Ce×(Int×Su.Ce)):Option Bool:=bif Nat.ble p.2.2.fm.2.2.1.length 1000000 then some (inC p.2.1 p.1 p.2.2) else none
theorem qAe (p:Su.Ce×(Int×Su.Ce)) (y:Bool) (hg:(dc cCe (dc (cI .u8) (d1 cCe))).good p) (h:qfX p=some y):qFw p.1 p.2.1 p.2.2=some y:=by
 obtain ⟨x,t,z⟩:=p
 obtain ⟨hm,h⟩:=qj h
 have:=soi h;subst this
 have hof:∀ f:Int,qci (z.fm,f)=some (ofS z.fm f):=fun f=>by unfold qci;rw [show Nat.ble (z.fm,f).1.2.2.1.length 1000000=true from hm,cond_true]
 unfold qFw inC
 simp only [hof,Option.bind_some]
 cases decide (t=1) with
 | true=>rfl
 | false =>
  cases decide (t=2) with
  | true =>
   show (bif y6 x.i z.i then some (qfL (x.d,x.p) (z.d,z.p)) else some false)=some (y6 x.i z.i&&qfL (x.d,x.p) (z.d,z.p))
   cases y6 x.i z.i <;> rfl
  | false =>
   show (bif z.fm.1 then (bif Zl x.s z.s then some (decide (qfO [x.sl,z.sl]=gdF z.sl)) else some false) else
    (bif ofS z.fm x.s.2.1 then (bif ofS z.fm x.s.2.2 then (bif Zl x.s z.s then some (decide (qfO [x.sl,z.sl]=gdF z.sl)) else some false) else some false) else some false)) =
    some ((z.fm.1||(ofS z.fm x.s.2.1&&ofS z.fm x.s.2.2))&&(Zl x.s z.s&&decide (qfO [x.sl,z.sl]=gdF z.sl)))
   cases z.fm.1 <;> cases ofS z.fm x.s.2.1 <;> cases ofS z.fm x.s.2.2 <;> cases Zl x.s z.s <;> rfl
end
end Su
end
section
namespace Su
open Go Fly
set_option linter.unusedVariables false
noncomputable section
abbrev qa9:=(Int×((List Su.Cc)×((List Su.T)×((List Su.T)×((List Su.T)×((List Su.T)×(Int×((List Su.Ce)×(Int×(Int×((List Su.T)×(Bool×(Bool×(Int×(Int×(Nat×((List Su.T)×(Bool×(Bool×(Int×(Int×(Nat×Unit))))))))))))))))))))))
def Zt:qa9→Option (qa9 ⊕ (Lp qa9 (Bool×(Bool×(Int×(Int×(List Su.Ce))))))):=fun p0=>(bif (decide ((p0.2.2.2.2.2.2.2.2.2.1<p0.2.2.2.2.2.2.2.2.1))) then
 ((Su.idx p0.2.2.2.2.2.2.2.1 p0.2.2.2.2.2.2.2.2.2.1)).bind fun x1 =>
 ((Su.idx p0.2.1 p0.2.2.2.2.2.2.2.2.2.1)).bind fun x2 =>
 (bif (Su.qJ (Su.qo x1 (Su.Cc.type x2)) (Su.Cc.type x2)) then
 some (.inr (.ret (true,(false,((0:Int),((0:Int),[]))))))
 else
  (bif ((true&&(Nat.beq p0.2.2.2.2.2.2.2.2.2.2.2.2.2.2.2.2.2.2.2.2.2.1 (List.length p0.2.2.2.2.2.2.2.2.2.2.2.2.2.2.2.2.1)))&&(Nat.ble ((List.length p0.2.2.2.2.2.2.2.2.2.2.2.2.2.2.2.2.1)+(List.length [(Su.view 14 (Su.qo x1 (Su.Cc.type x2)))])) 549755813888)) then
  some (.inl (p0.1,(p0.2.1,(p0.2.2.1,(p0.2.2.2.1,(p0.2.2.2.2.1,(p0.2.2.2.2.2.1,(p0.2.2.2.2.2.2.1,(p0.2.2.2.2.2.2.2.1,(p0.2.2.2.2.2.2.2.2.1,((Go.IntKind.wrap .i64 (p0.2.2.2.2.2.2.2.2.2.1+1)),(p0.2.2.2.2.2.2.2.2.2.2.1,(p0.2.2.2.2.2.2.2.2.2.2.2.1,(p0.2.2.2.2.2.2.2.2.2.2.2.2.1,(p0.2.2.2.2.2.2.2.2.2.2.2.2.2.1,(p0.2.2.2.2.2.2.2.2.2.2.2.2.2.2.1,(p0.2.2.2.2.2.2.2.2.2.2.2.2.2.2.2.1,((p0.2.2.2.2.2.2.2.2.2.2.2.2.2.2.2.2.1++[(Su.view 14 (Su.qo x1 (Su.Cc.type x2)))]),(p0.2.2.2.2.2.2.2.2.2.2.2.2.2.2.2.2.2.1,(p0.2.2.2.2.2.2.2.2.2.2.2.2.2.2.2.2.2.2.1,(p0.2.2.2.2.2.2.2.2.2.2.2.2.2.2.2.2.2.2.2.1,(p0.2.2.2.2.2.2.2.2.2.2.2.2.2.2.2.2.2.2.2.2.1,((List.length (p0.2.2.2.2.2.2.2.2.2.2.2.2.2.2.2.2.1++[(Su.view 14 (Su.qo x1 (Su.Cc.type x2)))])),())))))))))))))))))))))))
 else
  none))
 else
  some (.inr (.exit 0 (p0.1,(p0.2.1,(p0.2.2.1,(p0.2.2.2.1,(p0.2.2.2.2.1,(p0.2.2.2.2.2.1,(p0.2.2.2.2.2.2.1,(p0.2.2.2.2.2.2.2.1,(p0.2.2.2.2.2.2.2.2.1,(p0.2.2.2.2.2.2.2.2.2.1,(p0.2.2.2.2.2.2.2.2.2.2.1,(p0.2.2.2.2.2.2.2.2.2.2.2.1,(p0.2.2.2.2.2.2.2.2.2.2.2.2.1,(p0.2.2.2.2.2.2.2.2.2.2.2.2.2.1,(p0.2.2.2.2.2.2.2.2.2.2.2.2.2.2.1,(p0.2.2.2.2.2.2.2.2.2.2.2.2.2.2.2.1,(p0.2.2.2.2.2.2.2.2.2.2.2.2.2.2.2.2.1,(p0.2.2.2.2.2.2.2.2.2.2.2.2.2.2.2.2.2.1,(p0.2.2.2.2.2.2.2.2.2.2.2.2.2.2.2.2.2.2.1,(p0.2.2.2.2.2.2.2.2.2.2.2.2.2.2.2.2.2.2.2.1,(p0.2.2.2.2.2.2.2.2.2.2.2.2.2.2.2.2.2.2.2.2.1,(p0.2.2.2.2.2.2.2.2.2.2.2.2.2.2.2.2.2.2.2.2.2.1,())))))))))))))))))))))))))
def qo9  (fu:Nat) (c:(Int×((List Su.Cc)×((List Su.T)×((List Su.T)×((List Su.T)×((List Su.T)×Int))))))) (s:(Bool×(Bool×(Int×(Int×(List Su.Ce)))))) (u:Unit):Option (Bool×(Bool×(Int×(Int×(List Su.Ce))))) :=
 (bif s.1 then
 some (true,(false,((0:Int),((0:Int),[]))))
 else
  (bif (!(decide (((((List.length s.2.2.2.2):Nat):Int)=(((List.length c.2.1):Nat):Int))))) then
  some (true,(false,((0:Int),((0:Int),[]))))
 else
  (bif (Su.qH [(s.2.1,(s.2.2.1,s.2.2.2.1))]).1 then
  some (true,(false,((0:Int),((0:Int),[]))))
 else
  (itP fu (Zt) (c.1,(c.2.1,(c.2.2.1,(c.2.2.2.1,(c.2.2.2.2.1,(c.2.2.2.2.2.1,(c.2.2.2.2.2.2,(s.2.2.2.2,((((List.length s.2.2.2.2):Nat):Int),((0:Int),([],(false,(false,((0:Int),((0:Int),(0,([],(false,((Su.qH [(s.2.1,(s.2.2.1,s.2.2.2.1))]).1,((Su.qH [(s.2.1,(s.2.2.1,s.2.2.2.1))]).2.1,((Su.qH [(s.2.1,(s.2.2.1,s.2.2.2.1))]).2.2,(0,()))))))))))))))))))))))).bind fun x3 =>
  (match x3 with
 | .exit i4 p5=>(bif (Nat.beq i4 0) then
  ((Su.sub p5.2.2.2.2.2.2.2.2.2.2.2.2.2.2.2.2.1 0 p5.2.2.2.2.2.2.2.2.2.2.2.2.2.2.2.2.2.2.2.2.2.1)).bind fun x6 =>
  (((((Su.unR (Su.rCe) x6)).bind fun x7 =>
  some (p5.2.2.2.2.2.2.2.2.2.2.2.2.2.2.2.2.2.2.2.2.1,x7)).bind fun x8 =>
  some (p5.2.2.2.2.2.2.2.2.2.2.2.2.2.2.2.2.2.2.2.1,x8)).bind fun x9 =>
  some (p5.2.2.2.2.2.2.2.2.2.2.2.2.2.2.2.2.2.2.1,x9)).bind fun x10 =>
  some (p5.2.2.2.2.2.2.2.2.2.2.2.2.2.2.2.2.2.1,x10)
 else
  none)
 | .ret o11=>some o11))))
theorem qvo (c:CoD) (s:StD) (K:Iv) (hl:s.2.2.2.2.length=c.2.1.length) (hs:s.2.2.2.2.length≤1000000) :
 jN (c.2.1.length+1) Zt (YI c s K ((0:Nat):Int) []) (qfQ (.ret ji) (fun P=>.exit 0 (YI c s K (c.2.1.length:Int) P)) (qP (q9 c.2.1 s.2.2.2.2 (jH)) c.2.1.length)):=by
 have hmx:s.2.2.2.2.length≤maxLen:=by rw [qF];omega
 refine yi (mk:=fun i P=>YI c s K (i:Int) P) ?_ ?_ ?_
 · intro i P x hi hP ho
   have i1:i<s.2.2.2.2.length:=by omega
   unfold q9 at ho
   rw [List.getElem?_eq_getElem hi,List.getElem?_eq_getElem i1] at ho
   simp only [] at ho
   have hb:Nat.ble (P.length+1) 549755813888=true:=Nat.ble_eq_true_of_le (by omega)
   unfold YI
   simp only [Zt,ltN,decide_eq_true i1,cond_true,ixl i1,ixl hi,Option.bind_some]
   generalize c.2.1[i]=d at *
   generalize s.2.2.2.2[i]=x0 at *
   have hf:jH i d x0=x0:=by rfl
   rw [hf] at ho
   rcases Bool.eq_false_or_eq_true (qJ (qo (x0) d.type) d.type) with hn | hn
   · exact absurd ((qz hn).symm.trans ho) (by simp)
   · have:=soi ((qt hn).symm.trans ho);subst this
     refine (qt hn).trans ?_
     simp only [List.length_map,List.length_cons,List.length_nil,Nat.zero_add,Zj,hb,Bool.and_self,cond_true,yG,w1 i1 hmx]
     all_goals rfl
 · intro i P hi hP ho
   have i1:i<s.2.2.2.2.length:=by omega
   unfold q9 at ho
   rw [List.getElem?_eq_getElem hi,List.getElem?_eq_getElem i1] at ho
   simp only [] at ho
   have hb:Nat.ble (P.length+1) 549755813888=true:=Nat.ble_eq_true_of_le (by omega)
   unfold YI
   simp only [Zt,ltN,decide_eq_true i1,cond_true,ixl i1,ixl hi,Option.bind_some]
   generalize c.2.1[i]=d at *
   generalize s.2.2.2.2[i]=x0 at *
   have hf:jH i d x0=x0:=by rfl
   rw [hf] at ho
   rcases Bool.eq_false_or_eq_true (qJ (qo (x0) d.type) d.type) with hn | hn
   · exact (qz hn).trans rfl
   · exact absurd ((qt hn).symm.trans ho) (by simp)
 · intro P hP
   unfold YI
   simp only [Zt,ltN,hl,decide_eq_false (Nat.lt_irrefl _),cond_false]
def Z9 (p:CoD×(StD×Unit)):Option StD:=bif smS p.2.1 then some (qC p.1 p.2.1 jH) else none
theorem qvp (p:CoD×(StD×Unit)) (y:StD) (hg:(dc cCo (dc cSt (d1 (cF 72)))).good p) (h:Z9 p=some y):∃ n,qo9 n p.1 p.2.1 p.2.2=some y:=by
 obtain ⟨c,s,u⟩:=p
 obtain ⟨hm,h⟩:=qj h
 have:=soi h;subst this
 have hm:smS s=true:=hm
 refine ⟨c.2.1.length+1,?_⟩
 show qo9 (c.2.1.length+1) c s u=some (qC c s jH)
 unfold qo9
 rcases Bool.eq_false_or_eq_true s.1 with hd | hd
 · rw [show qC c s _=ji from qz hd];exact qz hd
 · refine (qt hd).trans ?_
   by_cases hl:s.2.2.2.2.length=c.2.1.length
   · refine (qt (by rw [lnE,decide_eq_true hl];rfl)).trans ?_
     rcases Bool.eq_false_or_eq_true (qH [stK s]).1 with hK | hK
     · rw [show qC c s _=ji from (qt hd).trans ((qt (by rw [decide_eq_true hl];rfl)).trans (qz hK))]
       exact qz hK
     · refine (qt hK).trans ?_
       rw [jP _ hd hl hK]
       have hr:=qvo c s (qH [stK s]) hl (Jv hm) _ (Nat.le_refl _)
       refine obB hr ?_
       cases hb:qP (q9 c.2.1 s.2.2.2.2 (jH)) c.2.1.length with
       | none=>rfl
       | some P=>exact obB (Z5 P) (qqN P (qH [stK s]) false)
   · rw [show qC c s _=ji from (qt hd).trans (qz (by rw [decide_eq_false hl];rfl))]
     exact qz (by rw [lnE,decide_eq_false hl];rfl)
end
end Su
end
section
namespace Su
open Go Fly
set_option linter.unusedVariables false
noncomputable section
def kyV (k:Int):Int:=bif decide (k<0) then -(kV k.natAbs:Int) else (kV k.natAbs:Int)
theorem qCV {f:Int} (h:fI f=true):fv f.toNat=kyV (ky f):=by
 have h':jz (bK f.toNat)=true:=h
 unfold fv fvK kyV
 rw [h',cond_true,qa0]
 have e:ky f=bif bS f.toNat then -(bK f.toNat:Int) else (bK f.toNat:Int):=rfl
 rw [e]
 cases bS f.toNat with
 | true =>
  by_cases h0:bK f.toNat=0
  · rw [h0];rfl
  · rw [decide_eq_true (by simp only [cond_true];omega)]
 | false=>rw [decide_eq_false (by simp only [cond_false];omega)]
theorem qfY {w:Int}:j7 w.toNat = !fI w:=by
 have:=qiV w.toNat
 unfold fI;rw [this,Bool.not_not]
end
end Su
end
section
namespace Su
open Go Fly
set_option linter.unusedVariables false
noncomputable section
theorem qvq {i j:Int} (h:i<j):kyV i<kyV j:=by
 unfold kyV
 by_cases hi:i<0
 · rw [decide_eq_true hi,cond_true]
   have h1:kV 0<kV i.natAbs:=qsS (by omega)
   by_cases hj:j<0
   · rw [decide_eq_true hj,cond_true]
     have:=qsS (show j.natAbs<i.natAbs by omega)
     omega
   · rw [decide_eq_false hj,cond_false]
     omega
 · rw [decide_eq_false hi,decide_eq_false (show ¬ j<0 by omega),cond_false,cond_false]
   have:=qsS (show i.natAbs<j.natAbs by omega)
   omega
theorem qFx {i j:Int}:kyV i≤kyV j↔i≤j:=by
 constructor
 · intro h
   refine Int.le_of_not_gt fun hlt=>?_
   have:=qvq hlt
   omega
 · intro h
   by_cases e:i=j
   · rw [e];exact Int.le_refl _
   · exact Int.le_of_lt (qvq (by omega))
theorem qvr {a b:Int} (ha:fI a=true) (hb:fI b=true):fv a.toNat≤fv b.toNat↔ky a≤ky b:=by
 rw [qCV ha,qCV hb];exact qFx
theorem qFy {f:Int} (h:fI f=true) : -9218868437227405311≤ky f∧ky f≤9218868437227405311:=by
 have h1:=qa0 f
 have h2:=jv.1 (show jz (bK f.toNat)=true from h)
 omega
theorem qFz {x:Int}:fI x=true↔bK x.toNat≤qgb:=jv
end
end Su
end
