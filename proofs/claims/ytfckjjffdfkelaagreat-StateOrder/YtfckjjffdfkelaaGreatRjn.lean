/-
  Bits and rounding, in plain Lean. No condition.
-/
import Derived.Test.YtfckjjffdfkelaaGreatNB32
import Derived.Test.YtfckjjffdfkelaaGreatSuSd
set_option maxRecDepth 10000
section
namespace Su
open Go Fly
set_option linter.unusedVariables false
noncomputable section
theorem qax {e:Int} (h:Fw e):Nz (gdF e)∧0≤ky (gdF e):=by
 unfold gdF
 cases h0:Nat.beq (bK e.toNat) 0 with
 | true =>
  show Nz 0∧0≤ky 0
  exact ⟨⟨⟨by decide,by decide⟩,by decide,by decide⟩,by decide⟩
 | false =>
  cases h1:(qU (bK e.toNat)||bS e.toNat) with
  | true =>
   show Nz 9218868437227405312∧0≤ky 9218868437227405312
   exact ⟨⟨⟨by decide,by decide⟩,by decide,by decide⟩,by decide⟩
  | false =>
   rw [Bool.or_eq_false_iff] at h1
   show Nz e∧0≤ky e
   refine ⟨⟨h,h1.1,fun e0=>?_⟩,?_⟩
   · subst e0;revert h0;decide
   · unfold ky yW;rw [h1.2,cond_false];omega
theorem qCY {e:Int} (h:Nz e) (hk:0≤ky e):gdF e=e:=by
 unfold gdF
 cases h0:Nat.beq (bK e.toNat) 0 with
 | true =>
  rw [cond_true]
  refine (qc8 h.w ⟨by decide,by decide⟩ h.z (by decide) ?_).symm
  have h1:=qjd e
  rw [Nat.eq_of_beq_eq_true h0] at h1
  have:ky 0=0:=by decide
  omega
 | false =>
  have hn:qU (bK e.toNat)=false:=h.n
  have hs:bS e.toNat=false:=by
   cases hs:bS e.toNat with
   | false=>rfl
   | true =>
    unfold ky yW at hk
    rw [hs,cond_true] at hk
    have:bK e.toNat=0:=by omega
    rw [this] at h0;cases h0
  rw [hn,hs];rfl
theorem qHK {e:Int} (h:Fw e):gdF (gdF e)=gdF e:=qCY (qax h).1 (qax h).2
theorem qCZ {a b:Int} (ha:Nz a) (hb:Nz b):mxI a b=if ky a<ky b then b else a:=qhs ha.w hb.w ha.n hb.n
theorem qFA {a:Int} (ha:Fw a):qni 0 a=gdF a:=by
 obtain ⟨h1,h2⟩:=qax ha
 have z:Nz 0:=⟨⟨by decide,by decide⟩,by decide,by decide⟩
 have e0:ky 0=0:=by decide
 unfold qni
 rw [qCZ z h1,e0]
 by_cases h:0<ky (gdF a)
 · rw [if_pos h]
 · rw [if_neg h]
   exact qc8 z.w h1.w z.z h1.z (by omega)
theorem Jl {a b:Int} (ha:Fw a) (hb:Fw b):y6 [a,b]=if ky (gdF a)<ky (gdF b) then gdF b else gdF a:=by
 show qni (qni 0 a) b=_
 rw [qFA ha]
 exact qCZ (qax ha).1 (qax hb).1
theorem qvw {a b:Int} (ha:Fw a) (hb:Fw b):Nz (y6 [a,b])∧0≤ky (y6 [a,b]):=by
 rw [Jl ha hb]
 by_cases h:ky (gdF a)<ky (gdF b)
 · rw [if_pos h];exact qax hb
 · rw [if_neg h];exact qax ha
theorem qvx {a b:Int} (ha:Fw a) (hb:Fw b):y6 [a,b]=y6 [b,a]:=by
 obtain ⟨a1,-⟩:=qax ha
 obtain ⟨b1,-⟩:=qax hb
 rw [Jl ha hb,Jl hb ha]
 by_cases h:ky (gdF a)<ky (gdF b)
 · rw [if_pos h,if_neg (by omega)]
 · rw [if_neg h]
   by_cases h':ky (gdF b)<ky (gdF a)
   · rw [if_pos h']
   · rw [if_neg h'];exact qc8 a1.w b1.w a1.z b1.z (by omega)
theorem qlI {a:Int} (ha:Fw a):y6 [a,a]=gdF a:=by rw [Jl ha ha,if_neg (by omega)]
theorem qFB {a b:Int} (ha:Fw a) (hb:Fw b):y6 [a,y6 [a,b]]=gdF (y6 [a,b]):=by
 obtain ⟨h1,h2⟩:=qvw ha hb
 rw [Jl ha h1.w,qCY h1 h2,Jl ha hb]
 by_cases h:ky (gdF a)<ky (gdF b)
 · rw [if_pos h,if_pos h]
 · rw [if_neg h,if_neg (by omega)]
def yC (F:Fm→Fm→Fm) (x y:Su.Ce):Su.Ce :=
 ⟨x.f||y.f,x.t||y.t,qy [x.i,y.i],(yh (x.d,x.p) (y.d,y.p)).1,(yh (x.d,x.p) (y.d,y.p)).2,QB [x.s,y.s],y6 [x.sl,y.sl],F x.fm y.fm⟩
def inC (t:Int) (x y:Su.Ce):Bool :=
 bif decide (t=1) then ((x.f||y.f) == y.f)&&(((x.t||y.t) == y.t)&&true)
 else bif decide (t=2) then Qs x.i y.i&&qb6 (x.d,x.p) (y.d,y.p)
 else (y.fm.1||(ofS y.fm x.s.2.1&&ofS y.fm x.s.2.2))&&(Yc x.s y.s&&decide (y6 [x.sl,y.sl]=gdF y.sl))
theorem qvy {t:Int} {x y:Su.Ce} (h:t=1):inC t x y=(((x.f||y.f) == y.f)&&(((x.t||y.t) == y.t)&&true)):=by
 unfold inC;rw [decide_eq_true h];rfl
theorem qvz {t:Int} {x y:Su.Ce} (h:t=2):inC t x y=(Qs x.i y.i&&qb6 (x.d,x.p) (y.d,y.p)):=by
 unfold inC;rw [decide_eq_true h,decide_eq_false (by omega)];rfl
theorem qvA {t:Int} {x y:Su.Ce} (h:t=3):inC t x y=((y.fm.1||(ofS y.fm x.s.2.1&&ofS y.fm x.s.2.2))&&(Yc x.s y.s&&decide (y6 [x.sl,y.sl]=gdF y.sl))):=by
 unfold inC;rw [decide_eq_false (by omega),decide_eq_false (by omega)];rfl
structure Cw (t:Int) (x:Su.Ce):Prop where
 bare:qq x t=x
 some:qT x t=false
 sp:SpW x.s
 sl:Fw x.sl
theorem qhx (x:Su.Ce) (t:Int):qq (qq x t) t=qq x t:=by
 by_cases h1:t=1
 · rw [QE h1,QE h1]
 · by_cases h2:t=2
   · rw [QF h2,QF h2]
   · by_cases h3:t=3
     · rw [yB h3,yB h3]
     · unfold qq;rw [decide_eq_false h1,decide_eq_false h2,decide_eq_false h3];rfl
theorem y7 {x:Su.Ce} {t:Int} (h:qT x t=false):t=1∨t=2∨t=3:=by
 by_cases h1:t=1
 · exact .inl h1
 · by_cases h2:t=2
   · exact .inr (.inl h2)
   · by_cases h3:t=3
     · exact .inr (.inr h3)
     · unfold qT at h;rw [decide_eq_false h1,decide_eq_false h2,decide_eq_false h3] at h;cases h
theorem qhy (a:Iv):qd4 a a=ivN a:=by
 unfold qd4 yF
 cases h:(ivN a).1 with
 | true=>rw [qc7 (qaZ a) h];rfl
 | false =>
  simp only [Bool.or_self,cond_false,Int.max_self,Int.min_self]
  have e:(false,((ivN a).2.1,(ivN a).2.2))=ivN a:=by
   rw [← h]
  rw [e,Ji]
theorem qhz (c:Ckp):qap c c=ckN c:=by
 unfold qap
 rw [qhy,qhy,qhp,qhq]
 exact qb9 c
theorem qlJ:SpW iv0:=⟨⟨by decide,by decide⟩,⟨by decide,by decide⟩⟩
theorem qhA {F:Fm→Fm→Fm} {t:Int} {x y:Su.Ce} (hx:Cw t x) (hy:Cw t y):qT (qq (yC F x y) t) t=false:=by
 have h:=hx.some
 rcases y7 h with ht | ht | ht
 · rw [qAk ht] at h ⊢
   rw [QE ht]
   show (((x.f||y.f) == false)&&(((x.t||y.t) == false)&&true))=false
   revert h
   cases x.f <;> cases x.t <;> cases y.f <;> cases y.t <;> simp
 · rw [qAl ht] at h ⊢
   rw [QF ht]
   show (bif (qy [qy [x.i,y.i]]).1 then true else (qap (yh (x.d,x.p) (y.d,y.p)) (yh (x.d,x.p) (y.d,y.p))).1.1)=false
   rw [qd5,qhz] at h
   rw [qd5,Zu (qa0 _ _),QR,qhz]
   cases hi:(ivN x.i).1 with
   | true=>rw [hi] at h;cases h
   | false =>
    rw [hi] at h
    have h:(ckN (x.d,x.p)).1.1=false:=h
    rw [Bool.false_and,cond_false]
    have:ckN (yh (x.d,x.p) (y.d,y.p))=yh (x.d,x.p) (y.d,y.p):=by unfold yh;rw [qb9]
    rw [this,qCI,h,Bool.false_and]
 · rw [qAm ht] at h ⊢
   rw [yB ht]
   show (QB [QB [x.s,y.s]]).1=false
   rw [qFi hx.sp] at h
   rw [qFi (qje hx.sp hy.sp).w,Qm (qje hx.sp hy.sp),qq7 hx.sp hy.sp,h,Bool.false_and]
theorem qAo {F:Fm→Fm→Fm} {t:Int} {x y:Su.Ce} (hx:Cw t x) (hy:Cw t y):Cw t (qq (yC F x y) t):=by
 refine ⟨qhx _ _,qhA hx hy,?_,?_⟩
 · rcases y7 hx.some with ht | ht | ht
   · rw [QE ht];exact qlJ
   · rw [QF ht];exact qlJ
   · rw [yB ht];exact (qje hx.sp hy.sp).w
 · rcases y7 hx.some with ht | ht | ht
   · rw [QE ht];exact qnm
   · rw [QF ht];exact qnm
   · rw [yB ht];exact (qvw hx.sl hy.sl).1.w
theorem qrf {F:Fm→Fm→Fm} {t:Int} {x y:Su.Ce} (hx:Cw t x) (hy:Cw t y) (hF:t=3→F x.fm y.fm=F y.fm x.fm):qq (yC F x y) t=qq (yC F y x) t:=by
 rcases y7 hx.some with ht | ht | ht
 · rw [QE ht,QE ht]
   unfold yC
   simp only [Bool.or_comm]
 · rw [QF ht,QF ht]
   unfold yC
   simp only []
   rw [qb7,quI]
 · rw [yB ht,yB ht]
   unfold yC
   simp only []
   rw [qu4 hx.sp hy.sp,qvx hx.sl hy.sl,hF ht]
theorem qAp {t:Int} {x:Su.Ce} (hx:Cw t x) (hF:t=3→x.fm.1=true):inC t x x=true:=by
 rcases y7 hx.some with ht | ht | ht
 · rw [qvy ht];cases x.f <;> cases x.t <;> rfl
 · rw [qvz ht,QS,qhr];rfl
 · rw [qvA ht,hF ht,qhu hx.sp,qlI hx.sl,decide_eq_true rfl];rfl
theorem qAq {F:Fm→Fm→Fm} {t:Int} {x y:Su.Ce} (hx:Cw t x) (hy:Cw t y) (hF:t=3→(F x.fm y.fm).1=true):inC t x (qq (yC F x y) t)=true:=by
 rcases y7 hx.some with ht | ht | ht
 · rw [qvy ht,QE ht]
   show (((x.f||(x.f||y.f)) == (x.f||y.f))&&(((x.t||(x.t||y.t)) == (x.t||y.t))&&true))=true
   cases x.f <;> cases x.t <;> cases y.f <;> cases y.t <;> rfl
 · rw [qvz ht,QF ht]
   show (Qs x.i (qy [x.i,y.i])&&qb6 (x.d,x.p) (yh (x.d,x.p) (y.d,y.p)))=true
   rw [qjb,qE6];rfl
 · rw [qvA ht,yB ht]
   show (((F x.fm y.fm).1||_)&&(Yc x.s (QB [x.s,y.s])&&decide (y6 [x.sl,y6 [x.sl,y.sl]]=gdF (y6 [x.sl,y.sl]))))=true
   rw [hF ht,qFj hx.sp hy.sp,qFB hx.sl hy.sl,decide_eq_true rfl];rfl
theorem qAr {F:Fm→Fm→Fm} {t:Int} {x:Su.Ce} (hx:Cw t x) (hF:t=3→x.fm.1=true):inC t (qq (yC F x x) t) x=true:=by
 rcases y7 hx.some with ht | ht | ht
 · rw [qvy ht,QE ht]
   show ((((x.f||x.f)||x.f) == x.f)&&((((x.t||x.t)||x.t) == x.t)&&true))=true
   cases x.f <;> cases x.t <;> rfl
 · rw [qvz ht,QF ht]
   show (Qs (qy [x.i,x.i]) x.i&&qb6 (yh (x.d,x.p) (x.d,x.p)) (x.d,x.p))=true
   rw [qb8,quH,QS,Bool.true_and]
   unfold qb6
   rw [quJ]
   exact qhr _
 · rw [qvA ht,yB ht]
   show ((x.fm.1||_)&&(Yc (QB [x.s,x.s]) x.s&&decide (y6 [y6 [x.sl,x.sl],x.sl]=gdF x.sl)))=true
   have e:Yc (qm x.s) x.s=true:=by
    have:=qhu hx.sp
    unfold Yc at this ⊢
    rw [Qm (qY hx.sp)];exact this
   obtain ⟨g1,g2⟩:=qax hx.sl
   rw [hF ht,qu5 hx.sp,e,qlI hx.sl,Jl g1.w hx.sl,qHK hx.sl,if_neg (by omega),decide_eq_true rfl];rfl
structure Ev (c:CoD) (s:StD):Prop where
 live:s.1=false
 len:s.2.2.2.2.length=c.2.1.length
 kN:ivN (stK s)=stK s
 kS:(stK s).1=false
 cell:∀ (i:Nat) (hi:i<c.2.1.length),Cw c.2.1[i].type (s.2.2.2.2[i]'(by omega))
def qI (_:Nat) (_:Su.Cc) (x:Su.Ce):Su.Ce:=x
theorem qjm {s:StD} (h:s.1=false):mkS (stK s) s.2.2.2.2=s:=by
 obtain ⟨a,b,d,e,l⟩:=s
 have h:a=false:=h
 subst h;rfl
theorem qlK {c:CoD} {s:StD} {f:Nat→Su.Cc→Su.Ce→Su.Ce} (h1:s.1=false) (h2:s.2.2.2.2.length=c.2.1.length) (h3:(ivN (stK s)).1=false)
 (hc:∀ (i:Nat) (hi:i<c.2.1.length),qT (qq (f i c.2.1[i] (s.2.2.2.2[i]'(by omega))) c.2.1[i].type) c.2.1[i].type=false) :
 ∃ P,qp c s f=mkS (ivN (stK s)) P∧P.length=c.2.1.length∧∀ (i:Nat) (hi:i<c.2.1.length),P[i]?=some (qq (f i c.2.1[i] (s.2.2.2.2[i]'(by omega))) c.2.1[i].type):=by
 have hout:∀ (i:Nat) (hi:i<c.2.1.length),qZ c.2.1 s.2.2.2.2 f i=some (qq (f i c.2.1[i] (s.2.2.2.2[i]'(by omega))) c.2.1[i].type):=by
  intro i hi
  unfold qZ
  rw [List.getElem?_eq_getElem hi,List.getElem?_eq_getElem (show i<s.2.2.2.2.length by omega)]
  exact qA (hc i hi)
 obtain ⟨P,hP⟩:=qfU (out:=qZ c.2.1 s.2.2.2.2 f) (n:=c.2.1.length) fun i hi=>by rw [hout i hi];simp
 refine ⟨P,?_,jJ hP,fun i hi=>by rw [← qa4 hP i hi,hout i hi]⟩
 rw [jP f h1 h2 (by rw [qd5];exact h3),hP,qd5];rfl
theorem QG {c:CoD} {s:StD} (h:Ev c s):qp c s qI=s:=by
 obtain ⟨P,e,hl,hg⟩:=qlK (f:=qI) h.live h.len (by rw [h.kN];exact h.kS) fun i hi=>by
  have:=h.cell i hi
  show qT (qq (s.2.2.2.2[i]'_) _) _=false
  rw [this.bare];exact this.some
 rw [e,h.kN]
 have:P=s.2.2.2.2:=by
  refine List.ext_getElem? fun i=>?_
  by_cases hi:i<c.2.1.length
  · rw [hg i hi,List.getElem?_eq_getElem (by rw [h.len];exact hi)]
    exact congrArg some (h.cell i hi).bare
  · rw [List.getElem?_eq_none (by omega),List.getElem?_eq_none (by rw [h.len];omega)]
 rw [this];exact qjm h.live
theorem qhB {c:CoD} {s:StD} {f:Nat→Su.Cc→Su.Ce→Su.Ce} (h:(qp c s f).1=true):qp c s f=qH:=by
 revert h
 unfold qp
 cases s.1 with
 | true=>intro _;rfl
 | false =>
  cases (!decide (s.2.2.2.2.length=c.2.1.length)) with
  | true=>intro _;rfl
  | false =>
   cases (qy [stK s]).1 with
   | true=>intro _;rfl
   | false =>
    simp only [cond_false]
    cases qP (qZ c.2.1 s.2.2.2.2 f) c.2.1.length with
    | none=>intro _;rfl
    | some P=>intro h;cases h
theorem qde (c:CoD) (f:Nat→Su.Cc→Su.Ce→Su.Ce):qp c qH f=qH:=rfl
theorem qaa {c:CoD} {s:StD} {f:Nat→Su.Cc→Su.Ce→Su.Ce} (h:(qp c s f).1=false) :
 ∃ (h2:s.2.2.2.2.length=c.2.1.length) (P:List Su.Ce),s.1=false∧(ivN (stK s)).1=false∧qp c s f=mkS (ivN (stK s)) P∧P.length=c.2.1.length ∧
  ∀ (i:Nat) (hi:i<c.2.1.length),P[i]?=some (qq (f i c.2.1[i] (s.2.2.2.2[i]'(by omega))) c.2.1[i].type)∧qT (qq (f i c.2.1[i] (s.2.2.2.2[i]'(by omega))) c.2.1[i].type) c.2.1[i].type=false:=by
 have h1:s.1=false:=by
  cases h1:s.1 with
  | false=>rfl
  | true=>rw [show qp c s f=qH from qB h1] at h;cases h
 have h2:s.2.2.2.2.length=c.2.1.length:=by
  by_cases h2:s.2.2.2.2.length=c.2.1.length
  · exact h2
  · rw [show qp c s f=qH from (qA h1).trans (qB (by rw [decide_eq_false h2];rfl))] at h;cases h
 have h3:(ivN (stK s)).1=false:=by
  cases h3:(ivN (stK s)).1 with
  | false=>rfl
  | true=>rw [show qp c s f=qH from (qA h1).trans ((qA (by rw [decide_eq_true h2];rfl)).trans (qB (by rw [qd5];exact h3)))] at h;cases h
 rw [jP f h1 h2 (by rw [qd5];exact h3),qd5] at h
 cases hb:qP (qZ c.2.1 s.2.2.2.2 f) c.2.1.length with
 | none=>rw [hb] at h;cases h
 | some P =>
  refine ⟨h2,P,h1,h3,by rw [jP f h1 h2 (by rw [qd5];exact h3),qd5,hb];rfl,jJ hb,fun i hi=>?_⟩
  have hg:=qa4 hb i hi
  unfold qZ at hg
  rw [List.getElem?_eq_getElem hi,List.getElem?_eq_getElem (show i<s.2.2.2.2.length by omega)] at hg
  simp only [] at hg
  cases hn:qT (qq (f i c.2.1[i] (s.2.2.2.2[i]'(by omega))) c.2.1[i].type) c.2.1[i].type with
  | true =>
   rw [hn,cond_true] at hg
   rw [List.getElem?_eq_getElem (show i<P.length by rw [jJ hb];exact hi)] at hg
   cases hg
  | false =>
   rw [hn,cond_false] at hg
   exact ⟨hg.symm,rfl⟩
theorem qjn {c:CoD} {s:StD} {f:Nat→Su.Cc→Su.Ce→Su.Ce} (h:(qp c s f).1=false)
 (hw:∀ (i:Nat) (hi:i<c.2.1.length) (hs:i<s.2.2.2.2.length),SpW (qq (f i c.2.1[i] s.2.2.2.2[i]) c.2.1[i].type).s∧Fw (qq (f i c.2.1[i] s.2.2.2.2[i]) c.2.1[i].type).sl):Ev c (qp c s f):=by
 obtain ⟨h2,P,h1,h3,e,hl,hg⟩:=qaa h
 rw [e]
 refine ⟨rfl,hl,?_,h3,fun i hi=>?_⟩
 · show ivN (ivN (stK s))=ivN (stK s);exact Ji _
 · have hiP:i<P.length:=by omega
   have:=(hg i hi).1
   rw [List.getElem?_eq_getElem hiP] at this
   show Cw c.2.1[i].type P[i]
   rw [soi this]
   exact ⟨qhx _ _,(hg i hi).2,(hw i hi (by omega)).1,(hw i hi (by omega)).2⟩
structure Pl (c:CoD) (s:StD):Prop where
 ev:Ev c s
 bad:∀ (i:Nat) (hi:i<c.2.1.length),c.2.1[i].type=3→(s.2.2.2.2[i]'(by have:=ev.len;omega)).fm=qaw
def Sw (s:StD):Prop:=∀ x∈s.2.2.2.2,SpW x.s∧Fw x.sl∧FmW x.fm
theorem qvB {x:Su.Ce} (h1:SpW x.s) (h2:Fw x.sl) (t:Int):SpW (qq x t).s∧Fw (qq x t).sl:=by
 unfold qq
 cases decide (t=1) with
 | true=>exact ⟨qlJ,qnm⟩
 | false =>
  cases decide (t=2) with
  | true=>exact ⟨qlJ,qnm⟩
  | false =>
   cases decide (t=3) with
   | true=>exact ⟨h1,h2⟩
   | false=>exact ⟨qlJ,qnm⟩
theorem qHL {s:StD} {x:Su.Ce} (h:SpW x.s∧Fw x.sl∧FmW x.fm) (i:Nat) (d:Su.Cc):SpW (Zy s i d x).s∧Fw (Zy s i d x).sl:=by
 unfold Zy
 cases decide (d.type=2) with
 | true=>exact ⟨qCX h.1 (qpq h.2.2),h.2.1⟩
 | false=>exact ⟨qCX h.1 (qpq h.2.2),h.2.1⟩
theorem qFC {c:CoD} {s:StD} (hw:Sw s) (h:(qcg c s).1=false):Ev c (qcg c s) :=
 qjn h fun i hi hs=>by
  obtain ⟨a,b⟩:=qHL (s:=s) (hw _ (List.getElem_mem hs)) i c.2.1[i]
  exact qvB a b _
theorem qvC {c:CoD} {s:StD} (hw:Sw s) (h:(jW c s).1=false):Pl c (jW c s):=by
 have h':(qp c (qcg c s) YJ).1=false:=h
 obtain ⟨h2,P,h1,h3,e,hl,hg⟩:=qaa h'
 have er:=qFC hw h1
 have ev:Ev c (qp c (qcg c s) YJ):=by
  clear hg e h3
  generalize qcg c s=r at *
  exact qjn h' fun i hi hs=>qvB (x:=YJ i c.2.1[i] r.2.2.2.2[i]) (er.cell i hi).sp (er.cell i hi).sl _
 refine ⟨ev,fun i hi ht=>?_⟩
 have hiP:i<P.length:=by omega
 have:=(hg i hi).1
 rw [List.getElem?_eq_getElem hiP] at this
 have e2:(jW c s).2.2.2.2=P:=by
  show (qp c (qcg c s) YJ).2.2.2.2=P
  rw [e];rfl
 have e3:((jW c s).2.2.2.2[i]'(by rw [e2];exact hiP))=P[i]:=by simp only [e2]
 rw [e3,soi this,yB ht];rfl
theorem qnn {c:CoD} {s:StD} (h:(jW c s).1=true):jW c s=qH:=qhB h
def jnF (F:Fm→Fm→Fm) (Y:List Su.Ce) (i:Nat) (_:Su.Cc) (x:Su.Ce):Su.Ce:=match Y[i]? with | some y=>yC F x y | none=>x
def jt (F:Fm→Fm→Fm) (c:CoD) (a b:StD):StD :=
 bif (qp c a qI).1 then qp c b qI else bif (qp c b qI).1 then qp c a qI
 else qp c (mkS (qy [stK (qp c a qI),stK (qp c b qI)]) (qp c a qI).2.2.2.2) (jnF F (qp c b qI).2.2.2.2)
def inN (C:List Su.Cc) (X Y:List Su.Ce) (i:Nat):Bool :=
 match C[i]?,X[i]?,Y[i]? with
 | some d,some x,some y=>inC d.type x y
 | _,_,_=>true
def qa7 (c:CoD) (a b:StD):Bool :=
 bif (qp c a qI).1||(qp c b qI).1 then (qp c a qI).1
 else Jo c.2.1.length (inN c.2.1 (qp c a qI).2.2.2.2 (qp c b qI).2.2.2.2)&&Qs (stK (qp c a qI)) (stK (qp c b qI))
theorem qdf (F:Fm→Fm→Fm) (c:CoD) (b:StD):jt F c qH b=qp c b qI:=rfl
theorem qf2 {F:Fm→Fm→Fm} {c:CoD} {a:StD} (h:Ev c a):jt F c a qH=a:=by
 unfold jt
 rw [QG h,h.live,qde];rfl
theorem qjo {c:CoD} {a b:StD} (ha:Ev c a) (hb:Ev c b):qa7 c a b=true↔(∀ (i:Nat) (hi:i<c.2.1.length),inC c.2.1[i].type (a.2.2.2.2[i]'(by have:=ha.len;omega)) (b.2.2.2.2[i]'(by have:=hb.len;omega))=true)∧Qs (stK a) (stK b)=true:=by
 unfold qa7
 rw [QG ha,QG hb,ha.live,hb.live,Bool.or_self,cond_false,Bool.and_eq_true,Yb]
 refine and_congr_left fun _=>forall_congr' fun i=>?_
 unfold inN
 constructor
 · intro h hi
   have:=h hi
   rw [List.getElem?_eq_getElem hi,List.getElem?_eq_getElem (by have:=ha.len;omega),List.getElem?_eq_getElem (by have:=hb.len;omega)] at this
   exact this
 · intro h hi
   rw [List.getElem?_eq_getElem hi,List.getElem?_eq_getElem (by have:=ha.len;omega),List.getElem?_eq_getElem (by have:=hb.len;omega)]
   exact h hi
theorem Yj {F:Fm→Fm→Fm} {c:CoD} {a b:StD} (ha:Ev c a) (hb:Ev c b):Ev c (jt F c a b)∧stK (jt F c a b)=qy [stK a,stK b] ∧
 ∀ (i:Nat) (hi:i<c.2.1.length),(jt F c a b).2.2.2.2[i]?=some (qq (yC F (a.2.2.2.2[i]'(by have:=ha.len;omega)) (b.2.2.2.2[i]'(by have:=hb.len;omega))) c.2.1[i].type):=by
 have hla:=ha.len
 have hlb:=hb.len
 have e:jt F c a b=qp c (mkS (qy [stK a,stK b]) a.2.2.2.2) (jnF F b.2.2.2.2):=by
  unfold jt
  rw [QG ha,QG hb,ha.live,hb.live];rfl
 have hK:ivN (qy [stK a,stK b])=qy [stK a,stK b]:=Zu (qa0 _ _)
 have hK1:(qy [stK a,stK b]).1=false:=by rw [QR,ha.kN,ha.kS];rfl
 have hj:∀ (i:Nat) (hi:i<c.2.1.length),jnF F b.2.2.2.2 i c.2.1[i] (a.2.2.2.2[i]'(by omega))=yC F (a.2.2.2.2[i]'(by omega)) (b.2.2.2.2[i]'(by omega)):=by
  intro i hi
  unfold jnF
  rw [List.getElem?_eq_getElem (show i<b.2.2.2.2.length by omega)]
 obtain ⟨P,e2,hl,hg⟩:=qlK (c:=c) (s:=mkS (qy [stK a,stK b]) a.2.2.2.2) (f:=jnF F b.2.2.2.2) rfl hla (by show (ivN (qy [stK a,stK b])).1=false;rw [hK];exact hK1) (fun i hi=>by
  have:=qhA (F:=F) (ha.cell i hi) (hb.cell i hi)
  rw [← hj i hi] at this;exact this)
 have hlive:(jt F c a b).1=false:=by rw [e,e2];rfl
 have hget:∀ (i:Nat) (hi:i<c.2.1.length),(jt F c a b).2.2.2.2[i]?=some (qq (yC F (a.2.2.2.2[i]'(by omega)) (b.2.2.2.2[i]'(by omega))) c.2.1[i].type):=by
  intro i hi
  rw [e,e2]
  show P[i]?=_
  rw [hg i hi,← hj i hi];rfl
 refine ⟨?_,?_,hget⟩
 · rw [e] at hlive ⊢
   refine qjn hlive fun i hi hs=>?_
   have:=qAo (F:=F) (ha.cell i hi) (hb.cell i hi)
   rw [← hj i hi] at this
   exact ⟨this.sp,this.sl⟩
 · rw [e,e2]
   show ivN (qy [stK a,stK b])=_
   exact hK
theorem qHM {F:Fm→Fm→Fm} (hF:F qaw qaw=qaw) {c:CoD} {p q:StD} (hp:p=qH∨Pl c p) (hq:q=qH∨Pl c q) :
 qa7 c (jt F c p q) (jt F c q p)=true∧qa7 c (jt F c q p) (jt F c p q)=true∧qa7 c (jt F c p p) p=true∧qa7 c p (jt F c p p)=true∧qa7 c p (jt F c p q)=true∧qa7 c q (jt F c p q)=true:=by
 have self:∀ {s:StD},Pl c s→qa7 c s s=true:=fun {s} h =>
  (qjo h.ev h.ev).2 ⟨fun i hi=>qAp (h.ev.cell i hi) (fun ht=>by rw [h.bad i hi ht];rfl),QS _⟩
 have pair:∀ {s t:StD},Pl c s→Pl c t→qa7 c s (jt F c s t)=true:=fun {s t} hs ht=>by
  obtain ⟨hj,hk,hg⟩:=Yj (F:=F) hs.ev ht.ev
  refine (qjo hs.ev hj).2 ⟨fun i hi=>?_,by rw [hk];exact qjb _ _⟩
  have:=hg i hi
  rw [List.getElem?_eq_getElem (by have:=hj.len;omega)] at this
  rw [soi this]
  exact qAq (hs.ev.cell i hi) (ht.ev.cell i hi) fun h3=>by rw [hs.bad i hi h3,ht.bad i hi h3,hF];rfl
 have comm:∀ {s t:StD},Pl c s→Pl c t→jt F c s t=jt F c t s:=fun {s t} hs ht=>by
  obtain ⟨hj,hk,hg⟩:=Yj (F:=F) hs.ev ht.ev
  obtain ⟨hj',hk',hg'⟩:=Yj (F:=F) ht.ev hs.ev
  rw [← qjm hj.live,← qjm hj'.live,hk,hk',qb7]
  congr 1
  refine List.ext_getElem? fun i=>?_
  by_cases hi:i<c.2.1.length
  · rw [hg i hi,hg' i hi]
    exact congrArg some (qrf (hs.ev.cell i hi) (ht.ev.cell i hi) fun h3=>by rw [hs.bad i hi h3,ht.bad i hi h3])
  · rw [List.getElem?_eq_none (by have:=hj.len;omega),List.getElem?_eq_none (by have:=hj'.len;omega)]
 have pl:∀ {s t:StD},Pl c s→Pl c t→Pl c (jt F c s t):=fun {s t} hs ht=>by
  obtain ⟨hj,hk,hg⟩:=Yj (F:=F) hs.ev ht.ev
  refine ⟨hj,fun i hi h3=>?_⟩
  have:=hg i hi
  rw [List.getElem?_eq_getElem (by have:=hj.len;omega)] at this
  rw [soi this,yB h3]
  show F _ _=qaw
  rw [hs.bad i hi h3,ht.bad i hi h3,hF]
 have back:∀ {s:StD},Pl c s→qa7 c (jt F c s s) s=true:=fun {s} hs=>by
  obtain ⟨hj,hk,hg⟩:=Yj (F:=F) hs.ev hs.ev
  refine (qjo hj hs.ev).2 ⟨fun i hi=>?_,by rw [hk,qb8,quH];exact QS _⟩
  have:=hg i hi
  rw [List.getElem?_eq_getElem (by have:=hj.len;omega)] at this
  rw [soi this]
  exact qAr (hs.ev.cell i hi) fun h3=>by rw [hs.bad i hi h3];rfl
 rcases hp with rfl | hp
 · rcases hq with rfl | hq
   · exact ⟨rfl,rfl,rfl,rfl,rfl,rfl⟩
   · rw [qdf,qf2 hq.ev,qdf,QG hq.ev,qde]
     exact ⟨self hq,self hq,rfl,rfl,rfl,self hq⟩
 · rcases hq with rfl | hq
   · rw [qdf,qf2 hp.ev,QG hp.ev]
     exact ⟨self hp,self hp,back hp,pair hp hp,self hp,rfl⟩
   · have:=comm hp hq
     refine ⟨?_,?_,back hp,pair hp hp,pair hp hq,?_⟩
     · rw [this];exact self (pl hq hp)
     · rw [this];exact self (pl hq hp)
     · rw [this];exact pair hq hp
end
end Su
end
section
namespace Su
open Go Fly
set_option linter.unusedVariables false
noncomputable section
def qFD  (x:Su.Ce) (t:Int) (y:Su.Ce):Option Bool :=
 (bif (decide ((t=1))) then
 some ((((Su.Ce.f x)||(Su.Ce.f y)) == (Su.Ce.f y))&&((((Su.Ce.t x)||(Su.Ce.t y)) == (Su.Ce.t y))&&true))
 else
  (bif (decide ((t=2))) then
  (bif (Su.Qs x.3 y.3) then
  some (Su.qb6 (x.4,x.5) (y.4,y.5))
 else
  some false)
 else
  (bif y.8.1 then
  (bif (Su.Yc x.6 y.6) then
  some (decide (((Su.y6 [(Su.Ce.sl x),(Su.Ce.sl y)])=(Su.gdF (Su.Ce.sl y)))))
 else
  some false)
 else
  ((Su.qcj (y.8,x.6.2.1))).bind fun x0 =>
  (bif x0 then
  ((Su.qcj (y.8,x.6.2.2))).bind fun x1 =>
  (bif x1 then
  (bif (Su.Yc x.6 y.6) then
  some (decide (((Su.y6 [(Su.Ce.sl x),(Su.Ce.sl y)])=(Su.gdF (Su.Ce.sl y)))))
 else
  some false)
 else
  some false)
 else
  some false))))
def qf3 (p:Su.Ce×(Int×Su.Ce)):Option Bool:=bif Nat.ble p.2.2.fm.2.2.1.length 1000000 then some (inC p.2.1 p.1 p.2.2) else none
theorem qAs (p:Su.Ce×(Int×Su.Ce)) (y:Bool) (hg:(dc cCe (dc (cI .u8) (d1 cCe))).good p) (h:qf3 p=some y):qFD p.1 p.2.1 p.2.2=some y:=by
 obtain ⟨x,t,z⟩:=p
 obtain ⟨hm,h⟩:=qj h
 have:=soi h;subst this
 have hof:∀ f:Int,qcj (z.fm,f)=some (ofS z.fm f):=fun f=>by unfold qcj;rw [show Nat.ble (z.fm,f).1.2.2.1.length 1000000=true from hm,cond_true]
 unfold qFD inC
 simp only [hof,Option.bind_some]
 cases decide (t=1) with
 | true=>rfl
 | false =>
  cases decide (t=2) with
  | true =>
   show (bif Qs x.i z.i then some (qb6 (x.d,x.p) (z.d,z.p)) else some false)=some (Qs x.i z.i&&qb6 (x.d,x.p) (z.d,z.p))
   cases Qs x.i z.i <;> rfl
  | false =>
   show (bif z.fm.1 then (bif Yc x.s z.s then some (decide (y6 [x.sl,z.sl]=gdF z.sl)) else some false) else
    (bif ofS z.fm x.s.2.1 then (bif ofS z.fm x.s.2.2 then (bif Yc x.s z.s then some (decide (y6 [x.sl,z.sl]=gdF z.sl)) else some false) else some false) else some false)) =
    some ((z.fm.1||(ofS z.fm x.s.2.1&&ofS z.fm x.s.2.2))&&(Yc x.s z.s&&decide (y6 [x.sl,z.sl]=gdF z.sl)))
   cases z.fm.1 <;> cases ofS z.fm x.s.2.1 <;> cases ofS z.fm x.s.2.2 <;> cases Yc x.s z.s <;> rfl
end
end Su
end
section
namespace Su
open Go Fly
set_option linter.unusedVariables false
noncomputable section
abbrev qa8:=(Int×((List Su.Cc)×((List Su.T)×((List Su.T)×((List Su.T)×((List Su.T)×(Int×((List Su.Ce)×(Int×(Int×((List Su.T)×(Bool×(Bool×(Int×(Int×(Nat×((List Su.T)×(Bool×(Bool×(Int×(Int×(Nat×Unit))))))))))))))))))))))
def ZA:qa8→Option (qa8 ⊕ (Lp qa8 (Bool×(Bool×(Int×(Int×(List Su.Ce))))))):=fun p0=>(bif (decide ((p0.2.2.2.2.2.2.2.2.2.1<p0.2.2.2.2.2.2.2.2.1))) then
 ((Su.idx p0.2.2.2.2.2.2.2.1 p0.2.2.2.2.2.2.2.2.2.1)).bind fun x1 =>
 ((Su.idx p0.2.1 p0.2.2.2.2.2.2.2.2.2.1)).bind fun x2 =>
 (bif (Su.qT (Su.qq x1 (Su.Cc.type x2)) (Su.Cc.type x2)) then
 some (.inr (.ret (true,(false,((0:Int),((0:Int),[]))))))
 else
  (bif ((true&&(Nat.beq p0.2.2.2.2.2.2.2.2.2.2.2.2.2.2.2.2.2.2.2.2.2.1 (List.length p0.2.2.2.2.2.2.2.2.2.2.2.2.2.2.2.2.1)))&&(Nat.ble ((List.length p0.2.2.2.2.2.2.2.2.2.2.2.2.2.2.2.2.1)+(List.length [(Su.view 14 (Su.qq x1 (Su.Cc.type x2)))])) 549755813888)) then
  some (.inl (p0.1,(p0.2.1,(p0.2.2.1,(p0.2.2.2.1,(p0.2.2.2.2.1,(p0.2.2.2.2.2.1,(p0.2.2.2.2.2.2.1,(p0.2.2.2.2.2.2.2.1,(p0.2.2.2.2.2.2.2.2.1,((Go.IntKind.wrap .i64 (p0.2.2.2.2.2.2.2.2.2.1+1)),(p0.2.2.2.2.2.2.2.2.2.2.1,(p0.2.2.2.2.2.2.2.2.2.2.2.1,(p0.2.2.2.2.2.2.2.2.2.2.2.2.1,(p0.2.2.2.2.2.2.2.2.2.2.2.2.2.1,(p0.2.2.2.2.2.2.2.2.2.2.2.2.2.2.1,(p0.2.2.2.2.2.2.2.2.2.2.2.2.2.2.2.1,((p0.2.2.2.2.2.2.2.2.2.2.2.2.2.2.2.2.1++[(Su.view 14 (Su.qq x1 (Su.Cc.type x2)))]),(p0.2.2.2.2.2.2.2.2.2.2.2.2.2.2.2.2.2.1,(p0.2.2.2.2.2.2.2.2.2.2.2.2.2.2.2.2.2.2.1,(p0.2.2.2.2.2.2.2.2.2.2.2.2.2.2.2.2.2.2.2.1,(p0.2.2.2.2.2.2.2.2.2.2.2.2.2.2.2.2.2.2.2.2.1,((List.length (p0.2.2.2.2.2.2.2.2.2.2.2.2.2.2.2.2.1++[(Su.view 14 (Su.qq x1 (Su.Cc.type x2)))])),())))))))))))))))))))))))
 else
  none))
 else
  some (.inr (.exit 0 (p0.1,(p0.2.1,(p0.2.2.1,(p0.2.2.2.1,(p0.2.2.2.2.1,(p0.2.2.2.2.2.1,(p0.2.2.2.2.2.2.1,(p0.2.2.2.2.2.2.2.1,(p0.2.2.2.2.2.2.2.2.1,(p0.2.2.2.2.2.2.2.2.2.1,(p0.2.2.2.2.2.2.2.2.2.2.1,(p0.2.2.2.2.2.2.2.2.2.2.2.1,(p0.2.2.2.2.2.2.2.2.2.2.2.2.1,(p0.2.2.2.2.2.2.2.2.2.2.2.2.2.1,(p0.2.2.2.2.2.2.2.2.2.2.2.2.2.2.1,(p0.2.2.2.2.2.2.2.2.2.2.2.2.2.2.2.1,(p0.2.2.2.2.2.2.2.2.2.2.2.2.2.2.2.2.1,(p0.2.2.2.2.2.2.2.2.2.2.2.2.2.2.2.2.2.1,(p0.2.2.2.2.2.2.2.2.2.2.2.2.2.2.2.2.2.2.1,(p0.2.2.2.2.2.2.2.2.2.2.2.2.2.2.2.2.2.2.2.1,(p0.2.2.2.2.2.2.2.2.2.2.2.2.2.2.2.2.2.2.2.2.1,(p0.2.2.2.2.2.2.2.2.2.2.2.2.2.2.2.2.2.2.2.2.2.1,())))))))))))))))))))))))))
def qpr  (fu:Nat) (c:(Int×((List Su.Cc)×((List Su.T)×((List Su.T)×((List Su.T)×((List Su.T)×Int))))))) (s:(Bool×(Bool×(Int×(Int×(List Su.Ce)))))) (u:Unit):Option (Bool×(Bool×(Int×(Int×(List Su.Ce))))) :=
 (bif s.1 then
 some (true,(false,((0:Int),((0:Int),[]))))
 else
  (bif (!(decide (((((List.length s.2.2.2.2):Nat):Int)=(((List.length c.2.1):Nat):Int))))) then
  some (true,(false,((0:Int),((0:Int),[]))))
 else
  (bif (Su.qy [(s.2.1,(s.2.2.1,s.2.2.2.1))]).1 then
  some (true,(false,((0:Int),((0:Int),[]))))
 else
  (itP fu (ZA) (c.1,(c.2.1,(c.2.2.1,(c.2.2.2.1,(c.2.2.2.2.1,(c.2.2.2.2.2.1,(c.2.2.2.2.2.2,(s.2.2.2.2,((((List.length s.2.2.2.2):Nat):Int),((0:Int),([],(false,(false,((0:Int),((0:Int),(0,([],(false,((Su.qy [(s.2.1,(s.2.2.1,s.2.2.2.1))]).1,((Su.qy [(s.2.1,(s.2.2.1,s.2.2.2.1))]).2.1,((Su.qy [(s.2.1,(s.2.2.1,s.2.2.2.1))]).2.2,(0,()))))))))))))))))))))))).bind fun x3 =>
  (match x3 with
 | .exit i4 p5=>(bif (Nat.beq i4 0) then
  ((Su.sub p5.2.2.2.2.2.2.2.2.2.2.2.2.2.2.2.2.1 0 p5.2.2.2.2.2.2.2.2.2.2.2.2.2.2.2.2.2.2.2.2.2.1)).bind fun x6 =>
  (((((Su.unR (Su.rCe) x6)).bind fun x7 =>
  some (p5.2.2.2.2.2.2.2.2.2.2.2.2.2.2.2.2.2.2.2.2.1,x7)).bind fun x8 =>
  some (p5.2.2.2.2.2.2.2.2.2.2.2.2.2.2.2.2.2.2.2.1,x8)).bind fun x9 =>
  some (p5.2.2.2.2.2.2.2.2.2.2.2.2.2.2.2.2.2.2.1,x9)).bind fun x10 =>
  some (p5.2.2.2.2.2.2.2.2.2.2.2.2.2.2.2.2.2.1,x10)
 else
  none)
 | .ret o11=>some o11))))
theorem qvD (c:CoD) (s:StD) (K:Iv) (hl:s.2.2.2.2.length=c.2.1.length) (hs:s.2.2.2.2.length≤1000000) :
 jN (c.2.1.length+1) ZA (yH c s K ((0:Nat):Int) []) (qfV (.ret qH) (fun P=>.exit 0 (yH c s K (c.2.1.length:Int) P)) (qP (qZ c.2.1 s.2.2.2.2 (qI)) c.2.1.length)):=by
 have hmx:s.2.2.2.2.length≤maxLen:=by rw [qG];omega
 refine yi (mk:=fun i P=>yH c s K (i:Int) P) ?_ ?_ ?_
 · intro i P x hi hP ho
   have i1:i<s.2.2.2.2.length:=by omega
   unfold qZ at ho
   rw [List.getElem?_eq_getElem hi,List.getElem?_eq_getElem i1] at ho
   simp only [] at ho
   have hb:Nat.ble (P.length+1) 549755813888=true:=Nat.ble_eq_true_of_le (by omega)
   unfold yH
   simp only [ZA,ltN,decide_eq_true i1,cond_true,ixl i1,ixl hi,Option.bind_some]
   generalize c.2.1[i]=d at *
   generalize s.2.2.2.2[i]=x0 at *
   have hf:qI i d x0=x0:=by rfl
   rw [hf] at ho
   rcases Bool.eq_false_or_eq_true (qT (qq (x0) d.type) d.type) with hn | hn
   · exact absurd ((qB hn).symm.trans ho) (by simp)
   · have:=soi ((qA hn).symm.trans ho);subst this
     refine (qA hn).trans ?_
     simp only [List.length_map,List.length_cons,List.length_nil,Nat.zero_add,qgn,hb,Bool.and_self,cond_true,QC,w1 i1 hmx]
     all_goals rfl
 · intro i P hi hP ho
   have i1:i<s.2.2.2.2.length:=by omega
   unfold qZ at ho
   rw [List.getElem?_eq_getElem hi,List.getElem?_eq_getElem i1] at ho
   simp only [] at ho
   have hb:Nat.ble (P.length+1) 549755813888=true:=Nat.ble_eq_true_of_le (by omega)
   unfold yH
   simp only [ZA,ltN,decide_eq_true i1,cond_true,ixl i1,ixl hi,Option.bind_some]
   generalize c.2.1[i]=d at *
   generalize s.2.2.2.2[i]=x0 at *
   have hf:qI i d x0=x0:=by rfl
   rw [hf] at ho
   rcases Bool.eq_false_or_eq_true (qT (qq (x0) d.type) d.type) with hn | hn
   · exact (qB hn).trans rfl
   · exact absurd ((qA hn).symm.trans ho) (by simp)
 · intro P hP
   unfold yH
   simp only [ZA,ltN,hl,decide_eq_false (Nat.lt_irrefl _),cond_false]
def qab (p:CoD×(StD×Unit)):Option StD:=bif smS p.2.1 then some (qp p.1 p.2.1 qI) else none
theorem qvE (p:CoD×(StD×Unit)) (y:StD) (hg:(dc cCo (dc cSt (d1 (cF 72)))).good p) (h:qab p=some y):∃ n,qpr n p.1 p.2.1 p.2.2=some y:=by
 obtain ⟨c,s,u⟩:=p
 obtain ⟨hm,h⟩:=qj h
 have:=soi h;subst this
 have hm:smS s=true:=hm
 refine ⟨c.2.1.length+1,?_⟩
 show qpr (c.2.1.length+1) c s u=some (qp c s qI)
 unfold qpr
 rcases Bool.eq_false_or_eq_true s.1 with hd | hd
 · rw [show qp c s _=qH from qB hd];exact qB hd
 · refine (qA hd).trans ?_
   by_cases hl:s.2.2.2.2.length=c.2.1.length
   · refine (qA (by rw [lnE,decide_eq_true hl];rfl)).trans ?_
     rcases Bool.eq_false_or_eq_true (qy [stK s]).1 with hK | hK
     · rw [show qp c s _=qH from (qA hd).trans ((qA (by rw [decide_eq_true hl];rfl)).trans (qB hK))]
       exact qB hK
     · refine (qA hK).trans ?_
       rw [jP _ hd hl hK]
       have hr:=qvD c s (qy [stK s]) hl (Qe hm) _ (Nat.le_refl _)
       refine obB hr ?_
       cases hb:qP (qZ c.2.1 s.2.2.2.2 (qI)) c.2.1.length with
       | none=>rfl
       | some P=>exact obB (YI P) (qnk P (qy [stK s]) false)
   · rw [show qp c s _=qH from (qA hd).trans (qB (by rw [decide_eq_false hl];rfl))]
     exact qB (by rw [lnE,decide_eq_false hl];rfl)
end
end Su
end
section
namespace Su
open Go Fly
set_option linter.unusedVariables false
noncomputable section
end
end Su
end
section
namespace Su
open Go Fly
set_option linter.unusedVariables false
noncomputable section
end
end Su
end
