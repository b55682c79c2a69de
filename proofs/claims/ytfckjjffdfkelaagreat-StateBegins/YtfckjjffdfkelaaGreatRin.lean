/-
  Bits and rounding, in plain Lean. No condition.
-/
import Derived.Test.YtfckjjffdfkelaaGreatNB30
import Derived.Test.YtfckjjffdfkelaaGreatSuSd
import Derived.Test.YtfckjjffdfkelaaGreatNB27
import Derived.Test.YtfckjjffdfkelaaGreatNB25
set_option maxRecDepth 10000
section
namespace Su
open Go Fly
set_option linter.unusedVariables false
noncomputable section
theorem qy5 {x:Su.Ce} {t:Int} (h:t=1):qV x t=((x.f == false)&&((x.t == false)&&true)):=qp (decide_eq_true h)
theorem qy6 {x:Su.Ce} {t:Int} (h:t=2):qV x t=(bif (qK [x.i]).1 then true else (Y5 (x.d,x.p) (x.d,x.p)).1.1):=by
 subst h;rfl
theorem qy7 {x:Su.Ce} {t:Int} (h:t=3):qV x t=(qp2 [x.s]).1:=by
 subst h;rfl
theorem qy8 {x:Su.Ce} {t:Int} (h:t=1):qz x t=⟨x.f,x.t,iv0,iv0,iv0,iv0,0,fm0⟩:=qp (decide_eq_true h)
theorem qy9 {x:Su.Ce} {t:Int} (h:t=2):qz x t=⟨false,false,x.i,x.d,x.p,iv0,0,fm0⟩:=by subst h;rfl
theorem qza {x:Su.Ce} {t:Int} (h:t=3):qz x t=⟨false,false,iv0,iv0,iv0,x.s,x.sl,x.fm⟩:=by subst h;rfl
theorem qmw {x:Su.Ce} {v:Su.Vl} {k t:Int} (h:t=1) (hv:v.type=t):yU t x v k=((v.b&&x.t)||(!v.b&&x.f)):=by
 unfold yU;rw [qt (by rw [decide_eq_true hv];rfl),qp (decide_eq_true h)]
theorem qmx {x:Su.Ce} {v:Su.Vl} {k t:Int} (h:t=2) (hv:v.type=t):yU t x v k=(qE x.i v.i&&JU (x.d,x.p) v.i k):=by
 unfold yU;rw [qt (by rw [decide_eq_true hv];rfl),qt (decide_eq_false (by omega)),qp (decide_eq_true h)]
theorem qmy {x:Su.Ce} {v:Su.Vl} {k t:Int} (h:t=3) (hv:v.type=t):yU t x v k=(Y7 x.s v.f&&ofS x.fm v.f):=by
 unfold yU;rw [qt (by rw [decide_eq_true hv];rfl),qt (decide_eq_false (by omega)),qt (decide_eq_false (by omega)),qp (decide_eq_true h)]
theorem qmz {t:Int} {x:Su.Ce} {v:Su.Vl} {k:Int} (h:yU t x v k=true):v.type=t∧(t=1∨t=2∨t=3):=by
 unfold yU at h
 by_cases hv:v.type=t
 · refine ⟨hv,?_⟩
   rw [qt (by rw [decide_eq_true hv];rfl)] at h
   by_cases h1:t=1
   · exact .inl h1
   · rw [qt (decide_eq_false h1)] at h
     by_cases h2:t=2
     · exact .inr (.inl h2)
     · rw [qt (decide_eq_false h2)] at h
       by_cases h3:t=3
       · exact .inr (.inr h3)
       · rw [qt (decide_eq_false h3)] at h;cases h
 · rw [qp (by rw [decide_eq_false hv];rfl)] at h;cases h
theorem qW {s:Iv} {n:Int}:qE s n=true↔(ivN s).1=false∧((ivN s).2.1 = -1099511627776∨(ivN s).2.1≤n)∧((ivN s).2.2=1099511627776∨n≤(ivN s).2.2):=by
 unfold qE
 cases (ivN s).1 <;> simp
theorem qbW (s:Iv) (n:Int):qE (ivN s) n=qE s n:=by unfold qE;rw [JV]
theorem qkS {a b:Iv} {n:Int} (h1:qE a n=true) (h2:qE b n=true):qE (qdA a b) n=true:=by
 obtain ⟨a0,a1,a2⟩:=qW.1 h1
 obtain ⟨b0,b1,b2⟩:=qW.1 h2
 obtain ⟨p1,p2,p3,p4,p5⟩:=Q1 (qaI a) a0
 obtain ⟨q1,q2,q3,q4,q5⟩:=Q1 (qaI b) b0
 unfold qdA
 rw [a0,b0]
 generalize ivN a=A at *
 generalize ivN b=B at *
 show qE (qo (max A.2.1 B.2.1) (min A.2.2 B.2.2)) n=true
 have ok:qp0 (false,(max A.2.1 B.2.1,min A.2.2 B.2.2)):=by
  refine .inr ⟨rfl,?_,?_,?_,?_,?_⟩ <;> simp only [] <;> omega
 unfold qo
 rw [qbW]
 refine qW.2 ?_
 rw [qfj ok]
 refine ⟨rfl,?_,?_⟩ <;> simp only [] <;> omega
theorem qD5 {c:Ckp} {m n:Int} (h1:qE (ckN c).1 m=true) (h2:qE (ckN c).2 n=true):(ckN c).1.1=false∧(ckN c).2.1=false:=by
 have a:=(qW.1 h1).1
 have b:=(qW.1 h2).1
 rw [qF8] at a;rw [qF9] at b
 exact ⟨a,b⟩
theorem J1 {c:Ckp} {v k:Int}:JU c v k=true↔(-2199023255552≤min v k∧max v k≤2199023255552)∧qE (ckN c).1 (v-k)=true∧qE (ckN c).2 (v+k)=true:=by
 unfold JU
 rw [Bool.and_eq_true,Bool.and_eq_true]
 simp only [Bool.not_eq_true',Bool.or_eq_false_iff,decide_eq_false_iff_not]
 constructor
 · rintro ⟨⟨a,b⟩,h⟩;exact ⟨⟨by omega,by omega⟩,h⟩
 · rintro ⟨⟨a,b⟩,h⟩;exact ⟨⟨by omega,by omega⟩,h⟩
theorem qkT {a b:Iv} {m n:Int} (h1:qE a m=true) (h2:qE b n=true):qE (ckN (a,b)).1 m=true∧qE (ckN (a,b)).2 n=true:=by
 have e1:=(qW.1 h1).1
 have e2:=(qW.1 h2).1
 rw [qbK]
 show qE (bif (ivN a).1||(ivN b).1 then ((noI,noI):Ckp) else (ivN a,ivN b)).1 m=true∧qE (bif (ivN a).1||(ivN b).1 then ((noI,noI):Ckp) else (ivN a,ivN b)).2 n=true
 rw [e1,e2]
 exact ⟨by rw [← h1];exact qbW a m,by rw [← h2];exact qbW b n⟩
theorem qur {a b:Ckp} {v k:Int} (h1:JU a v k=true) (h2:JU b v k=true):JU (Y5 a b) v k=true:=by
 obtain ⟨r,a1,a2⟩:=J1.1 h1
 obtain ⟨-,b1,b2⟩:=J1.1 h2
 refine J1.2 ⟨r,?_⟩
 unfold Y5
 rw [qfk]
 exact qkT (qkS a1 b1) (qkS a2 b2)
theorem Jk {f:Int}:fI f=true↔Y6 f=false∧qF (bK f.toNat)≠3:=by
 unfold fI Y6
 rw [jk,QV,JN]
 by_cases h:bK f.toNat=9218868437227405312
 · rw [if_pos h];omega
 · rw [if_neg h]
   constructor
   · intro h1
     refine ⟨by omega,?_⟩
     rw [if_neg (by omega)]
     split <;> (try split) <;> omega
   · rintro ⟨h1,-⟩;omega
theorem qgR {s:Spn} {f:Int} (hf:Fw f) (hs:SpW s):Y7 s f=true↔fI f=true∧(qr s).1=false∧ky (qr s).2.1≤ky f∧ky f≤ky (qr s).2.2:=by
 unfold Y7
 by_cases hc:qF (bK f.toNat)=3
 · rw [decide_eq_true hc]
   constructor
   · intro h;cases h
   · rintro ⟨h,-⟩;exact absurd hc (Jk.1 h).2
 · rw [decide_eq_false hc]
   cases hn:Y6 f with
   | true =>
    have e:jF f f=qdv:=by
     rcases Y8 (s:=(false,(f,f))) ⟨hf,hf⟩ with h | ⟨_,h,_⟩
     · exact h
     · rw [hn] at h;cases h
    rw [e]
    constructor
    · intro h;cases h
    · rintro ⟨h,-⟩;rw [(Jk.1 h).1] at hn;cases hn
   | false =>
    have hfi:fI f=true:=Jk.2 ⟨hn,hc⟩
    have ok:=qbM (s:=(false,(f,f))) ⟨hf,hf⟩
    have hk:=jk.1 (show jt (bK f.toNat)=true from hfi)
    have hab:=qaJ f
    have n1:f≠9218868437227405312:=fun e=>by subst e;revert hk;decide
    have n2:f≠18442240474082181120:=fun e=>by subst e;revert hk;decide
    have e:jF f f=(false,(nzI f,nzI f)):=by
     unfold jF qr
     simp only []
     rw [ZO.2 ⟨hn,hn,Int.le_refl _⟩,decide_eq_false n1,decide_eq_false n2];rfl
    have e2:qr (jF f f)=jF f f:=qkF ok
    obtain ⟨z1,z2⟩:=qgN hf hn
    unfold qtX
    rw [e2,e]
    simp only [Bool.not_false,Bool.true_and,Bool.false_or]
    cases h0:(qr s).1 with
    | true=>simp
    | false =>
     obtain ⟨a1,a2,-⟩:=qmp (qbM hs) h0
     simp only [Bool.not_false,Bool.true_and,Bool.and_eq_true]
     rw [ZO,ZO,z2]
     constructor
     · rintro ⟨⟨_,_,b1⟩,_,_,b2⟩;exact ⟨hfi,trivial,b1,b2⟩
     · rintro ⟨_,_,b1,b2⟩;exact ⟨⟨a1.n,z1.n,b1⟩,z1.n,a2.n,b2⟩
theorem qus {t:Int} {x:Su.Ce} {v:Su.Vl} {k:Int} (hw:SpW x.s) (hf:Fw v.f) (h:yU t x v k=true):qV (qz x t) t=false∧yU t (qz x t) v k=true:=by
 obtain ⟨hv,ht⟩:=qmz h
 rcases ht with ht | ht | ht
 · rw [qmw ht hv] at h
   rw [qy5 ht,qmw ht hv,qy8 ht]
   refine ⟨?_,h⟩
   show ((x.f == false)&&((x.t == false)&&true))=false
   cases hf:x.f <;> cases hx:x.t
   · rw [hf,hx] at h;simp at h
   · rfl
   · rfl
   · rfl
 · rw [qmx ht hv,Bool.and_eq_true] at h
   rw [qy6 ht,qmx ht hv,qy9 ht]
   refine ⟨?_,by rw [Bool.and_eq_true];exact h⟩
   show (bif (qK [x.i]).1 then true else (Y5 (x.d,x.p) (x.d,x.p)).1.1)=false
   rw [qtD,qt (qW.1 h.1).1]
   obtain ⟨-,h1,h2⟩:=J1.1 (qur h.2 h.2)
   have:=(qD5 h1 h2).1
   unfold Y5 at this ⊢
   rwa [qfk] at this
 · rw [qmy ht hv,Bool.and_eq_true] at h
   rw [qy7 ht,qmy ht hv,qza ht]
   refine ⟨?_,by rw [Bool.and_eq_true];exact h⟩
   show (qp2 [x.s]).1=false
   rw [spJ1 hw];exact ((qgR hf hw).1 h.1).2.1
theorem qqb {a:Iv} {n:Int} (h:qE a n=true):qE (Ji a) (-n)=true:=by
 obtain ⟨a0,a1,a2⟩:=qW.1 h
 obtain ⟨p1,p2,p3,p4,p5⟩:=Q1 (qaI a) a0
 unfold Ji
 rw [a0,cond_false]
 generalize ivN a=A at *
 have ok:qp0 (false,(-A.2.2,-A.2.1)):=by
  refine .inr ⟨rfl,?_,?_,?_,?_,?_⟩ <;> simp only [] <;> omega
 unfold qo
 rw [qbW]
 refine qW.2 ?_
 rw [qfj ok]
 refine ⟨rfl,?_,?_⟩ <;> simp only [] <;> omega
theorem qd8 {n:Int}:Y4 n=true↔1099511627776≤n∨n≤-1099511627776:=by
 unfold Y4;simp
theorem qd9 {n:Int}:Y4 n=false↔n<1099511627776∧-1099511627776<n:=by
 unfold Y4;simp
theorem qgS {a b:Iv} {m n:Int} (h1:qE a m=true) (h2:qE b n=true):qE (yd a b) (m+n)=true:=by
 obtain ⟨a0,a1,a2⟩:=qW.1 h1
 obtain ⟨b0,b1,b2⟩:=qW.1 h2
 obtain ⟨p1,p2,p3,p4,p5⟩:=Q1 (qaI a) a0
 obtain ⟨q1,q2,q3,q4,q5⟩:=Q1 (qaI b) b0
 unfold yd
 rw [a0,b0]
 simp only [Bool.or_self,cond_false]
 generalize ivN a=A at *
 generalize ivN b=B at *
 have hlo:∃ lo,Jh A.2.1 B.2.1=lo∧(lo = -1099511627776∨(-1099511627776<lo∧lo≤1099511627776∧lo≤m+n)):=by
  refine ⟨_,rfl,?_⟩
  unfold Jh qaH
  cases f1:Y4 A.2.1 with
  | true=>have:=qd8.1 f1;simp only [cond_true];omega
  | false =>
   have:=qd9.1 f1
   cases f2:Y4 B.2.1 with
   | true=>have:=qd8.1 f2;simp only [cond_true,cond_false];omega
   | false=>have:=qd9.1 f2;simp only [cond_false];omega
 have hhi:∃ hi,Jh A.2.2 B.2.2=hi∧(hi=1099511627776∨(-1099511627776≤hi∧hi<1099511627776∧m+n≤hi)):=by
  refine ⟨_,rfl,?_⟩
  unfold Jh qaH
  cases f1:Y4 A.2.2 with
  | true=>have:=qd8.1 f1;simp only [cond_true];omega
  | false =>
   have:=qd9.1 f1
   cases f2:Y4 B.2.2 with
   | true=>have:=qd8.1 f2;simp only [cond_true,cond_false];omega
   | false=>have:=qd9.1 f2;simp only [cond_false];omega
 obtain ⟨lo,e1,hlo⟩:=hlo
 obtain ⟨hi,e2,hhi⟩:=hhi
 rw [e1,e2]
 unfold qcH qaH
 have ok:qp0 (false,(min (max (min lo 1099511627776) (-1099511627776)) 1099511627775,max (max (min hi 1099511627776) (-1099511627776)) (-1099511627775))):=by
  refine .inr ⟨rfl,?_,?_,?_,?_,?_⟩ <;> simp only [] <;> omega
 refine qW.2 ?_
 rw [qfj ok]
 refine ⟨rfl,?_,?_⟩ <;> simp only [] <;> omega
theorem qqc {a b:Iv} {m n:Int} (h1:qE a m=true) (h2:qE b n=true):qE (qgL a b) (m-n)=true:=by
 have:=qgS h1 (qqb h2)
 rw [← Int.sub_eq_add_neg] at this;exact this
theorem qut {a b:Iv} {v k:Int} (h1:qE a v=true) (h2:qE b k=true) (hv : -2199023255552≤min v k∧max v k≤2199023255552):JU (ja a b) v k=true:=by
 refine J1.2 ⟨hv,?_⟩
 unfold ja
 rw [qfk]
 exact qkT (qqc h1 h2) (qgS h1 h2)
end
end Su
end
section
namespace Su
open Go Fly
set_option linter.unusedVariables false
noncomputable section
theorem qbX {c:CoD} {s:StD} {row:List Su.Vl} {k:Int}:Jw c s row k=true↔s.1=false∧s.2.2.2.2.length=c.2.1.length∧row.length=c.2.1.length∧qE (stK s) k=true∧∀ i,i<c.2.1.length→hsN c.2.1 s.2.2.2.2 row k i=true:=by
 unfold Jw
 cases hd:s.1 with
 | true=>simp
 | false =>
  by_cases h1:s.2.2.2.2.length=c.2.1.length
  · by_cases h2:row.length=c.2.1.length
    · cases hk:qE (stK s) k with
      | false=>simp [h1,h2]
      | true =>
       simp only [cond_false,decide_eq_true h1,decide_eq_true h2,Bool.not_true]
       rw [qkE]
       exact ⟨fun h=>⟨trivial,h1,h2,trivial,h⟩,fun h=>h.2.2.2.2⟩
    · rw [decide_eq_true h1,decide_eq_false h2]
      simp only [cond_false,cond_true,Bool.not_true,Bool.not_false]
      exact ⟨fun h=>(by cases h),fun h=>absurd h.2.2.1 h2⟩
  · rw [decide_eq_false h1]
    simp only [cond_false,cond_true,Bool.not_false]
    exact ⟨fun h=>(by cases h),fun h=>absurd h.2.1 h1⟩
theorem qD6 {C:List Su.Cc} {X:List Su.Ce} {row:List Su.Vl} {k:Int} {i:Nat} (h1:i<C.length) (h2:i<X.length) (h3:i<row.length):hsN C X row k i=yU C[i].type X[i] row[i] k:=by
 unfold hsN
 rw [List.getElem?_eq_getElem h1,List.getElem?_eq_getElem h2,List.getElem?_eq_getElem h3]
theorem qD7 (K:Iv) (P:List Su.Ce):stK (mkS K P)=K:=rfl
theorem quu {c:CoD} {s:StD} {N:List Su.Vl} {k:Int} {f:Nat→Su.Cc→Su.Ce→Su.Ce} (hd:s.1=false) (hl:s.2.2.2.2.length=c.2.1.length) (hN:N.length=c.2.1.length) (hk:qE (stK s) k=true)
 (hw:∀ (i:Nat) (hi:i<c.2.1.length),SpW (f i c.2.1[i] (s.2.2.2.2[i]'(by omega))).s) (hf:∀ v∈N,Fw v.f)
 (hc:∀ (i:Nat) (hi:i<c.2.1.length),yU c.2.1[i].type (f i c.2.1[i] (s.2.2.2.2[i]'(by omega))) (N[i]'(by omega)) k=true) :
 ∃ P,j0 c s f=mkS (ivN (stK s)) P∧P.length=c.2.1.length∧(∀ (i:Nat) (hi:i<c.2.1.length),P[i]?=some (qz (f i c.2.1[i] (s.2.2.2.2[i]'(by omega))) c.2.1[i].type))∧Jw c (mkS (ivN (stK s)) P) N k=true:=by
 have hK:(qK [stK s]).1=false:=by rw [qtD];exact (qW.1 hk).1
 have hbare:=fun (i:Nat) (hi:i<c.2.1.length)=>qus (hw i hi) (hf _ (List.getElem_mem (show i<N.length by omega))) (hc i hi)
 have hout:∀ (i:Nat) (hi:i<c.2.1.length),jG c.2.1 s.2.2.2.2 f i=some (qz (f i c.2.1[i] (s.2.2.2.2[i]'(by omega))) c.2.1[i].type):=by
  intro i hi
  unfold jG
  rw [List.getElem?_eq_getElem hi,List.getElem?_eq_getElem (show i<s.2.2.2.2.length by omega)]
  exact qt (hbare i hi).1
 obtain ⟨P,hP⟩:=qfo (out:=jG c.2.1 s.2.2.2.2 f) (n:=c.2.1.length) fun i hi=>by rw [hout i hi];simp
 have hlen:=yj hP
 have hget:∀ (i:Nat) (hi:i<c.2.1.length),P[i]?=some (qz (f i c.2.1[i] (s.2.2.2.2[i]'(by omega))) c.2.1[i].type):=fun i hi=>by
  rw [← qfn hP i hi,hout i hi]
 refine ⟨P,?_,hlen,hget,?_⟩
 · rw [QA f hd hl hK,hP,qtD];rfl
 · refine qbX.2 ⟨rfl,hlen,hN,?_,fun i hi=>?_⟩
   · rw [qD7,qbW];exact hk
   · have h2:i<P.length:=by omega
     show hsN c.2.1 P N k i=true
     rw [qD6 hi h2 (by omega)]
     have:=hget i hi
     rw [List.getElem?_eq_getElem h2] at this
     rw [soi this]
     exact (hbare i hi).2
theorem quv {K:Iv} {P:List Su.Ce} (h1:P.length≤1000000) (h2:∀ x∈P,x.fm.2.2.1.length≤1000000):smS (mkS K P)=true:=by
 unfold smS
 rw [Bool.and_eq_true]
 exact ⟨Nat.ble_eq_true_of_le h1,List.all_eq_true.2 fun x hx=>Nat.ble_eq_true_of_le (h2 x hx)⟩
theorem qzb (x:Su.Ce) (t:Int):(qz x t).fm.2.2.1.length≤x.fm.2.2.1.length:=by
 unfold qz
 cases decide (t=1) with
 | true=>exact Nat.zero_le _
 | false =>
  cases decide (t=2) with
  | true=>exact Nat.zero_le _
  | false =>
   cases decide (t=3) with
   | true=>exact Nat.le_refl _
   | false=>exact Nat.zero_le _
end
end Su
end
section
namespace Su
open Go Fly
set_option linter.unusedVariables false
noncomputable section
def ofC (v:Su.Vl) (k:Iv):Su.Ce :=
 bif decide (v.type=1) then ⟨!v.b,v.b,iv0,iv0,iv0,iv0,0,fm0⟩
 else bif decide (v.type=2) then ⟨false,false,qo v.i v.i,(ja (qo v.i v.i) k).1,(ja (qo v.i v.i) k).2,iv0,0,fm0⟩
 else bif decide (v.type=3) then ⟨false,false,iv0,iv0,iv0,jF v.f v.f,0,jN (false,(v.f,([],0)))⟩
 else ⟨false,false,iv0,iv0,iv0,iv0,0,fm0⟩
theorem qmA {f:Int} (h:fI f=true):fI (nzI f)=true:=by
 unfold nzI
 cases zI f with
 | true=>exact qDD
 | false=>exact h
theorem qD8 (f:Int):nzI f≠9223372036854775808:=by
 unfold nzI
 cases hz:zI f with
 | true=>intro h;cases h
 | false =>
  intro h
  have h:f=9223372036854775808:=h
  subst h
  revert hz;decide
theorem qfu {f:Int} (h:fI f=true):jN (false,(f,([],0)))=(false,(nzI f,([],0))):=by
 rw [qfh]
 show (bif (fI (nzI f)&&fI (nzI 0))&&!((jJ []).any fun t=>!fI t.c) then ((false,(nzI f,(jJ [],nzI 0))):Fm) else qyn)=_
 rw [qmA h];rfl
theorem quw {f:Int} (h:fI f=true):okF (false,(nzI f,([],0)))=true:=by
 unfold okF
 rw [qiq]
 show (!(false||!(bif false then _ else Jg (-1) []&&(fI (nzI f)&&(!decide (nzI f=9223372036854775808)&&(fI 0&&decide (Int.fdiv 0 (2^63)=0)))))))=true
 rw [qmA h,decide_eq_false (qD8 f)];rfl
def kyV (k:Int):Int:=bif decide (k<0) then -(kV k.natAbs:Int) else (kV k.natAbs:Int)
theorem qBy {f:Int} (h:fI f=true):fv f.toNat=kyV (ky f):=by
 have h':jt (bK f.toNat)=true:=h
 unfold fv fvK kyV
 rw [h',cond_true,qaJ]
 have e:ky f=bif bS f.toNat then -(bK f.toNat:Int) else (bK f.toNat:Int):=rfl
 rw [e]
 cases bS f.toNat with
 | true =>
  by_cases h0:bK f.toNat=0
  · rw [h0];rfl
  · rw [decide_eq_true (by simp only [cond_true];omega)]
 | false=>rw [decide_eq_false (by simp only [cond_false];omega)]
theorem qD9 {f:Int} (hf:Fw f) (h:fI f=true):jF f f=(false,(nzI f,nzI f)):=by
 obtain ⟨hn,hc⟩:=Jk.1 h
 have hk:=jk.1 (show jt (bK f.toNat)=true from h)
 have n1:f≠9218868437227405312:=fun e=>by subst e;revert hk;decide
 have n2:f≠18442240474082181120:=fun e=>by subst e;revert hk;decide
 unfold jF qr
 simp only []
 rw [ZO.2 ⟨hn,hn,Int.le_refl _⟩,decide_eq_false n1,decide_eq_false n2];rfl
theorem qEa {f w:Int} (hf:Fw f) (hw:Fw w) (h:fI f=true):Y7 (jF f f) w=true↔fI w=true∧ky w=ky f:=by
 have ok:=qbM (s:=(false,(f,f))) ⟨hf,hf⟩
 have e2:qr (jF f f)=jF f f:=qkF ok
 obtain ⟨z1,z2⟩:=qgN hf (Jk.1 h).1
 have okw:SpW (jF f f):=ok.w
 rw [qgR hw okw,e2,qD9 hf h]
 show fI w=true∧false=false∧ky (nzI f)≤ky w∧ky w≤ky (nzI f)↔_
 rw [z2]
 constructor
 · rintro ⟨a,-,b,c⟩;exact ⟨a,by omega⟩
 · rintro ⟨a,b⟩;exact ⟨a,rfl,by omega,by omega⟩
theorem qEb {w:Int}:jR w.toNat = !fI w:=by
 have:=qiw w.toNat
 unfold fI;rw [this,Bool.not_not]
theorem qux {f w:Int} (hf:Fw f) (h:fI f=true) (hw:fI w=true) (e:ky w=ky f):ofS (jN (false,(f,([],0)))) w=true:=by
 obtain ⟨z1,z2⟩:=qgN hf (Jk.1 h).1
 rw [qfu h]
 unfold ofS
 rw [qEb,hw,quw h]
 show (!!true&&(!true||decide ((fv w.toNat-fv (nzI f).toNat).natAbs≤qp9 (false,(nzI f,([],0))))))=true
 rw [qBy hw,qBy (qmA h),z2,e,Int.sub_self]
 rfl
def J2 (v w:Su.Vl):Bool :=
 bif decide (v.type=1) then decide (w.b=v.b) else bif decide (v.type=2) then decide (w.i=v.i) else fI w.f&&decide (ky w.f=ky v.f)
theorem qBz {n:Int} (h1 : -1099511627776<n) (h2:n<1099511627776):ivN (qo n n)=(false,(n,n))∧qo n n=(false,(n,n)):=by
 have:qo n n=(false,(n,n)):=qfj (.inr ⟨rfl,by simp only [];omega,by simp only [];omega,by simp only [];omega,by simp only [];omega,by simp only [];omega⟩)
 exact ⟨by rw [show ivN (qo n n)=qo n n from JV _];exact this,this⟩
theorem Zf {n m:Int} (h1 : -1099511627776<n) (h2:n<1099511627776):qE (qo n n) m=decide (m=n):=by
 have:=(qW (s:=qo n n) (n:=m))
 rw [(qBz h1 h2).1] at this
 by_cases e:m=n
 · rw [decide_eq_true e];exact this.2 ⟨rfl,.inr (by simp only [];omega),.inr (by simp only [];omega)⟩
 · rw [decide_eq_false e]
   cases hh:qE (qo n n) m with
   | false=>rfl
   | true =>
    obtain ⟨-,a,b⟩:=this.1 hh
    simp only [] at a b
    omega
theorem qou {v w:Su.Vl} {k:Int} (vi : -2147483648≤v.i∧v.i<2147483648) (hf:Fw v.f) (hw:Fw w.f) (k1 : -34359738368≤k) (k2:k≤34359738368)
 (ht:v.type=1∨v.type=2∨v.type=3) (hfi:v.type=3→fI v.f=true) (et:w.type=v.type):yU v.type (ofC v (qo k k)) w k=J2 v w:=by
 unfold ofC J2
 rcases ht with h | h | h
 · rw [decide_eq_true h]
   simp only [cond_true]
   rw [qmw h et]
   show ((w.b&&v.b)||(!w.b&&!v.b))=_
   cases v.b <;> cases w.b <;> rfl
 · rw [decide_eq_true h,decide_eq_false (show ¬ v.type=1 by omega)]
   simp only [cond_true,cond_false]
   rw [qmx h et]
   show (qE (qo v.i v.i) w.i&&JU (ja (qo v.i v.i) (qo k k)) w.i k)=_
   rw [Zf (by omega) (by omega)]
   by_cases e:w.i=v.i
   · rw [decide_eq_true e,e,Bool.true_and]
     exact qut (by rw [Zf (by omega) (by omega)];exact decide_eq_true rfl) (by rw [Zf (by omega) (by omega)];exact decide_eq_true rfl) (by omega)
   · rw [decide_eq_false e];rfl
 · rw [decide_eq_true h,decide_eq_false (show ¬ v.type=1 by omega),decide_eq_false (show ¬ v.type=2 by omega)]
   simp only [cond_true,cond_false]
   rw [qmy h et]
   show (Y7 (jF v.f v.f) w.f&&ofS (jN (false,(v.f,([],0)))) w.f)=_
   have hp:=qEa hf hw (hfi h)
   by_cases e:fI w.f=true∧ky w.f=ky v.f
   · rw [hp.2 e,qux hf (hfi h) e.1 e.2,e.1,decide_eq_true e.2]
   · cases hh:Y7 (jF v.f v.f) w.f with
     | true=>exact absurd (hp.1 hh) e
     | false =>
      cases h1:fI w.f with
      | false=>rfl
      | true=>rw [decide_eq_false (fun e2=>e ⟨h1,e2⟩)];rfl
theorem quy {a b:Int} (hb:fI b=true):(Z3 a.toNat b.toNat&&decide (qbr a.toNat b.toNat=0))=(fI a&&decide (ky a=ky b)):=by
 have hnb:=(Jk.1 hb).1
 have e:Z3 a.toNat b.toNat = !Y6 a:=by
  have:Z3 a.toNat b.toNat = !(Y6 a||Y6 b):=rfl
  rw [this,hnb,Bool.or_false]
 rw [e]
 cases hn:Y6 a with
 | true =>
  cases hf:fI a with
  | false=>rfl
  | true=>rw [(Jk.1 hf).1] at hn;cases hn
 | false =>
  have e2:decide (qbr a.toNat b.toNat=0)=decide (ky a=ky b):=by
   have e3:qbr a.toNat b.toNat=bif Y6 a||Y6 b then 0 else qsb (ky a) (ky b):=rfl
   rw [e3,hn,hnb,Bool.or_false,cond_false]
   unfold qsb
   by_cases h1:ky a<ky b
   · rw [decide_eq_true h1,cond_true,decide_eq_false (by omega),decide_eq_false (by omega)]
   · rw [decide_eq_false h1,cond_false]
     by_cases h2:ky b<ky a
     · rw [decide_eq_true h2,cond_true,decide_eq_false (by omega),decide_eq_false (by omega)]
     · rw [decide_eq_false h2,cond_false,decide_eq_true rfl,decide_eq_true (by omega)]
  rw [e2]
  by_cases h:ky a=ky b
  · have:fI a=true:=by
     have h1:=qaJ a
     have h2:=qaJ b
     have h3:=jk.1 (show jt (bK b.toNat)=true from hb)
     exact jk.2 (by rw [← h1,h,h2];exact h3)
    rw [this];rfl
  · rw [decide_eq_false h];cases fI a <;> rfl
end
end Su
end
section
namespace Su
open Go Fly
set_option linter.unusedVariables false
noncomputable section
def qEc  (v:Su.Vl) (k:(Bool×(Int×Int))):Option Su.Ce :=
 (bif (decide (((Su.Vl.type v)=1))) then
 some (Su.Ce.mk (!(Su.Vl.b v)) (Su.Vl.b v) (false,((0:Int),(0:Int))) (false,((0:Int),(0:Int))) (false,((0:Int),(0:Int))) (false,((0:Int),(0:Int))) (0:Int) (false,((0:Int),([],(0:Int)))))
 else
  (bif (decide (((Su.Vl.type v)=2))) then
  some (Su.Ce.mk false false (Su.qo (Go.IntKind.wrap .i64 (Su.Vl.i v)) (Go.IntKind.wrap .i64 (Su.Vl.i v))) (Su.ja (Su.qo (Go.IntKind.wrap .i64 (Su.Vl.i v)) (Go.IntKind.wrap .i64 (Su.Vl.i v))) k).1 (Su.ja (Su.qo (Go.IntKind.wrap .i64 (Su.Vl.i v)) (Go.IntKind.wrap .i64 (Su.Vl.i v))) k).2 (false,((0:Int),(0:Int))) (0:Int) (false,((0:Int),([],(0:Int)))))
 else
  (bif (decide (((Su.Vl.type v)=3))) then
  some (Su.Ce.mk false false (false,((0:Int),(0:Int))) (false,((0:Int),(0:Int))) (false,((0:Int),(0:Int))) (Su.jF (Su.Vl.f v) (Su.Vl.f v)) (0:Int) (Su.jN (false,((Su.Vl.f v),([],(0:Int))))))
 else
  some (Su.Ce.mk false false (false,((0:Int),(0:Int))) (false,((0:Int),(0:Int))) (false,((0:Int),(0:Int))) (false,((0:Int),(0:Int))) (0:Int) (false,((0:Int),([],(0:Int))))))))
def quz (p:Su.Vl×Iv):Option Su.Ce:=some (ofC p.1 p.2)
theorem qzc (p:Su.Vl×Iv) (y:Su.Ce) (hg:(dc cVl (d1 cIn)).good p) (h:quz p=some y):qEc p.1 p.2=some y:=by
 obtain ⟨v,k⟩:=p
 have:=soi h;subst this
 have hvi:IntKind.i64.wrap v.i=v.i:=by
  have:=qhZ.1 hg.1.2.2.1
  have h3 : -2147483648≤v.i∧v.i<2147483648:=this
  exact w64 (by omega) (by omega)
 unfold qEc ofC
 simp only [hvi]
 cases decide (v.type=1) with
 | true=>rfl
 | false =>
  cases decide (v.type=2) with
  | true=>rfl
  | false=>cases decide (v.type=3) <;> rfl
end
end Su
end
section
namespace Su
open Go Fly
set_option linter.unusedVariables false
noncomputable section
def j7 (d:Su.Cc):Su.Vl:=⟨d.type,false,0,0⟩
theorem qea (i:Nat) (d:Su.Cc) (x:Su.Ce):j4 i d x=ofC (j7 d) (qo 0 0):=by
 unfold j4 ofC j7
 cases decide (d.type=1) <;> cases decide (d.type=2) <;> cases decide (d.type=3) <;> rfl
theorem qgT {v:Su.Vl} (h:v.type=3→fI v.f=true) (ht:v.type=1∨v.type=2∨v.type=3):J2 v v=true:=by
 unfold J2
 rcases ht with t | t | t
 · rw [decide_eq_true t];exact decide_eq_true rfl
 · rw [decide_eq_true t,decide_eq_false (show ¬ v.type=1 by omega)];exact decide_eq_true rfl
 · rw [decide_eq_false (show ¬ v.type=1 by omega),decide_eq_false (show ¬ v.type=2 by omega),h t];exact decide_eq_true rfl
theorem qGc {v:Su.Vl} (h:Fw v.f) (k:Iv):SpW (ofC v k).s:=by
 have w0:SpW iv0:=⟨⟨by decide,by decide⟩,⟨by decide,by decide⟩⟩
 unfold ofC
 cases decide (v.type=1) with
 | true=>exact w0
 | false =>
  cases decide (v.type=2) with
  | true=>exact w0
  | false =>
   cases decide (v.type=3) with
   | true=>exact (qbM (s:=(false,(v.f,v.f))) ⟨h,h⟩).w
   | false=>exact w0
theorem quA (v:Su.Vl) (k:Iv):(ofC v k).sl=0:=by
 unfold ofC
 cases decide (v.type=1) <;> cases decide (v.type=2) <;> cases decide (v.type=3) <;> rfl
theorem quB {x:Su.Ce} (h:x.sl=0) (t:Int):(qz x t).sl=0:=by
 unfold qz
 cases decide (t=1) <;> cases decide (t=2) <;> cases decide (t=3) <;> first | rfl | exact h
theorem qEd (t:Int) (v:Su.Vl) (h:v.f=0):qgP t 0 ⟨v,(qT (decide ((0:Int)<0)) (0:Int).natAbs 1).1,(qT (decide ((0:Int)<0)) (0:Int).natAbs 1).2.1,(qT (decide ((0:Int)<0)) (0:Int).natAbs 1).2.2,true⟩=true:=by
 unfold qgP
 have e0:fv 0=0:=rfl
 have e1:QZ 0=mkQ 0 QD:=by rw [qbP,e0]
 have e2:((qT (decide ((0:Int)<0)) (0:Int).natAbs 1).1,((qT (decide ((0:Int)<0)) (0:Int).natAbs 1).2.1,(qT (decide ((0:Int)<0)) (0:Int).natAbs 1).2.2))=mkQ 0 1:=rfl
 have e3:(gdF 0).toNat=0:=rfl
 have e4:jR 0=false:=rfl
 show (bif decide (t=3)&&!jR (gdF 0).toNat then true&&(!jR v.f.toNat&&!decide (0<qii (qfJ (qcA (QZ v.f.toNat) ((qT (decide ((0:Int)<0)) (0:Int).natAbs 1).1,((qT (decide ((0:Int)<0)) (0:Int).natAbs 1).2.1,(qT (decide ((0:Int)<0)) (0:Int).natAbs 1).2.2)))) (QZ (gdF 0).toNat))) else true)=true
 rw [e2,e3,h]
 show (bif decide (t=3)&&!jR 0 then true&&(!jR 0&&!decide (0<qii (qfJ (qcA (QZ 0) (mkQ 0 1))) (QZ 0))) else true)=true
 rw [e1,qoi 0 0 yA (by omega),qoj _ (by have:=yA;omega),qol _ _ (by have:=yA;omega) yA,e4]
 have e5:Z5 ((((0:Int)*((1:Nat):Int)-0*(QD:Int)).natAbs:Int)*(QD:Int)) (0*((QD*1:Nat):Int))=0:=by
  rw [Int.zero_mul,Int.zero_mul,Int.zero_mul]
  show Z5 ((0:Int)*_) 0=0
  rw [Int.zero_mul];rfl
 rw [e5]
 cases decide (t=3) <;> rfl
theorem quC {v:Su.Vl} (k:Iv) (h:v.type=3→fI v.f=true):(ofC v k).fm.2.2.1.length≤8:=by
 unfold ofC
 by_cases h1:v.type=1
 · rw [decide_eq_true h1];exact Nat.zero_le _
 · rw [decide_eq_false h1]
   by_cases h2:v.type=2
   · rw [decide_eq_true h2];exact Nat.zero_le _
   · rw [decide_eq_false h2]
     by_cases h3:v.type=3
     · rw [decide_eq_true h3]
       show (jN (false,(v.f,([],0)))).2.2.1.length≤8
       rw [qfu (h h3)];exact Nat.zero_le _
     · rw [decide_eq_false h3];exact Nat.zero_le _
theorem qmB {c:CoD} (ht:∀ d∈c.2.1,d.type=1∨d.type=2∨d.type=3) :
 ∃ P,qac c=mkS (false,(0,0)) P∧P.length=c.2.1.length∧(∀ (i:Nat) (hi:i<c.2.1.length),∃ x,P[i]?=some x∧x.sl=0∧x.fm.2.2.1.length≤8)∧Jw c (qac c) (c.2.1.map j7) 0=true∧Jw c (qac c) (c.2.1.map j7) 1=false:=by
 have hl:=qkI c
 have f0:Fw 0:=⟨by decide,by decide⟩
 have hk:qE (stK (jB c)) 0=true:=by
  show qE (qo 0 0) 0=true
  rw [Zf (by omega) (by omega)];rfl
 have hn:ivN (stK (jB c))=(false,(0,0)):=(qBz (n:=0) (by omega) (by omega)).1
 have hty:∀ (i:Nat) (hi:i<c.2.1.length),(j7 c.2.1[i]).type=1∨(j7 c.2.1[i]).type=2∨(j7 c.2.1[i]).type=3:=fun i hi=>ht _ (List.getElem_mem hi)
 obtain ⟨P,hP,hPl,hPg,hPh⟩:=quu (c:=c) (s:=jB c) (N:=c.2.1.map j7) (k:=0) (f:=j4) rfl hl (List.length_map _) hk
  (fun i hi=>by rw [qea];exact qGc f0 _)
  (fun v hv=>by obtain ⟨d,-,rfl⟩:=List.mem_map.1 hv;exact f0)
  (fun i hi=>by
    rw [qea,List.getElem_map]
    have:=qou (v:=j7 c.2.1[i]) (w:=j7 c.2.1[i]) (k:=0) ⟨by show -2147483648≤(0:Int);omega,by show (0:Int)<2147483648;omega⟩ f0 f0 (by omega) (by omega) (hty i hi) (fun _=>rfl) rfl
    rw [qgT (fun _=>rfl) (hty i hi)] at this
    exact this)
 rw [hn] at hP hPh
 have hz:qac c=mkS (false,(0,0)) P:=hP
 refine ⟨P,hz,hPl,fun i hi=>⟨_,hPg i hi,quB (by rw [qea];exact quA _ _) _,Nat.le_trans (qzb _ _) (by rw [qea];exact quC _ fun _=>rfl)⟩,by rw [hz];exact hPh,?_⟩
 rw [hz]
 cases hh:Jw c (mkS (false,(0,0)) P) (c.2.1.map j7) 1 with
 | false=>rfl
 | true =>
  have:=(qbX.1 hh).2.2.2.1
  have e:qE (stK (mkS (false,(0,0)) P)) 1=false:=rfl
  rw [e] at this;cases this
end
end Su
end
