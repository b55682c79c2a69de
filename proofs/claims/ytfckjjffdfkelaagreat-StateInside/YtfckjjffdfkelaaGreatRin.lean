/-
  Bits and rounding, in plain Lean. No condition.
-/
import Derived.Test.YtfckjjffdfkelaaGreatNB30
import Derived.Test.YtfckjjffdfkelaaGreatNC24
set_option maxRecDepth 10000
section
namespace Su
open Go Fly
set_option linter.unusedVariables false
noncomputable section
theorem qz7 {x:Su.Ce} {t:Int} (h:t=1):qJ x t=((x.f == false)&&((x.t == false)&&true)):=qz (decide_eq_true h)
theorem qz8 {x:Su.Ce} {t:Int} (h:t=2):qJ x t=(bif (qH [x.i]).1 then true else (Zk (x.d,x.p) (x.d,x.p)).1.1):=by
 subst h;rfl
theorem qz9 {x:Su.Ce} {t:Int} (h:t=3):qJ x t=(qqJ [x.s]).1:=by
 subst h;rfl
theorem qeu {x:Su.Ce} {t:Int} (h:t=1):qo x t=⟨x.f,x.t,iv0,iv0,iv0,iv0,0,fm0⟩:=qz (decide_eq_true h)
theorem qev {x:Su.Ce} {t:Int} (h:t=2):qo x t=⟨false,false,x.i,x.d,x.p,iv0,0,fm0⟩:=by subst h;rfl
theorem Z7 {x:Su.Ce} {t:Int} (h:t=3):qo x t=⟨false,false,iv0,iv0,iv0,x.s,x.sl,x.fm⟩:=by subst h;rfl
theorem qiY {x:Su.Ce} {v:Su.Vl} {k t:Int} (h:t=1) (hv:v.type=t):YK t x v k=((v.b&&x.t)||(!v.b&&x.f)):=by
 unfold YK;rw [qt (by rw [decide_eq_true hv];rfl),qz (decide_eq_true h)]
theorem qiZ {x:Su.Ce} {v:Su.Vl} {k t:Int} (h:t=2) (hv:v.type=t):YK t x v k=(qT x.i v.i&&J4 (x.d,x.p) v.i k):=by
 unfold YK;rw [qt (by rw [decide_eq_true hv];rfl),qt (decide_eq_false (by omega)),qz (decide_eq_true h)]
theorem qi0 {x:Su.Ce} {v:Su.Vl} {k t:Int} (h:t=3) (hv:v.type=t):YK t x v k=(qau x.s v.f&&ofS x.fm v.f):=by
 unfold YK;rw [qt (by rw [decide_eq_true hv];rfl),qt (decide_eq_false (by omega)),qt (decide_eq_false (by omega)),qz (decide_eq_true h)]
theorem qa8 {t:Int} {x:Su.Ce} {v:Su.Vl} {k:Int} (h:YK t x v k=true):v.type=t∧(t=1∨t=2∨t=3):=by
 unfold YK at h
 by_cases hv:v.type=t
 · refine ⟨hv,?_⟩
   rw [qt (by rw [decide_eq_true hv];rfl)] at h
   by_cases h1:t=1
   · exact .inl h1
   · rw [qt (decide_eq_false h1)] at h
     by_cases h2:t=2
     · exact .inr (.inl h2)
     · rw [qt (decide_eq_false h2)] at h
       by_cases h3:t=3
       · exact .inr (.inr h3)
       · rw [qt (decide_eq_false h3)] at h;cases h
 · rw [qz (by rw [decide_eq_false hv];rfl)] at h;cases h
theorem jE {s:Iv} {n:Int}:qT s n=true↔(ivN s).1=false∧((ivN s).2.1 = -1099511627776∨(ivN s).2.1≤n)∧((ivN s).2.2=1099511627776∨n≤(ivN s).2.2):=by
 unfold qT
 cases (ivN s).1 <;> simp
theorem qew (s:Iv) (n:Int):qT (ivN s) n=qT s n:=by unfold qT;rw [Qj]
theorem qlo {a b:Iv} {n:Int} (h1:qT a n=true) (h2:qT b n=true):qT (qdZ a b) n=true:=by
 obtain ⟨a0,a1,a2⟩:=jE.1 h1
 obtain ⟨b0,b1,b2⟩:=jE.1 h2
 obtain ⟨p1,p2,p3,p4,p5⟩:=qaZ (qfM a) a0
 obtain ⟨q1,q2,q3,q4,q5⟩:=qaZ (qfM b) b0
 unfold qdZ
 rw [a0,b0]
 generalize ivN a=A at *
 generalize ivN b=B at *
 show qT (qG (max A.2.1 B.2.1) (min A.2.2 B.2.2)) n=true
 have ok:qzt (false,(max A.2.1 B.2.1,min A.2.2 B.2.2)):=by
  refine .inr ⟨rfl,?_,?_,?_,?_,?_⟩ <;> simp only [] <;> omega
 unfold qG
 rw [qew]
 refine jE.2 ?_
 rw [qun ok]
 refine ⟨rfl,?_,?_⟩ <;> simp only [] <;> omega
theorem qFp {c:Ckp} {m n:Int} (h1:qT (ckN c).1 m=true) (h2:qT (ckN c).2 n=true):(ckN c).1.1=false∧(ckN c).2.1=false:=by
 have a:=(jE.1 h1).1
 have b:=(jE.1 h2).1
 rw [qHB] at a;rw [qHC] at b
 exact ⟨a,b⟩
theorem QK {c:Ckp} {v k:Int}:J4 c v k=true↔(-2199023255552≤min v k∧max v k≤2199023255552)∧qT (ckN c).1 (v-k)=true∧qT (ckN c).2 (v+k)=true:=by
 unfold J4
 rw [Bool.and_eq_true,Bool.and_eq_true]
 simp only [Bool.not_eq_true',Bool.or_eq_false_iff,decide_eq_false_iff_not]
 constructor
 · rintro ⟨⟨a,b⟩,h⟩;exact ⟨⟨by omega,by omega⟩,h⟩
 · rintro ⟨⟨a,b⟩,h⟩;exact ⟨⟨by omega,by omega⟩,h⟩
theorem qvc {a b:Iv} {m n:Int} (h1:qT a m=true) (h2:qT b n=true):qT (ckN (a,b)).1 m=true∧qT (ckN (a,b)).2 n=true:=by
 have e1:=(jE.1 h1).1
 have e2:=(jE.1 h2).1
 rw [qb6]
 show qT (bif (ivN a).1||(ivN b).1 then ((noI,noI):Ckp) else (ivN a,ivN b)).1 m=true∧qT (bif (ivN a).1||(ivN b).1 then ((noI,noI):Ckp) else (ivN a,ivN b)).2 n=true
 rw [e1,e2]
 exact ⟨by rw [← h1];exact qew a m,by rw [← h2];exact qew b n⟩
theorem qvd {a b:Ckp} {v k:Int} (h1:J4 a v k=true) (h2:J4 b v k=true):J4 (Zk a b) v k=true:=by
 obtain ⟨r,a1,a2⟩:=QK.1 h1
 obtain ⟨-,b1,b2⟩:=QK.1 h2
 refine QK.2 ⟨r,?_⟩
 unfold Zk
 rw [qld]
 exact qvc (qlo a1 b1) (qlo a2 b2)
theorem qi1 {f:Int}:fI f=true↔qb8 f=false∧qE (bK f.toNat)≠3:=by
 unfold fI qb8
 rw [jv,Q7,JX]
 by_cases h:bK f.toNat=9218868437227405312
 · rw [if_pos h];omega
 · rw [if_neg h]
   constructor
   · intro h1
     refine ⟨by omega,?_⟩
     rw [if_neg (by omega)]
     split <;> (try split) <;> omega
   · rintro ⟨h1,-⟩;omega
theorem Z8 {s:Spn} {f:Int} (hf:Fw f) (hs:SpW s):qau s f=true↔fI f=true∧(qr s).1=false∧ky (qr s).2.1≤ky f∧ky f≤ky (qr s).2.2:=by
 unfold qau
 by_cases hc:qE (bK f.toNat)=3
 · rw [decide_eq_true hc]
   constructor
   · intro h;cases h
   · rintro ⟨h,-⟩;exact absurd hc (qi1.1 h).2
 · rw [decide_eq_false hc]
   cases hn:qb8 f with
   | true =>
    have e:yp f f=qb5:=by
     rcases Ju (s:=(false,(f,f))) ⟨hf,hf⟩ with h | ⟨_,h,_⟩
     · exact h
     · rw [hn] at h;cases h
    rw [e]
    constructor
    · intro h;cases h
    · rintro ⟨h,-⟩;rw [(qi1.1 h).1] at hn;cases hn
   | false =>
    have hfi:fI f=true:=qi1.2 ⟨hn,hc⟩
    have ok:=Jd (s:=(false,(f,f))) ⟨hf,hf⟩
    have hk:=jv.1 (show jz (bK f.toNat)=true from hfi)
    have hab:=qa0 f
    have n1:f≠9218868437227405312:=fun e=>by subst e;revert hk;decide
    have n2:f≠18442240474082181120:=fun e=>by subst e;revert hk;decide
    have e:yp f f=(false,(nzI f,nzI f)):=by
     unfold yp qr
     simp only []
     rw [Qy.2 ⟨hn,hn,Int.le_refl _⟩,decide_eq_false n1,decide_eq_false n2];rfl
    have e2:qr (yp f f)=yp f f:=quK ok
    obtain ⟨z1,z2⟩:=qhf hf hn
    unfold Zl
    rw [e2,e]
    simp only [Bool.not_false,Bool.true_and,Bool.false_or]
    cases h0:(qr s).1 with
    | true=>simp
    | false =>
     obtain ⟨a1,a2,-⟩:=qfN (Jd hs) h0
     simp only [Bool.not_false,Bool.true_and,Bool.and_eq_true]
     rw [Qy,Qy,z2]
     constructor
     · rintro ⟨⟨_,_,b1⟩,_,_,b2⟩;exact ⟨hfi,trivial,b1,b2⟩
     · rintro ⟨_,_,b1,b2⟩;exact ⟨⟨a1.n,z1.n,b1⟩,z1.n,a2.n,b2⟩
theorem qlp {t:Int} {x:Su.Ce} {v:Su.Vl} {k:Int} (hw:SpW x.s) (hf:Fw v.f) (h:YK t x v k=true):qJ (qo x t) t=false∧YK t (qo x t) v k=true:=by
 obtain ⟨hv,ht⟩:=qa8 h
 rcases ht with ht | ht | ht
 · rw [qiY ht hv] at h
   rw [qz7 ht,qiY ht hv,qeu ht]
   refine ⟨?_,h⟩
   show ((x.f == false)&&((x.t == false)&&true))=false
   cases hf:x.f <;> cases hx:x.t
   · rw [hf,hx] at h;simp at h
   · rfl
   · rfl
   · rfl
 · rw [qiZ ht hv,Bool.and_eq_true] at h
   rw [qz8 ht,qiZ ht hv,qev ht]
   refine ⟨?_,by rw [Bool.and_eq_true];exact h⟩
   show (bif (qH [x.i]).1 then true else (Zk (x.d,x.p) (x.d,x.p)).1.1)=false
   rw [qd0,qt (jE.1 h.1).1]
   obtain ⟨-,h1,h2⟩:=QK.1 (qvd h.2 h.2)
   have:=(qFp h1 h2).1
   unfold Zk at this ⊢
   rwa [qld] at this
 · rw [qi0 ht hv,Bool.and_eq_true] at h
   rw [qz9 ht,qi0 ht hv,Z7 ht]
   refine ⟨?_,by rw [Bool.and_eq_true];exact h⟩
   show (qqJ [x.s]).1=false
   rw [spJ1 hw];exact ((Z8 hf hw).1 h.1).2.1
end
end Su
end
section
namespace Su
open Go Fly
set_option linter.unusedVariables false
noncomputable section
theorem qck {c:CoD} {s:StD} {row:List Su.Vl} {k:Int}:qan c s row k=true↔s.1=false∧s.2.2.2.2.length=c.2.1.length∧row.length=c.2.1.length∧qT (stK s) k=true∧∀ i,i<c.2.1.length→hsN c.2.1 s.2.2.2.2 row k i=true:=by
 unfold qan
 cases hd:s.1 with
 | true=>simp
 | false =>
  by_cases h1:s.2.2.2.2.length=c.2.1.length
  · by_cases h2:row.length=c.2.1.length
    · cases hk:qT (stK s) k with
      | false=>simp [h1,h2]
      | true =>
       simp only [cond_false,decide_eq_true h1,decide_eq_true h2,Bool.not_true]
       rw [Jc]
       exact ⟨fun h=>⟨trivial,h1,h2,trivial,h⟩,fun h=>h.2.2.2.2⟩
    · rw [decide_eq_true h1,decide_eq_false h2]
      simp only [cond_false,cond_true,Bool.not_true,Bool.not_false]
      exact ⟨fun h=>(by cases h),fun h=>absurd h.2.2.1 h2⟩
  · rw [decide_eq_false h1]
    simp only [cond_false,cond_true,Bool.not_false]
    exact ⟨fun h=>(by cases h),fun h=>absurd h.2.1 h1⟩
theorem qfV {C:List Su.Cc} {X:List Su.Ce} {row:List Su.Vl} {k:Int} {i:Nat} (h1:i<C.length) (h2:i<X.length) (h3:i<row.length):hsN C X row k i=YK C[i].type X[i] row[i] k:=by
 unfold hsN
 rw [List.getElem?_eq_getElem h1,List.getElem?_eq_getElem h2,List.getElem?_eq_getElem h3]
theorem qFq (K:Iv) (P:List Su.Ce):stK (mkS K P)=K:=rfl
theorem qlq {c:CoD} {s:StD} {N:List Su.Vl} {k:Int} {f:Nat→Su.Cc→Su.Ce→Su.Ce} (hd:s.1=false) (hl:s.2.2.2.2.length=c.2.1.length) (hN:N.length=c.2.1.length) (hk:qT (stK s) k=true)
 (hw:∀ (i:Nat) (hi:i<c.2.1.length),SpW (f i c.2.1[i] (s.2.2.2.2[i]'(by omega))).s) (hf:∀ v∈N,Fw v.f)
 (hc:∀ (i:Nat) (hi:i<c.2.1.length),YK c.2.1[i].type (f i c.2.1[i] (s.2.2.2.2[i]'(by omega))) (N[i]'(by omega)) k=true) :
 ∃ P,qC c s f=mkS (ivN (stK s)) P∧P.length=c.2.1.length∧(∀ (i:Nat) (hi:i<c.2.1.length),P[i]?=some (qo (f i c.2.1[i] (s.2.2.2.2[i]'(by omega))) c.2.1[i].type))∧qan c (mkS (ivN (stK s)) P) N k=true:=by
 have hK:(qH [stK s]).1=false:=by rw [qd0];exact (jE.1 hk).1
 have hbare:=fun (i:Nat) (hi:i<c.2.1.length)=>qlp (hw i hi) (hf _ (List.getElem_mem (show i<N.length by omega))) (hc i hi)
 have hout:∀ (i:Nat) (hi:i<c.2.1.length),q9 c.2.1 s.2.2.2.2 f i=some (qo (f i c.2.1[i] (s.2.2.2.2[i]'(by omega))) c.2.1[i].type):=by
  intro i hi
  unfold q9
  rw [List.getElem?_eq_getElem hi,List.getElem?_eq_getElem (show i<s.2.2.2.2.length by omega)]
  exact qt (hbare i hi).1
 obtain ⟨P,hP⟩:=Yy (out:=q9 c.2.1 s.2.2.2.2 f) (n:=c.2.1.length) fun i hi=>by rw [hout i hi];simp
 have hlen:=jl hP
 have hget:∀ (i:Nat) (hi:i<c.2.1.length),P[i]?=some (qo (f i c.2.1[i] (s.2.2.2.2[i]'(by omega))) c.2.1[i].type):=fun i hi=>by
  rw [← Jg hP i hi,hout i hi]
 refine ⟨P,?_,hlen,hget,?_⟩
 · rw [jP f hd hl hK,hP,qd0];rfl
 · refine qck.2 ⟨rfl,hlen,hN,?_,fun i hi=>?_⟩
   · rw [qFq,qew];exact hk
   · have h2:i<P.length:=by omega
     show hsN c.2.1 P N k i=true
     rw [qfV hi h2 (by omega)]
     have:=hget i hi
     rw [List.getElem?_eq_getElem h2] at this
     rw [soi this]
     exact (hbare i hi).2
theorem qFr {K:Iv} {P:List Su.Ce} (h1:P.length≤1000000) (h2:∀ x∈P,x.fm.2.2.1.length≤1000000):smS (mkS K P)=true:=by
 unfold smS
 rw [Bool.and_eq_true]
 exact ⟨Nat.ble_eq_true_of_le h1,List.all_eq_true.2 fun x hx=>Nat.ble_eq_true_of_le (h2 x hx)⟩
theorem qAa (x:Su.Ce) (t:Int):(qo x t).fm.2.2.1.length≤x.fm.2.2.1.length:=by
 unfold qo
 cases decide (t=1) with
 | true=>exact Nat.zero_le _
 | false =>
  cases decide (t=2) with
  | true=>exact Nat.zero_le _
  | false =>
   cases decide (t=3) with
   | true=>exact Nat.le_refl _
   | false=>exact Nat.zero_le _
theorem qqT {c:CoD} {l:List StD} (h:qa3 c l=false):c.2.1.length≤40∧∀ s∈l,s.2.2.2.2.length≤40∧∀ x∈s.2.2.2.2,x.fm.2.2.1.length≤8:=by
 unfold qa3 at h
 by_cases h1:40<(c.2.1.length:Int)
 · rw [qz (decide_eq_true h1)] at h;cases h
 · rw [qt (decide_eq_false h1)] at h
   have h:Yv l.length (Yw l)=true:=by
    cases ha:Yv l.length (Yw l) with
    | true=>rfl
    | false=>rw [ha] at h;cases h
   refine ⟨by omega,fun s hs=>?_⟩
   obtain ⟨i,hi,rfl⟩:=List.mem_iff_getElem.1 hs
   have:=Jc.1 h i hi
   unfold Yw at this
   rw [List.getElem?_eq_getElem hi] at this
   simp only [Bool.and_eq_true,Bool.not_eq_true',decide_eq_false_iff_not] at this
   have h9 : ¬ 40<((l[i].2.2.2.2.length:Nat):Int):=this.1
   refine ⟨by omega,fun x hx=>?_⟩
   obtain ⟨j,hj,rfl⟩:=List.mem_iff_getElem.1 hx
   have:=Jc.1 this.2 j hj
   unfold qa2 at this
   rw [List.getElem?_eq_getElem hj] at this
   simp only [Bool.not_eq_true',decide_eq_false_iff_not] at this
   omega
theorem qve {s:StD} (h1:s.2.2.2.2.length≤40) (h2:∀ x∈s.2.2.2.2,x.fm.2.2.1.length≤8):smS s=true:=by
 unfold smS
 rw [Bool.and_eq_true]
 exact ⟨Nat.ble_eq_true_of_le (by omega),List.all_eq_true.2 fun x hx=>Nat.ble_eq_true_of_le (by have:=h2 x hx;omega)⟩
end
end Su
end
section
namespace Su
open Go Fly
set_option linter.unusedVariables false
noncomputable section
@[irreducible] def PS:Nat:=2^SH
def sgV (neg:Bool) (n:Nat):Int:=bif neg then -(n:Int) else (n:Int)
structure SumP (a b:Nat) (mode:Int) (r:Nat):Prop where
 got:(bK r≤qgb∧fv r=fv a+fv b)∨∃ neg M E,M≠0∧r=RN neg mode M E false∧sgV neg (M*2^E)=(fv a+fv b)*(PS:Int)
theorem qfW {n:Nat} (h:n<18446744073709551616):Fw (n:Int):=⟨Int.natCast_nonneg _,by omega⟩
theorem qdV {a:Int} (h:Fw a):a.toNat<18446744073709551616:=by obtain ⟨h1,h2⟩:=h;omega
theorem qvf:Fw 0:=⟨by decide,by decide⟩
theorem qi2 {a b:Int} (ha:Fw a) (hb:Fw b) (m:Int):Fw (qzp a b m):=qfW (qou (qdV ha) (qdV hb) m)
theorem qFs {a:Int} (ha:Fw a):Fw (qqB a):=qfW (qyB (qdV ha))
theorem qFt {a:Int} (ha:Fw a):Fw (qE1 a):=qfW (by
 unfold qfq
 have:=qfs a.toNat
 have:=qdV ha
 cases qU (bK a.toNat) <;> simp only [cond_true,cond_false] <;> omega)
theorem qCQ {x y:Int} (hx:Fw x) (hy:Fw y):Fw (upI [x,y]):=qi2 (qi2 qvf hx 1) hy 1
theorem qvg:∀ {l:List Tm} {s:Int},Fw s→(∀ t∈l,Fw t.c)→Fw (qqE l s)
 | [],s,h,_=>h
 | t::l,s,h,hl=>by
  unfold qqE
  exact qvg (qCQ h (qFt (hl t (List.mem_cons_self ..)))) fun u hu=>hl u (List.mem_cons_of_mem _ hu)
structure FmW (a:Fm):Prop where
 mid:Fw a.2.1
 err:Fw a.2.2.2
 tms:∀ t∈a.2.2.1,Fw t.c
theorem qvh {a:Fm} (h:FmW a):Fw (qqF a):=by
 rw [qoA]
 cases okF a with
 | false =>
  show Fw 9218868437227405312
  exact ⟨by decide,by decide⟩
 | true=>exact qCQ (qvg qvf h.tms) h.err
theorem qo6 {a:Fm} (h:FmW a):SpW (Jb a):=by
 unfold Jb
 cases okF a with
 | false =>
  show SpW (false,(18442240474082181120,9218868437227405312))
  exact ⟨⟨by decide,by decide⟩,⟨by decide,by decide⟩⟩
 | true=>exact (Jd (s:=(false,(_,_))) ⟨qi2 h.mid (qFs (qvh h)) 2,qi2 h.mid (qvh h) 1⟩).w
theorem qHG {a b:Int} (ha:Fw a) (hb:Fw b):Fw (mxI a b):=qfW (qzg _ _ (qdV ha) (qdV hb))
theorem qHH {a b:Int} (ha:Fw a) (hb:Fw b):Fw (mnI a b):=qfW (by
 have h1:=qdV ha
 have h2:=qdV hb
 unfold qkD
 cases (qU (bK a.toNat)||qU (bK b.toNat)) with
 | true=>rw [cond_true];decide
 | false=>cases Qt b.toNat a.toNat <;> simp only [cond_true,cond_false] <;> assumption)
theorem qCR {a b:Spn} (ha:SpW a) (hb:SpW b):SpW (Jl a b):=by
 unfold Jl
 have h1:=(Jd ha).w
 have h2:=(Jd hb).w
 cases ((qr a).1||(qr b).1) with
 | true =>
  show SpW qb5
  exact ⟨⟨by decide,by decide⟩,⟨by decide,by decide⟩⟩
 | false=>exact (Jd (s:=(false,(_,_))) ⟨qHG h1.1 h2.1,qHH h1.2 h2.2⟩).w
end
end Su
end
