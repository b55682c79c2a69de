/-
  What functions of the program compute, in plain Lean, and that the evaluator finds it.
-/
import Derived.Test.YtfckjjffdfkelaaGreatSuSd
import Derived.Test.YtfckjjffdfkelaaGreatRb
set_option maxRecDepth 10000
section
namespace Su
open Go Fly
set_option linter.unusedVariables false
noncomputable section
def qmR  (f:Int):Option (Bool×(Int×Int)) :=
 some ((decide (((Int.fdiv f (2^63))=1))),((IntKind.wrap .i64 (Fly.qB Go.BinOp.and .u64 (Int.fdiv f (2^52)) 2047)),(Fly.qB Go.BinOp.and .u64 f 4503599627370495)))
def qsU  (neg:Bool) (exp:Int) (frac:Int):Option (Int×Int) :=
 (bif (decide ((exp<0))) then
 some ((0:Int),(1:Int))
 else
  (bif (decide ((2047<exp))) then
  some ((0:Int),(1:Int))
 else
  (bif (decide ((4503599627370495<frac))) then
  some ((0:Int),(1:Int))
 else
  (bif neg then
  some ((Fly.qB Go.BinOp.or .u64 (Fly.qB Go.BinOp.or .u64 (IntKind.wrap .u64 ((IntKind.wrap .u64 exp)*(2^52))) frac) 9223372036854775808),(0:Int))
 else
  some ((Fly.qB Go.BinOp.or .u64 (IntKind.wrap .u64 ((IntKind.wrap .u64 exp)*(2^52))) frac),(0:Int))))))
def qkY (f:Int):Option (Bool×(Int×Int)):=some (bS f.toNat,((bK f.toNat / 4503599627370496:Nat):Int),((f.toNat % 4503599627370496:Nat):Int))
theorem qmS (f:Nat) (h:f<18446744073709551616):decide (Int.fdiv (f:Int) (2^63)=1)=bS f:=by
 rw [JE]
 refine bB ?_
 rw [ZK]
 constructor
 · intro h;have:f / 2^63=1:=by omega
   rw [this];rfl
 · intro h;omega
theorem qFx (f:Nat) (h:f<18446744073709551616):IntKind.i64.wrap (qB .and .u64 (Int.fdiv (f:Int) (2^52)) 2047)=((bK f / 4503599627370496:Nat):Int):=by
 have h1:=qcr (f / 2^52) 2047 11 rfl (by omega) (by omega)
 rw [JE,show (2047:Int)=((2047:Nat):Int) from rfl,h1]
 unfold bK
 rw [w64 (by omega) (by omega)]
 congr 1;omega
theorem qCy (f:Nat) (h:f<18446744073709551616):qB .and .u64 (f:Int) 4503599627370495=((f % 4503599627370496:Nat):Int):=qcr f 4503599627370495 52 rfl h (by omega)
theorem qqs (f:Int) (y:Bool×(Int×Int)) (hg:(d1 (cI .u64)).good f) (h:qkY f=some y):qmR f=some y:=by
 obtain ⟨n,rfl,hn⟩:=jf hg
 have:=soi h;subst this
 unfold qmR
 rw [qmS n hn,qFx n hn,qCy n hn,Int.toNat_natCast]
def ZL (p:Bool×(Int×Int)):Option (Int×Int):=bif decide (0≤p.2.1)&&decide (p.2.1≤2047)&&decide (p.2.2≤4503599627370495) then some (((sgN p.1+4503599627370496*p.2.1.toNat+p.2.2.toNat:Nat):Int),0) else some (0,1)
theorem qsV (p:Bool×(Int×Int)) (y:Int×Int) (hg:(dc cB (dc (cI .i64) (d1 (cI .u64)))).good p) (h:ZL p=some y):qsU p.1 p.2.1 p.2.2=some y:=by
 obtain ⟨neg,e,fr⟩:=p
 obtain ⟨_,he,hf⟩:=hg
 have he:=YP.1 he
 obtain ⟨F,rfl,hF⟩:=jf hf
 unfold ZL at h
 unfold qsU
 simp only [] at h ⊢
 by_cases h1:e<0
 · rw [decide_eq_false (show ¬ (0:Int)≤e by omega)] at h
   rw [decide_eq_true h1];exact h
 · rw [decide_eq_true (show (0:Int)≤e by omega)] at h
   rw [decide_eq_false h1,cond_false]
   by_cases h2:2047<e
   · rw [decide_eq_false (show ¬ e≤2047 by omega)] at h
     rw [decide_eq_true h2];exact h
   · rw [decide_eq_true (show e≤2047 by omega)] at h
     rw [decide_eq_false h2,cond_false]
     by_cases h3:(4503599627370495:Int)<(F:Int)
     · rw [decide_eq_false (show ¬ (F:Int)≤4503599627370495 by omega)] at h
       rw [decide_eq_true h3];exact h
     · rw [decide_eq_true (show (F:Int)≤4503599627370495 by omega)] at h
       rw [decide_eq_false h3,cond_false]
       obtain ⟨E,rfl⟩:∃ E:Nat,e=(E:Int):=⟨e.toNat,by omega⟩
       have e1:IntKind.u64.wrap (E:Int)=(E:Int):=jZ (by omega) (by omega)
       have e2:IntKind.u64.wrap ((E:Int)*2^52)=((E*2^52:Nat):Int):=by
        rw [show (2:Int)^52=((2^52:Nat):Int) from rfl,← Int.natCast_mul];exact jZ (by omega) (by omega)
       have e3:qB .or .u64 ((E*2^52:Nat):Int) (F:Int)=((E*2^52+F:Nat):Int):=by
        rw [qcq _ _ (by omega) hF,qeN (by omega)]
       rw [e1,e2,e3]
       have h:=soi h;subst h
       cases neg with
       | true =>
        rw [cond_true,qxL _ (by omega)]
        simp [sgN];omega
       | false=>simp [sgN];omega
end
end Su
end
section
namespace Su
open Go Fly
set_option linter.unusedVariables false
noncomputable section
def qmT  (f:Int):Option Int :=
 (bif (decide ((((((bK (Int.toNat f)) / 4503599627370496):Nat):Int)=2047))) then
 (bif (decide ((((((Int.toNat f) % 4503599627370496):Nat):Int)=0))) then
 some 3
 else
  (bif (decide ((((((bK (Int.toNat f)) / 4503599627370496):Nat):Int)=2047))) then
  some 4
 else
  (bif (decide ((((((bK (Int.toNat f)) / 4503599627370496):Nat):Int)=0))) then
  (bif (decide ((((((Int.toNat f) % 4503599627370496):Nat):Int)=0))) then
  some 0
 else
  (bif (decide ((((((bK (Int.toNat f)) / 4503599627370496):Nat):Int)=0))) then
  some 1
 else
  some 2))
 else
  (bif (decide ((((((bK (Int.toNat f)) / 4503599627370496):Nat):Int)=0))) then
  some 1
 else
  some 2))))
 else
  (bif (decide ((((((bK (Int.toNat f)) / 4503599627370496):Nat):Int)=2047))) then
  some 4
 else
  (bif (decide ((((((bK (Int.toNat f)) / 4503599627370496):Nat):Int)=0))) then
  (bif (decide ((((((Int.toNat f) % 4503599627370496):Nat):Int)=0))) then
  some 0
 else
  (bif (decide ((((((bK (Int.toNat f)) / 4503599627370496):Nat):Int)=0))) then
  some 1
 else
  some 2))
 else
  (bif (decide ((((((bK (Int.toNat f)) / 4503599627370496):Nat):Int)=0))) then
  some 1
 else
  some 2))))
def qCz  (f:Int):Option Int :=
 (bif (decide (((Int.fdiv f (2^63))=1))) then
 some (IntKind.wrap .i64 (0-(IntKind.wrap .i64 (Fly.qB Go.BinOp.andNot .u64 f 9223372036854775808))))
 else
  some (IntKind.wrap .i64 (Fly.qB Go.BinOp.andNot .u64 f 9223372036854775808)))
def pInf  (neg:Bool):Option Int :=
 some (((((sgN neg)+(4503599627370496*(Int.toNat 2047)))+(Int.toNat 0)):Nat):Int)
def qsW :Option Int :=
 some 9221120237041090560
def qkZ (f:Int):Option Int:=some (qD (bK f.toNat):Int)
theorem qqt (f:Int) (y:Int) (hg:(d1 (cI .u64)).good f) (h:qkZ f=some y):qmT f=some y:=by
 obtain ⟨n,rfl,hn⟩:=jf hg
 have:=soi h;subst this
 unfold qmT
 have hk:bK n=bK n / 4503599627370496*4503599627370496+n % 4503599627370496:=by unfold bK;omega
 have he:bK n / 4503599627370496≤2047:=by have:=qfX n;omega
 have hf:n % 4503599627370496<4503599627370496:=Nat.mod_lt _ (by decide)
 have hc:qD (bK n)=_:=(congrArg qD hk).trans (qxO he hf)
 rw [Int.toNat_natCast,hc]
 generalize bK n / 4503599627370496=e at *
 generalize n % 4503599627370496=f at *
 rw [show (2047:Int)=((2047:Nat):Int) from rfl,show (0:Int)=((0:Nat):Int) from rfl]
 simp only [qbE,qct]
 by_cases h1:e=2047
 · by_cases h2:f=0 <;> simp [h1,h2]
 · by_cases h3:e=0
   · by_cases h2:f=0 <;> simp [h3,h2]
   · simp [h1,h3]
def qsX (f:Int):Option Int:=some (JF f.toNat)
theorem qxR (f:Int) (y:Int) (hg:(d1 (cI .u64)).good f) (h:qsX f=some y):qCz f=some y:=by
 obtain ⟨n,rfl,hn⟩:=jf hg
 have:=soi h;subst this
 unfold qCz
 have hl:=qfX n
 rw [qmS n hn,qho n hn,Int.toNat_natCast]
 unfold JF
 rw [show n % 9223372036854775808=bK n from rfl]
 have e1:IntKind.i64.wrap (bK n:Int)=(bK n:Int):=w64 (by omega) (by omega)
 rw [e1]
 cases bS n with
 | true=>rw [cond_true,cond_true,w64 (by omega) (by omega),Int.zero_sub]
 | false=>rfl
def qsY (neg:Bool):Option Int:=some ((sgN neg+9218868437227405312:Nat):Int)
theorem qxS (neg:Bool) (y:Int) (hg:(d1 cB).good neg) (h:qsY neg=some y):pInf neg=some y:=by
 have:=soi h;subst this
 cases neg <;> rfl
end
end Su
end
section
namespace Su
open Go Fly
set_option linter.unusedVariables false
noncomputable section
def qmU  (f:Int):Option (Int×Int) :=
 (bif (decide (((((qD (bK (Int.toNat f))):Nat):Int)=2))) then
 some ((Fly.qB Go.BinOp.or .u64 4503599627370496 ((((Int.toNat f) % 4503599627370496):Nat):Int)),(IntKind.wrap .i64 (((((bK (Int.toNat f)) / 4503599627370496):Nat):Int)-1075)))
 else
  (bif (decide (((((qD (bK (Int.toNat f))):Nat):Int)=1))) then
  some (((((Int.toNat f) % 4503599627370496):Nat):Int),(-1074))
 else
  some ((0:Int),(0:Int))))
def qCA  (f:Int):Option Bool :=
 some (decide (((((qD (bK (Int.toNat f))):Nat):Int)=4)))
def qk0 (f:Int):Option (Int×Int):=some ((spM (bK f.toNat):Int),spE (bK f.toNat))
theorem qqu (f:Int) (y:Int×Int) (hg:(d1 (cI .u64)).good f) (h:qk0 f=some y):qmU f=some y:=by
 obtain ⟨n,rfl,hn⟩:=jf hg
 have:=soi h;subst this
 unfold qmU
 rw [Int.toNat_natCast]
 have hk:bK n % 4503599627370496=n % 4503599627370496:=by unfold bK;omega
 have hl:=qfX n
 rw [← hk]
 generalize bK n=k at *
 have h2:decide (((qD k:Nat):Int)=2)=decide (4503599627370496≤k∧k≤9218868437227405311):=by
  rw [show (2:Int)=((2:Nat):Int) from rfl,qsS,Zi]
  (repeat' split) <;> simp <;> omega
 have h1:decide (((qD k:Nat):Int)=1)=decide (0<k∧k<4503599627370496):=by
  rw [show (1:Int)=((1:Nat):Int) from rfl,qsS,Zi]
  (repeat' split) <;> simp <;> omega
 rw [h2,h1]
 unfold spM spE
 by_cases c2:4503599627370496≤k∧k≤9218868437227405311
 · have hf:jK k=true:=jH.2 (by omega)
   have e1:qB .or .u64 4503599627370496 ((k % 4503599627370496:Nat):Int)=((kM k:Nat):Int):=by
    have:=qcq 4503599627370496 (k % 4503599627370496) (by omega) (by omega)
    rw [show ((4503599627370496:Nat):Int)=4503599627370496 from rfl] at this
    rw [this]
    have h3:=qeN (x:=k % 4503599627370496) (y:=1) (r:=52) (by omega)
    rw [show (1*2^52:Nat)=4503599627370496 from rfl] at h3
    rw [h3];unfold kM;rw [if_neg (by omega)];omega
   rw [decide_eq_true c2,cond_true,e1,hf,w64 (by omega) (by omega),beq_dec,decide_eq_false (by omega)]
   simp only [cond_true,Bool.not_false,Bool.and_self]
   unfold kE
   congr 2;omega
 · rw [decide_eq_false c2,cond_false]
   by_cases c1:0<k∧k<4503599627370496
   · have hf:jK k=true:=jH.2 (by omega)
     rw [decide_eq_true c1,cond_true,hf,beq_dec,decide_eq_false (by omega)]
     simp only [cond_true,Bool.not_false,Bool.and_self]
     unfold kE kM
     rw [if_pos (by omega),show k / 4503599627370496=0 by omega];rfl
   · rw [decide_eq_false c1,cond_false]
     by_cases c0:k=0
     · subst c0;rfl
     · have hf:jK k=false:=qkX.2 (by omega)
       rw [hf];rfl
def qsZ (f:Int):Option Bool:=some (qO (bK f.toNat))
theorem qxT (f:Int) (y:Bool) (hg:(d1 (cI .u64)).good f) (h:qsZ f=some y):qCA f=some y:=by
 have:=soi h;subst this
 unfold qCA
 rw [qeO]
end
end Su
end
section
namespace Su
open Go Fly
set_option linter.unusedVariables false
noncomputable section
def qCB  (a:Int) (b:Int):Option (Int×Bool) :=
 (bif (qO (bK (Int.toNat a))) then
 some ((0:Int),false)
 else
  (bif (qO (bK (Int.toNat b))) then
  some ((0:Int),false)
 else
  (bif (decide (((JF (Int.toNat a))<(JF (Int.toNat b))))) then
  some ((-1),true)
 else
  (bif (decide (((JF (Int.toNat b))<(JF (Int.toNat a))))) then
  some ((1:Int),true)
 else
  some ((0:Int),true)))))
def qCC  (f:Int):Option Int :=
 (bif (qO (bK (Int.toNat f))) then
 some f
 else
  some (Fly.qB Go.BinOp.xor .u64 f 9223372036854775808))
def qCD  (f:Int):Option Int :=
 (bif (qO (bK (Int.toNat f))) then
 some f
 else
  some (Fly.qB Go.BinOp.andNot .u64 f 9223372036854775808))
def qs0 (p:Int×Int):Option (Int×Bool):=some (qgB p.1.toNat p.2.toNat,qgA p.1.toNat p.2.toNat)
def qs1 (f:Int):Option Int:=some (jU f.toNat:Int)
def qs2 (f:Int):Option Int:=some (YK f.toNat:Int)
theorem qxU (p:Int×Int) (y:Int×Bool) (hg:(dc (cI .u64) (d1 (cI .u64))).good p) (h:qs0 p=some y):qCB p.1 p.2=some y:=by
 obtain ⟨a,b⟩:=p
 have:=soi h;subst this
 unfold qCB qgB qgA qxN
 cases qO (bK a.toNat) with
 | true=>rfl
 | false =>
  cases qO (bK b.toNat) with
  | true=>rfl
  | false =>
   simp only [cond_false,Bool.or_false]
   cases decide (JF a.toNat<JF b.toNat) with
   | true=>rfl
   | false=>cases decide (JF b.toNat<JF a.toNat) <;> rfl
theorem qxV (f:Int) (y:Int) (hg:(d1 (cI .u64)).good f) (h:qs1 f=some y):qCC f=some y:=by
 obtain ⟨n,rfl,hn⟩:=jf hg
 have:=soi h;subst this
 unfold qCC jU
 rw [Int.toNat_natCast,qxM n hn]
 cases qO (bK n) with
 | true=>rfl
 | false =>
  rw [cond_false,cond_false]
  cases hs:bS n with
  | true =>
   have:=ZK.1 hs
   rw [if_neg (by omega),cond_true];rfl
  | false =>
   have:=Yz.1 hs
   rw [if_pos (by omega),cond_false]
theorem qxW (f:Int) (y:Int) (hg:(d1 (cI .u64)).good f) (h:qs2 f=some y):qCD f=some y:=by
 obtain ⟨n,rfl,hn⟩:=jf hg
 have:=soi h;subst this
 unfold qCD YK
 rw [Int.toNat_natCast,qho n hn]
 cases qO (bK n) <;> rfl
end
end Su
end
section
namespace Su
open Go Fly
set_option linter.unusedVariables false
noncomputable section
def qs3  (a:Int) (b:Int):Option Bool :=
 (bif (qgA (Int.toNat a) (Int.toNat b)) then
 some (decide (((qgB (Int.toNat a) (Int.toNat b))<0)))
 else
  some false)
def qon (p:Int×Int):Option Bool:=some (Q3 p.1.toNat p.2.toNat)
theorem qs4 (p:Int×Int) (y:Bool) (hg:(dc (cI .u64) (d1 (cI .u64))).good p) (h:qon p=some y):qs3 p.1 p.2=some y:=by
 have:=soi h;subst this
 unfold qs3 Q3
 cases qgA p.1.toNat p.2.toNat <;> rfl
end
end Su
end
section
namespace Su
open Go Fly
set_option linter.unusedVariables false
noncomputable section
def At  (a:(List Int)) (i:Int):Option Int :=
 (bif (decide ((i<(((List.length a):Nat):Int)))) then
 ((idx a i)).bind fun x0 =>
 some (IntKind.wrap .u64 x0)
 else
  some 0)
end
end Su
end
section
namespace Su
open Go Fly
set_option linter.unusedVariables false
noncomputable section
def qcv:((List Int)×Unit)→Option (((List Int)×Unit) ⊕ ((List Int)×Unit)):=fun p0=>(bif (decide ((0<(((List.length p0.1):Nat):Int)))) then
 ((idx p0.1 (IntKind.wrap .i64 ((((List.length p0.1):Nat):Int)-1)))).bind fun x1 =>
 (bif (decide ((x1=0))) then
 (bif (true&&((true&&(decide ((0≤(IntKind.wrap .i64 ((((List.length p0.1):Nat):Int)-1))))))&&(decide (((IntKind.wrap .i64 ((((List.length p0.1):Nat):Int)-1))≤(((List.length p0.1):Nat):Int)))))) then
 some (.inl ((List.take (Int.toNat ((IntKind.wrap .i64 ((((List.length p0.1):Nat):Int)-1))-0)) (List.drop 0 p0.1)),()))
 else
  none)
 else
  some (.inr (p0.1,())))
 else
  some (.inr (p0.1,())))
def qCE  (fu:Nat) (a:(List Int)):Option (List Int) :=
 (itP fu (qcv) (a,())).bind fun x2 =>
 some x2.1
def qa:List Int→Nat
 | []=>0
 | x::l=>x.toNat+4294967296*qa l
def ofF:Nat→Nat→List Int
 | 0,_=>[]
 | k+1,n=>if n=0 then [] else ((n % 4294967296:Nat):Int)::ofF k (n / 4294967296)
def ofN (n:Nat):List Int:=ofF (n.log2 / 32+1) n
theorem qs5:∀ (k j n:Nat),n<4294967296^k→n<4294967296^j→ofF k n=ofF j n
 | 0,0,_,_,_=>rfl
 | 0,j+1,n,h,_=>by
  have:n=0:=by simpa using h
  subst this;rfl
 | k+1,0,n,_,h=>by
  have:n=0:=by simpa using h
  subst this;rfl
 | k+1,j+1,n,h1,h2=>by
  unfold ofF
  by_cases h0:n=0
  · simp [h0]
  · simp only [h0,if_false]
    rw [qs5 k j (n / 4294967296)]
    · rw [Nat.pow_succ] at h1;exact Nat.div_lt_of_lt_mul (by rw [Nat.mul_comm];exact h1)
    · rw [Nat.pow_succ] at h2;exact Nat.div_lt_of_lt_mul (by rw [Nat.mul_comm];exact h2)
theorem qiT (n:Nat):n<4294967296^(n.log2 / 32+1):=by
 have h:=@Nat.lt_log2_self n
 have e:(4294967296:Nat)^(n.log2 / 32+1)=2^(32*(n.log2 / 32+1)):=by rw [Nat.pow_mul]
 rw [e]
 exact Nat.lt_of_lt_of_le h (Nat.pow_le_pow_right (by omega) (by omega))
theorem YB:ofN 0=[]:=rfl
theorem qk1 {n:Nat} (h:n≠0):ofN n=((n % 4294967296:Nat):Int)::ofN (n / 4294967296):=by
 have:ofN n=ofF (n.log2 / 32+1) n:=rfl
 rw [this]
 unfold ofF
 rw [if_neg h]
 congr 1
 have hl:=qiT n
 rw [Nat.pow_succ] at hl
 exact qs5 _ _ _ (Nat.div_lt_of_lt_mul (by rw [Nat.mul_comm];exact hl)) (qiT _)
def Wd (l:List Int):Prop:=∀ x∈l,0≤x∧x<4294967296
theorem Wd.nil:Wd []:=fun _ h=>by cases h
theorem Wd.cons {x:Int} {l:List Int} (h0:0≤x) (h1:x<4294967296) (h:Wd l):Wd (x::l):=fun y hy=>by
 rcases List.mem_cons.1 hy with rfl | hy
 · exact ⟨h0,h1⟩
 · exact h y hy
theorem Wd.tail {x:Int} {l:List Int} (h:Wd (x::l)):Wd l:=fun y hy=>h y (List.mem_cons_of_mem _ hy)
theorem Wd.head {x:Int} {l:List Int} (h:Wd (x::l)):0≤x∧x<4294967296:=h x (List.mem_cons_self ..)
theorem Wd.app {a b:List Int} (h:Wd a) (h':Wd b):Wd (a++b):=fun x hx=>by
 rcases List.mem_append.1 hx with hx | hx
 · exact h x hx
 · exact h' x hx
theorem Wd.left {a b:List Int} (h:Wd (a++b)):Wd a:=fun x hx=>h x (List.mem_append_left _ hx)
theorem Wd.right {a b:List Int} (h:Wd (a++b)):Wd b:=fun x hx=>h x (List.mem_append_right _ hx)
theorem Wd.of {l:List Int} (h:∀ x∈l,gU 1 x):Wd l:=fun x hx=>qeK.1 (h x hx)
theorem yu:∀ (a b:List Int),qa (a++b)=qa a+4294967296^a.length*qa b
 | [],b=>by simp [qa]
 | x::a,b=>by simp only [List.cons_append,qa,yu a b,List.length_cons,Nat.pow_succ];rw [Nat.mul_add,← Nat.mul_assoc,Nat.mul_comm 4294967296 (4294967296^a.length)];omega
theorem qk2 {x:Int} {n:Nat} (h0:0≤x) (h1:x<4294967296) (h:x.toNat+4294967296*n≠0):ofN (x.toNat+4294967296*n)=x::ofN n:=by
 rw [qk1 h]
 have e1:(x.toNat+4294967296*n) % 4294967296=x.toNat:=by omega
 have e2:(x.toNat+4294967296*n) / 4294967296=n:=by omega
 rw [e1,e2]
 congr 1;omega
theorem qk3:∀ (k n:Nat),n<4294967296^k→qa (ofF k n)=n
 | 0,n,h=>by
  have:n=0:=by simpa using h
  subst this;rfl
 | k+1,n,h=>by
  unfold ofF
  by_cases h0:n=0
  · simp [h0,qa]
  · simp only [h0,if_false,qa]
    rw [qk3 k _ (by rw [Nat.pow_succ] at h;exact Nat.div_lt_of_lt_mul (by rw [Nat.mul_comm];exact h))]
    omega
@[simp] theorem valN_ofN (n:Nat):qa (ofN n)=n:=qk3 _ _ (qiT n)
theorem qs6:∀ (k n:Nat),Wd (ofF k n)
 | 0,_=>.nil
 | k+1,n=>by
  unfold ofF
  split
  · exact .nil
  · exact .cons (by omega) (by omega) (qs6 k _)
theorem ZM (n:Nat):Wd (ofN n):=qs6 _ _
theorem qoo:∀ (l:List Int),Wd l→l.getLast?≠some 0→ofN (qa l)=l
 | [],_,_=>rfl
 | [x],h,hl=>by
  have:=h.head
  have hx:x≠0:=fun e=>hl (by simp [e])
  simp only [qa,Nat.mul_zero]
  have:=qk2 (x:=x) (n:=0) this.1 this.2 (by omega)
  simpa [YB] using this
 | x::y::l,h,hl=>by
  have hl':(y::l).getLast?≠some 0:=by rwa [List.getLast?_cons_cons] at hl
  have ih:=qoo (y::l) h.tail hl'
  have hnz:qa (y::l)≠0:=fun e=>by rw [e,YB] at ih;cases ih
  show ofN (x.toNat+4294967296*qa (y::l))=_
  rw [qk2 h.head.1 h.head.2 (by omega),ih]
theorem qiU (l:List Int):qa (l++[0])=qa l:=by rw [yu];simp [qa]
theorem qhp (q:Unit):∀ (k:Nat) (l:List Int),l.length=k→Wd l→k≤maxLen→∃ n,itP n qcv (l,q)=some (ofN (qa l),q)
 | 0,l,hk,_,_=>by
  have:=List.length_eq_zero_iff.1 hk;subst this
  exact Qp (by simp [qcv,qa,YB])
 | k+1,l,hk,hw,hm=>by
  rw [jQ] at hm
  rcases List.eq_nil_or_concat l with rfl | ⟨l',x,rfl⟩
  · simp at hk
  · simp only [List.concat_eq_append,List.length_append,List.length_cons,List.length_nil] at hk hw ⊢
    have hlen:l'.length=k:=by omega
    have hx:=hw.right.head
    have e1:IntKind.i64.wrap (((l'++[x]).length:Int)-1)=(l'.length:Int):=by rw [w64] <;> simp <;> omega
    by_cases h0:x=0
    · subst h0
      refine Qk (s':=(l',q)) ?_ (by rw [qiU];exact qhp q k l' hlen hw.left (by rw [jQ];omega))
      simp only [qcv,e1]
      simp [jJ]
      rw [decide_eq_true (by omega)]
      rfl
    · have hv:ofN (qa (l'++[x]))=l'++[x]:=qoo _ hw (by simp [h0])
      rw [hv]
      refine Qp ?_
      simp only [qcv,e1]
      simp [jJ,h0]
def qiV (a:List Int):Option (List Int):=some (ofN (qa a))
theorem qxX (a y:List Int) (hg:(d1 (cQ 1 1)).good a) (h:qiV a=some y):∃ n,qCE n a=some y:=by
 obtain ⟨n,hn⟩:=qhp () a.length a rfl (Wd.of hg.1) hg.2
 refine ⟨n,?_⟩
 have:=soi h;subst this
 unfold qCE
 rw [hn];rfl
end
end Su
end
section
namespace Su
open Go Fly
set_option linter.unusedVariables false
noncomputable section
def qiW:((List Int)×((List Int)×(Nat×(Int×(Int×(Int×((List T)×Unit)))))))→Option (((List Int)×((List Int)×(Nat×(Int×(Int×(Int×((List T)×Unit))))))) ⊕ ((List Int)×((List Int)×(Nat×(Int×(Int×(Int×((List T)×Unit)))))))):=fun p0=>(bif (decide ((p0.2.2.2.2.2.1<p0.2.2.2.2.1))) then
 ((At p0.1 p0.2.2.2.2.2.1)).bind fun x1 =>
 ((At p0.2.1 p0.2.2.2.2.2.1)).bind fun x2 =>
 (bif ((true&&(Nat.beq p0.2.2.1 (List.length p0.2.2.2.2.2.2.1)))&&(Nat.ble ((List.length p0.2.2.2.2.2.2.1)+(List.length [(T.s (.int .u32 (IntKind.wrap .u32 (IntKind.wrap .u64 (p0.2.2.2.1+(IntKind.wrap .u64 (x1+x2)))))))])) 549755813888)) then
 some (.inl (p0.1,(p0.2.1,((List.length (p0.2.2.2.2.2.2.1++[(T.s (.int .u32 (IntKind.wrap .u32 (IntKind.wrap .u64 (p0.2.2.2.1+(IntKind.wrap .u64 (x1+x2)))))))])),((Int.fdiv (IntKind.wrap .u64 (p0.2.2.2.1+(IntKind.wrap .u64 (x1+x2)))) (2^32)),(p0.2.2.2.2.1,((IntKind.wrap .i64 (p0.2.2.2.2.2.1+1)),((p0.2.2.2.2.2.2.1++[(T.s (.int .u32 (IntKind.wrap .u32 (IntKind.wrap .u64 (p0.2.2.2.1+(IntKind.wrap .u64 (x1+x2)))))))]),()))))))))
 else
  none)
 else
  some (.inr (p0.1,(p0.2.1,(p0.2.2.1,(p0.2.2.2.1,(p0.2.2.2.2.1,(p0.2.2.2.2.2.1,(p0.2.2.2.2.2.2.1,())))))))))
def Add  (fu:Nat) (a:(List Int)) (b:(List Int)):Option (List Int) :=
 (itP fu (qiW) (a,(b,(0,((0:Int),((max (((List.length a):Nat):Int) (((List.length b):Nat):Int)),((0:Int),([],())))))))).bind fun x3 =>
 (bif ((true&&(Nat.beq x3.2.2.1 (List.length x3.2.2.2.2.2.2.1)))&&(Nat.ble ((List.length x3.2.2.2.2.2.2.1)+(List.length [(T.s (.int .u32 (IntKind.wrap .u32 x3.2.2.2.1)))])) 549755813888)) then
 ((Su.sub (x3.2.2.2.2.2.2.1++[(T.s (.int .u32 (IntKind.wrap .u32 x3.2.2.2.1)))]) 0 (List.length (x3.2.2.2.2.2.2.1++[(T.s (.int .u32 (IntKind.wrap .u32 x3.2.2.2.1)))])))).bind fun x4 =>
 ((Su.sub (x3.2.2.2.2.2.2.1++[(T.s (.int .u32 (IntKind.wrap .u32 x3.2.2.2.1)))]) 0 (List.length (x3.2.2.2.2.2.2.1++[(T.s (.int .u32 (IntKind.wrap .u32 x3.2.2.2.1)))])))).bind fun x5 =>
 (((jz 1 x4)).bind fun x6 =>
 some (ofN (qa x6))).bind fun x7 =>
 some x7
 else
  none)
def qbF:((List Int)×((List Int)×(Int×Unit)))→Option (((List Int)×((List Int)×(Int×Unit))) ⊕ (Lp ((List Int)×((List Int)×(Int×Unit))) Int)):=fun p0=>(bif (decide ((0≤p0.2.2.1))) then
 ((At p0.1 p0.2.2.1)).bind fun x1 =>
 ((At p0.2.1 p0.2.2.1)).bind fun x2 =>
 (bif (!(decide ((x1=x2)))) then
 (bif (decide ((x1<x2))) then
 some (.inr (.ret (-1)))
 else
  some (.inr (.ret 1)))
 else
  some (.inl (p0.1,(p0.2.1,((IntKind.wrap .i64 (p0.2.2.1-1)),())))))
 else
  some (.inr (.exit 0 (p0.1,(p0.2.1,(p0.2.2.1,()))))))
def Cmp  (fu:Nat) (a:(List Int)) (b:(List Int)):Option Int :=
 (itP fu (qbF) (a,(b,((IntKind.wrap .i64 ((max (((List.length a):Nat):Int) (((List.length b):Nat):Int))-1)),())))).bind fun x3 =>
 (match x3 with
 | .exit i4 p5=>(bif (Nat.beq i4 0) then
  some 0
 else
  none)
 | .ret o6=>some o6)
def New  (x:Int):Option (List Int) :=
 some (ofN (qa [(IntKind.wrap .u32 x),(IntKind.wrap .u32 (Int.fdiv x (2^32)))]))
def YC:ByteArray:=⟨⟨[0,1,2,2,3,3,3,3,4,4,4,4,4,4,4,4,5,5,5,5,5,5,5,5,5,5,5,5,5,5,5,5,6,6,6,6,6,6,6,6,6,6,6,6,6,6,6,6,6,6,6,6,6,6,6,6,6,6,6,6,6,6,6,6,7,7,7,7,7,7,7,7,7,7,7,7,7,7,7,7,7,7,7,7,7,7,7,7,7,7,7,7,7,7,7,7,7,7,7,7,7,7,7,7,7,7,7,7,7,7,7,7,7,7,7,7,7,7,7,7,7,7,7,7,7,7,7,7,8,8,8,8,8,8,8,8,8,8,8,8,8,8,8,8,8,8,8,8,8,8,8,8,8,8,8,8,8,8,8,8,8,8,8,8,8,8,8,8,8,8,8,8,8,8,8,8,8,8,8,8,8,8,8,8,8,8,8,8,8,8,8,8,8,8,8,8,8,8,8,8,8,8,8,8,8,8,8,8,8,8,8,8,8,8,8,8,8,8,8,8,8,8,8,8,8,8,8,8,8,8,8,8,8,8,8,8,8,8,8,8,8,8,8,8,8,8,8,8,8,8,8,8,8,8,8,8]⟩⟩
def qhq  (x:Int):Option Int :=
 (bif (decide ((65536≤x))) then
 (bif (decide ((256≤(Int.fdiv x (2^16))))) then
 (bif (decide ((0≤(IntKind.wrap .u8 (Int.fdiv (Int.fdiv x (2^16)) (2^8)))))) then
 ((YC)[(Int.toNat (IntKind.wrap .u8 (Int.fdiv (Int.fdiv x (2^16)) (2^8))))]?).bind fun x0 =>
 some (IntKind.wrap .i64 ((IntKind.wrap .i64 (16+8))+(IntKind.wrap .i64 (((UInt8.toNat x0):Nat):Int))))
 else
  none)
 else
  (bif (decide ((0≤(IntKind.wrap .u8 (Int.fdiv x (2^16)))))) then
  ((YC)[(Int.toNat (IntKind.wrap .u8 (Int.fdiv x (2^16))))]?).bind fun x1 =>
  some (IntKind.wrap .i64 (16+(IntKind.wrap .i64 (((UInt8.toNat x1):Nat):Int))))
 else
  none))
 else
  (bif (decide ((256≤x))) then
  (bif (decide ((0≤(IntKind.wrap .u8 (Int.fdiv x (2^8)))))) then
  ((YC)[(Int.toNat (IntKind.wrap .u8 (Int.fdiv x (2^8))))]?).bind fun x2 =>
  some (IntKind.wrap .i64 ((IntKind.wrap .i64 (0+8))+(IntKind.wrap .i64 (((UInt8.toNat x2):Nat):Int))))
 else
  none)
 else
  (bif (decide ((0≤(IntKind.wrap .u8 x)))) then
  ((YC)[(Int.toNat (IntKind.wrap .u8 x))]?).bind fun x3 =>
  some (IntKind.wrap .i64 (0+(IntKind.wrap .i64 (((UInt8.toNat x3):Nat):Int))))
 else
  none)))
def nth (a:List Int) (i:Nat):Int:=a[i]?.getD 0
theorem jW {a:List Int} (h:Wd a) (i:Nat):0≤nth a i∧nth a i<4294967296:=by
 unfold nth
 cases hi:a[i]? with
 | none=>exact ⟨Int.le_refl _,by decide⟩
 | some x=>exact h x (List.mem_of_getElem? hi)
theorem Ja {a:List Int} (h:Wd a) (i:Nat):At a (i:Int)=some (nth a i):=by
 unfold At nth
 by_cases hi:i<a.length
 · have hx:=h a[i] (List.getElem_mem hi)
   have e:((i:Int)<(a.length:Int)):=by omega
   simp only [jJ,List.getElem?_eq_getElem hi,decide_eq_true e,cond_true,Option.bind_some,Option.getD_some]
   rw [jZ hx.1 (by omega)]
 · have e : ¬ ((i:Int)<(a.length:Int)):=by omega
   rw [List.getElem?_eq_none (by omega),decide_eq_false e];rfl
theorem qM (a:List Int) (i:Nat):qa (a.take (i+1))=qa (a.take i)+4294967296^i*(nth a i).toNat:=by
 unfold nth
 by_cases hi:i<a.length
 · rw [List.take_succ_eq_append_getElem hi,yu,List.getElem?_eq_getElem hi]
   simp [qa,List.length_take,Nat.min_eq_left (Nat.le_of_lt hi)]
 · rw [List.take_of_length_le (by omega),List.take_of_length_le (by omega),List.getElem?_eq_none (by omega)];simp
theorem YQ (l:List T):sub l 0 l.length=some l:=by
 unfold sub
 rw [show Nat.ble (0+l.length) l.length=true by rw [Nat.ble_eq];omega]
 simp
theorem Jb (l:List Int):jz 1 (l.map fun x=>T.s (.int .u32 x))=some l:=qef (u:=1) (by decide) l
abbrev eW (x:Int):T:=T.s (.int .u32 x)
theorem qk4 (a b:List Int) (ha:Wd a) (hb:Wd b) (N:Nat) (hN:N≤549755813887):∀ (k i:Nat) (out:List Int) (c:Int),i+k=N→out.length=i→Wd out→0≤c→c≤1 →
 qa out+4294967296^i*c.toNat=qa (a.take i)+qa (b.take i) →
 ∃ (out':List Int) (c':Int),out'.length=N∧Wd out'∧0≤c'∧c'≤1∧qa out'+4294967296^N*c'.toNat=qa (a.take N)+qa (b.take N) ∧
  ∃ n,itP n qiW (a,(b,(i,(c,((N:Int),((i:Int),(out.map eW,())))))))=some (a,(b,(N,(c',((N:Int),((N:Int),(out'.map eW,())))))))
 | 0,i,out,c,hk,ho,hw,hc0,hc1,hv=>by
  have:i=N:=by omega
  subst this
  exact ⟨out,c,ho,hw,hc0,hc1,hv,Qp (by simp [qiW])⟩
 | k+1,i,out,c,hk,ho,hw,hc0,hc1,hv=>by
  have hi:(i:Int)<N:=by omega
  obtain ⟨x0,x1⟩:=jW ha i
  obtain ⟨y0,y1⟩:=jW hb i
  have e1:IntKind.u64.wrap (nth a i+nth b i)=nth a i+nth b i:=jZ (by omega) (by omega)
  have e2:IntKind.u64.wrap (c+(nth a i+nth b i))=c+(nth a i+nth b i):=jZ (by omega) (by omega)
  have e3:IntKind.i64.wrap ((i:Int)+1)=((i+1:Nat):Int):=by rw [w64 (by omega) (by omega)];rfl
  obtain ⟨s,hs⟩:∃ s:Nat,c+(nth a i+nth b i)=(s:Int):=⟨(c+(nth a i+nth b i)).toNat,by omega⟩
  have e6:IntKind.u64.wrap (s:Int)=(s:Int):=jZ (by omega) (by omega)
  have e4:IntKind.u32.wrap (s:Int)=((s % 4294967296:Nat):Int):=by rw [wrap_u32];omega
  have e5:Int.fdiv (s:Int) (2^32)=((s / 4294967296:Nat):Int):=by
   rw [Int.fdiv_eq_ediv_of_nonneg _ (by decide)];rfl
  obtain ⟨out',c',h1,h2,h3,h4,h5,h6⟩:=qk4 a b ha hb N hN k (i+1) (out++[((s % 4294967296:Nat):Int)]) ((s / 4294967296:Nat):Int) (by omega) (by simp [ho])
   (hw.app (.cons (by omega) (by omega) .nil)) (by omega) (by omega) (by
     rw [yu,qM,qM,ho]
     simp only [qa,Nat.mul_zero,Nat.add_zero,Int.toNat_natCast]
     have hp:4294967296^(i+1)*(s / 4294967296)+4294967296^i*(s % 4294967296)=4294967296^i*s:=by
      rw [Nat.pow_succ,Nat.mul_assoc,← Nat.mul_add];congr 1;omega
     have hq:4294967296^i*s=4294967296^i*c.toNat+4294967296^i*(nth a i).toNat+4294967296^i*(nth b i).toNat:=by
      rw [← Nat.mul_add,← Nat.mul_add];congr 1;omega
     omega)
  refine ⟨out',c',h1,h2,h3,h4,h5,Qk ?_ h6⟩
  simp only [qiW,Ja ha,Ja hb,Option.bind_some,e1,e3,hs,e6,e4,e5,decide_eq_true hi,cond_true]
  have hb1:Nat.beq i (out.map eW).length=true:=by rw [List.length_map,ho];exact Nat.beq_refl _
  have hb2:Nat.ble ((out.map eW).length+[eW ((s % 4294967296:Nat):Int)].length) 549755813888=true:=by
   rw [Nat.ble_eq,List.length_map,ho];simp;omega
  rw [hb1,hb2]
  simp [ho]
def sm (n:Nat):Bool:=Nat.ble n.log2 8796093022208
def qk5 (p:List Int×List Int):Option (List Int):=bif Nat.ble (max p.1.length p.2.length) 549755813887 then some (ofN (qa p.1+qa p.2)) else none
theorem qCF (p:List Int×List Int) (y:List Int) (hg:(dc (cQ 1 1) (d1 (cQ 1 1))).good p) (h:qk5 p=some y):∃ n,Add n p.1 p.2=some y:=by
 obtain ⟨a,b⟩:=p
 obtain ⟨⟨ha,la⟩,hb,lb⟩:=hg
 obtain ⟨hm,h⟩:=qj h
 have:=soi h;subst this
 have hm:=Nat.le_of_ble_eq_true hm
 obtain ⟨out,c,h1,h2,h3,h4,h5,n,h6⟩:=qk4 a b (Wd.of ha) (Wd.of hb) (max a.length b.length) hm (max a.length b.length) 0 [] 0 (by omega) rfl .nil (by omega) (by omega) (by simp [qa])
 refine ⟨n,?_⟩
 unfold Add
 have em:max (a.length:Int) (b.length:Int)=((max a.length b.length:Nat):Int):=by omega
 rw [em]
 rw [show (a,(b,(0,((0:Int),(((max a.length b.length:Nat):Int),((0:Int),(([]:List T),())))))))=(a,(b,(0,((0:Int),(((max a.length b.length:Nat):Int),(((0:Nat):Int),(([]:List Int).map eW,()))))))) from rfl,h6]
 simp only [Option.bind_some]
 have e4:IntKind.u32.wrap c=c:=qmP h3 (by omega)
 have hb1:Nat.beq (max a.length b.length) (out.map eW).length=true:=by rw [List.length_map,h1];exact Nat.beq_refl _
 have hb2:Nat.ble ((out.map eW).length+[eW c].length) 549755813888=true:=by
  rw [Nat.ble_eq,List.length_map,h1];simp;omega
 have hu:jz 1 (out.map eW++[eW c])=some (out++[c]):=by
  have:=Jb (out++[c])
  rwa [List.map_append] at this
 rw [e4,hb1,hb2]
 simp only [Bool.true_and,cond_true,YQ,Option.bind_some,hu]
 have hv:qa (out++[c])=qa a+qa b:=by
  rw [yu,h1]
  simp only [qa,Nat.mul_zero,Nat.add_zero]
  rw [h5,List.take_of_length_le (by omega),List.take_of_length_le (by omega)]
 show some (ofN (qa (out++[c])))=_
 rw [hv]
theorem qs7 (a b x y B:Nat) (hx:a<B) (hy:b<B) (hne:x≠y):JD (a+B*x) (b+B*y)=if x<y then -1 else 1:=by
 unfold JD
 by_cases h:x<y
 · have:B*x+B≤B*y:=by rw [← Nat.mul_succ];exact Nat.mul_le_mul_left _ h
   rw [if_pos (by omega),if_pos h]
 · have:B*y+B≤B*x:=by rw [← Nat.mul_succ];exact Nat.mul_le_mul_left _ (by omega)
   rw [if_neg (by omega),if_neg (by omega),if_neg h]
theorem jg:∀ (a:List Int),Wd a→qa a<4294967296^a.length
 | [],_=>by simp [qa]
 | x::a,h=>by
  have:=jg a h.tail
  have:=h.head
  simp only [qa,List.length_cons,Nat.pow_succ]
  omega
theorem yT {a:List Int} (h:Wd a) (i:Nat):qa (a.take i)<4294967296^i:=by
 have h1:=jg (a.take i) (fun x hx=>h x (List.mem_of_mem_take hx))
 exact Nat.lt_of_lt_of_le h1 (Nat.pow_le_pow_right (by omega) (by rw [List.length_take];omega))
def qmV (a b:List Int) (i:Nat) (o:Option (Lp (List Int×(List Int×(Int×Unit))) Int)):Prop :=
 (JD (qa (a.take i)) (qa (b.take i))=0∧o=some (.exit 0 (a,(b,(-1,())))))∨(JD (qa (a.take i)) (qa (b.take i))≠0∧o=some (.ret (JD (qa (a.take i)) (qa (b.take i)))))
theorem qk6 (a b:List Int) (ha:Wd a) (hb:Wd b):∀ (i:Nat),i≤9223372036854775807→∃ n,qmV a b i (itP n qbF (a,(b,((i:Int)-1,()))))
 | 0,_=>⟨1,.inl ⟨by simp [JD,qa],by simp [itP,qbF]⟩⟩
 | i+1,hi=>by
  obtain ⟨x0,x1⟩:=jW ha i
  obtain ⟨y0,y1⟩:=jW hb i
  have e0:((i+1:Nat):Int)-1=(i:Int):=by omega
  rw [e0]
  have e3:IntKind.i64.wrap ((i:Int)-1)=(i:Int)-1:=w64 (by omega) (by omega)
  by_cases hxy:nth a i=nth b i
  · obtain ⟨n,hn⟩:=qk6 a b ha hb i (by omega)
    refine ⟨n+1,?_⟩
    have hst:qbF (a,(b,((i:Int),())))=some (.inl (a,(b,((i:Int)-1,())))):=by
     simp [qbF,Ja ha,Ja hb,hxy,e3]
    rw [qA,hst]
    have he:JD (qa (a.take (i+1))) (qa (b.take (i+1)))=JD (qa (a.take i)) (qa (b.take i)):=by
     rw [qM,qM,hxy];unfold JD;simp
    unfold qmV at hn ⊢
    rw [he];exact hn
  · refine ⟨1,.inr ?_⟩
    have he:=qs7 (qa (a.take i)) (qa (b.take i)) (nth a i).toNat (nth b i).toNat (4294967296^i) (yT ha i) (yT hb i) (by omega)
    rw [← qM,← qM] at he
    rw [he,qA]
    by_cases hlt:nth a i<nth b i
    · rw [if_pos (by omega)]
      exact ⟨by decide,by simp [qbF,Ja ha,Ja hb,hxy,hlt]⟩
    · rw [if_neg (by omega)]
      exact ⟨by decide,by simp [qbF,Ja ha,Ja hb,hxy,hlt]⟩
def qAZ (p:List Int×List Int):Option Int:=some (JD (qa p.1) (qa p.2))
theorem qCG (p:List Int×List Int) (y:Int) (hg:(dc (cQ 1 1) (d1 (cQ 1 1))).good p) (h:qAZ p=some y):∃ n,Cmp n p.1 p.2=some y:=by
 obtain ⟨a,b⟩:=p
 obtain ⟨⟨ha,la⟩,hb,lb⟩:=hg
 have:=soi h;subst this
 have la':a.length≤9223372036854775807:=by have:=la;rw [jQ] at this;exact this
 have lb':b.length≤9223372036854775807:=by have:=lb;rw [jQ] at this;exact this
 have em:max (a.length:Int) (b.length:Int)=((max a.length b.length:Nat):Int):=by omega
 obtain ⟨n,hn⟩:=qk6 a b (Wd.of ha) (Wd.of hb) (max a.length b.length) (by omega)
 refine ⟨n,?_⟩
 unfold Cmp
 rw [em,w64 (by omega) (by omega)]
 unfold qmV at hn
 rw [List.take_of_length_le (by omega),List.take_of_length_le (by omega)] at hn
 rcases hn with ⟨h1,h2⟩ | ⟨h1,h2⟩
 · rw [h2,h1];rfl
 · rw [h2];rfl
end
end Su
end
section
namespace Su
open Go Fly
set_option linter.unusedVariables false
noncomputable section
def Len  (a:(List Int)):Option Int :=
 (bif (decide (((((List.length (ofN (qa a))):Nat):Int)=0))) then
 some 0
 else
  ((idx (ofN (qa a)) (IntKind.wrap .i64 ((((List.length (ofN (qa a))):Nat):Int)-1)))).bind fun x0 =>
  ((qhq x0)).bind fun x1 =>
  some (IntKind.wrap .i64 ((IntKind.wrap .i64 (32*(IntKind.wrap .i64 ((((List.length (ofN (qa a))):Nat):Int)-1))))+x1)))
abbrev qfZ:=((List Int)×(Nat×((List Int)×(Int×(Int×(Int×(Int×(Int×((List Int)×(Int×(Int×((List T)×Unit))))))))))))
def qf0:qfZ→Option (qfZ ⊕ qfZ):=fun p2=>(bif (decide ((p2.2.2.2.2.2.2.2.2.2.2.1<p2.2.2.2.2.2.2.2.2.2.1))) then
 ((idx p2.2.2.2.2.2.2.2.2.1 p2.2.2.2.2.2.2.2.2.2.2.1)).bind fun x3 =>
 (bif ((true&&(decide ((0≤(IntKind.wrap .i64 (p2.2.2.2.2.2.1+p2.2.2.2.2.2.2.2.2.2.2.1))))))&&(decide (((IntKind.wrap .i64 (p2.2.2.2.2.2.1+p2.2.2.2.2.2.2.2.2.2.2.1))<((p2.2.1:Nat):Int))))) then
 ((p2.2.2.2.2.2.2.2.2.2.2.2.1)[(0+(Int.toNat (IntKind.wrap .i64 (p2.2.2.2.2.2.1+p2.2.2.2.2.2.2.2.2.2.2.1))))]?).bind fun x4 =>
 ((ldT x4 0 false 1)).bind fun x5 =>
 ((asI .u32 (.t x5))).bind fun x6 =>
 (bif ((true&&(decide ((0≤(IntKind.wrap .i64 (p2.2.2.2.2.2.1+p2.2.2.2.2.2.2.2.2.2.2.1))))))&&(decide (((IntKind.wrap .i64 (p2.2.2.2.2.2.1+p2.2.2.2.2.2.2.2.2.2.2.1))<((p2.2.1:Nat):Int))))) then
 ((p2.2.2.2.2.2.2.2.2.2.2.2.1)[(0+(Int.toNat (IntKind.wrap .i64 (p2.2.2.2.2.2.1+p2.2.2.2.2.2.2.2.2.2.2.1))))]?).bind fun x7 =>
 ((asI .u32 (.t x7))).bind fun x8 =>
 some (.inl (p2.1,(p2.2.1,(p2.2.2.1,(p2.2.2.2.1,(p2.2.2.2.2.1,(p2.2.2.2.2.2.1,(p2.2.2.2.2.2.2.1,((Int.fdiv (IntKind.wrap .u64 (p2.2.2.2.2.2.2.2.1+(IntKind.wrap .u64 ((IntKind.wrap .u64 ((IntKind.wrap .u64 p2.2.2.2.2.2.2.1)*(IntKind.wrap .u64 x3)))+(IntKind.wrap .u64 x6))))) (2^32)),(p2.2.2.2.2.2.2.2.2.1,(p2.2.2.2.2.2.2.2.2.2.1,((IntKind.wrap .i64 (p2.2.2.2.2.2.2.2.2.2.2.1+1)),((List.set p2.2.2.2.2.2.2.2.2.2.2.2.1 (0+(Int.toNat (IntKind.wrap .i64 (p2.2.2.2.2.2.1+p2.2.2.2.2.2.2.2.2.2.2.1)))) (T.s (.int .u32 (IntKind.wrap .u32 (IntKind.wrap .u64 (p2.2.2.2.2.2.2.2.1+(IntKind.wrap .u64 ((IntKind.wrap .u64 ((IntKind.wrap .u64 p2.2.2.2.2.2.2.1)*(IntKind.wrap .u64 x3)))+(IntKind.wrap .u64 x6))))))))),())))))))))))))
 else
  none)
 else
  none)
 else
  some (.inr (p2.1,(p2.2.1,(p2.2.2.1,(p2.2.2.2.1,(p2.2.2.2.2.1,(p2.2.2.2.2.2.1,(p2.2.2.2.2.2.2.1,(p2.2.2.2.2.2.2.2.1,(p2.2.2.2.2.2.2.2.2.1,(p2.2.2.2.2.2.2.2.2.2.1,(p2.2.2.2.2.2.2.2.2.2.2.1,(p2.2.2.2.2.2.2.2.2.2.2.2.1,()))))))))))))))
def qf1 (fu:Nat):((List Int)×(Nat×((List Int)×(Int×(Int×((List T)×Unit))))))→Option (((List Int)×(Nat×((List Int)×(Int×(Int×((List T)×Unit)))))) ⊕ ((List Int)×(Nat×((List Int)×(Int×(Int×((List T)×Unit))))))):=fun p0=>(bif (decide ((p0.2.2.2.2.1<p0.2.2.2.1))) then
 ((idx p0.2.2.1 p0.2.2.2.2.1)).bind fun x1 =>
 (itP fu (qf0) (p0.1,(p0.2.1,(p0.2.2.1,(p0.2.2.2.1,(p0.2.2.2.2.1,(p0.2.2.2.2.1,(x1,((0:Int),(p0.1,((((List.length p0.1):Nat):Int),((0:Int),(p0.2.2.2.2.2.1,()))))))))))))).bind fun x9 =>
 (bif ((true&&(decide ((0≤(IntKind.wrap .i64 (x9.2.2.2.2.2.1+(((List.length x9.1):Nat):Int)))))))&&(decide (((IntKind.wrap .i64 (x9.2.2.2.2.2.1+(((List.length x9.1):Nat):Int)))<((x9.2.1:Nat):Int))))) then
 ((x9.2.2.2.2.2.2.2.2.2.2.2.1)[(0+(Int.toNat (IntKind.wrap .i64 (x9.2.2.2.2.2.1+(((List.length x9.1):Nat):Int)))))]?).bind fun x10 =>
 ((asI .u32 (.t x10))).bind fun x11 =>
 some (.inl (x9.1,(x9.2.1,(x9.2.2.1,(x9.2.2.2.1,((IntKind.wrap .i64 (x9.2.2.2.2.1+1)),((List.set x9.2.2.2.2.2.2.2.2.2.2.2.1 (0+(Int.toNat (IntKind.wrap .i64 (x9.2.2.2.2.2.1+(((List.length x9.1):Nat):Int))))) (T.s (.int .u32 (IntKind.wrap .u32 x9.2.2.2.2.2.2.2.1)))),())))))))
 else
  none)
 else
  some (.inr (p0.1,(p0.2.1,(p0.2.2.1,(p0.2.2.2.1,(p0.2.2.2.2.1,(p0.2.2.2.2.2.1,()))))))))
def Mul  (fu:Nat) (a:(List Int)) (b:(List Int)):Option (List Int) :=
 (bif (((true&&(decide ((0≤(IntKind.wrap .i64 ((((List.length a):Nat):Int)+(((List.length b):Nat):Int)))))))&&(decide (((IntKind.wrap .i64 ((((List.length a):Nat):Int)+(((List.length b):Nat):Int)))≤(IntKind.wrap .i64 ((((List.length a):Nat):Int)+(((List.length b):Nat):Int)))))))&&(decide (((IntKind.wrap .i64 ((((List.length a):Nat):Int)+(((List.length b):Nat):Int)))≤549755813888)))) then
 (itP fu (qf1 fu) (b,((Int.toNat (IntKind.wrap .i64 ((((List.length a):Nat):Int)+(((List.length b):Nat):Int)))),(a,((((List.length a):Nat):Int),((0:Int),((List.replicate (Int.toNat (IntKind.wrap .i64 ((((List.length a):Nat):Int)+(((List.length b):Nat):Int)))) (T.s (.int .u32 0))),()))))))).bind fun x12 =>
 ((Su.sub x12.2.2.2.2.2.1 0 x12.2.1)).bind fun x13 =>
 ((Su.sub x12.2.2.2.2.2.1 0 x12.2.1)).bind fun x14 =>
 ((Su.sub x12.2.2.2.2.2.1 0 x12.2.1)).bind fun x15 =>
 (((jz 1 x13)).bind fun x16 =>
 some (ofN (qa x16))).bind fun x17 =>
 some x17
 else
  none)
theorem qas:∀ (l:List Int) (j:Nat) (y:Int),j<l.length→qa (l.set j y)+4294967296^j*(nth l j).toNat=qa l+4294967296^j*y.toNat
 | [],j,y,h=>by simp at h
 | x::l,0,y,_=>by simp [qa,nth];omega
 | x::l,j+1,y,h=>by
  have ih:=qas l j y (by simpa using h)
  have e:nth (x::l) (j+1)=nth l j:=by simp [nth]
  rw [e]
  simp only [List.set_cons_succ,qa,Nat.pow_succ]
  have h1:4294967296^j*4294967296*(nth l j).toNat=4294967296*(4294967296^j*(nth l j).toNat):=by rw [Nat.mul_comm (4294967296^j) 4294967296,Nat.mul_assoc]
  have h2:4294967296^j*4294967296*y.toNat=4294967296*(4294967296^j*y.toNat):=by rw [Nat.mul_comm (4294967296^j) 4294967296,Nat.mul_assoc]
  rw [h1,h2];omega
theorem Wd.set {l:List Int} (h:Wd l) {y:Int} (h0:0≤y) (h1:y<4294967296) (j:Nat):Wd (l.set j y):=fun x hx=>by
 rcases List.mem_or_eq_of_mem_set hx with hx | rfl
 · exact h x hx
 · exact ⟨h0,h1⟩
theorem qbG {l:List Int} {j k:Nat} (y:Int) (h:j≠k):nth (l.set j y) k=nth l k:=by unfold nth;rw [List.getElem?_set_ne h]
theorem ZN {l:List Int} {j:Nat} (h:j<l.length):(l.map eW)[j]?=some (eW (nth l j)):=by
 rw [List.getElem?_map,List.getElem?_eq_getElem h]
 simp [nth,List.getElem?_eq_getElem h]
theorem qeP (l:List Int) (j:Nat) (y:Int):(l.map eW).set j (eW y)=(l.set j y).map eW:=by rw [List.map_set]
theorem QT (κ:IntKind) (y:Int):asI κ (.t (.s (.int κ y)))=some y:=by simp [asI]
theorem Y3 (y:Int):ldT (eW y) 0 false 1=some (eW y):=rfl
theorem qs8 (a b:List Int) (hb:Wd b) (x t:Int) (hx0:0≤x) (hx1:x<4294967296) (i:Nat) (hlen:a.length+b.length≤549755813888) (hi:i<a.length) (out0:List Int):∀ (m k:Nat) (out:List Int) (c:Int),k+m=b.length→out.length=a.length+b.length→Wd out →
 0≤c→c<4294967296→(∀ j,i+k≤j→nth out j=nth out0 j)→qa out+4294967296^(i+k)*c.toNat=qa out0+4294967296^i*(x.toNat*qa (b.take k)) →
 ∃ (out':List Int) (c':Int),out'.length=a.length+b.length∧Wd out'∧0≤c'∧c'<4294967296∧(∀ j,i+b.length≤j→nth out' j=nth out0 j)∧qa out'+4294967296^(i+b.length)*c'.toNat=qa out0+4294967296^i*(x.toNat*qa b) ∧
  ∃ N,∀ n,N≤n→itP n qf0 (b,(a.length+b.length,(a,((a.length:Int),(t,((i:Int),(x,(c,(b,((b.length:Int),((k:Int),(out.map eW,())))))))))))) =
   some (b,(a.length+b.length,(a,((a.length:Int),(t,((i:Int),(x,(c',(b,((b.length:Int),((b.length:Int),(out'.map eW,()))))))))))))
 | 0,k,out,c,hk,ho,hw,hc0,hc1,hz,hv=>by
  have:k=b.length:=by omega
  subst this
  refine ⟨out,c,ho,hw,hc0,hc1,hz,by rw [List.take_of_length_le (Nat.le_refl _)] at hv;exact hv,1,fun n hn=>?_⟩
  obtain ⟨n,rfl⟩:∃ q,n=q+1:=⟨n-1,by omega⟩
  rw [qA]
  simp [qf0]
 | m+1,k,out,c,hk,ho,hw,hc0,hc1,hz,hv=>by
  have hkb:k<b.length:=by omega
  have hj:i+k<out.length:=by omega
  obtain ⟨y0,y1⟩:=jW hb k
  obtain ⟨o0,o1⟩:=jW hw (i+k)
  have hy:idx b (k:Int)=some (nth b k):=by rw [jJ,List.getElem?_eq_getElem hkb];simp [nth,List.getElem?_eq_getElem hkb]
  obtain ⟨X,rfl⟩:∃ X:Nat,x=(X:Int):=⟨x.toNat,by omega⟩
  obtain ⟨Y,hY⟩:∃ Y:Nat,nth b k=(Y:Int):=⟨(nth b k).toNat,by omega⟩
  obtain ⟨Z,hZ⟩:∃ Z:Nat,nth out (i+k)=(Z:Int):=⟨(nth out (i+k)).toNat,by omega⟩
  obtain ⟨C,rfl⟩:∃ C:Nat,c=(C:Int):=⟨c.toNat,by omega⟩
  have hXY:X*Y≤4294967295*4294967295:=Nat.mul_le_mul (by omega) (by omega)
  have e0:IntKind.i64.wrap ((i:Int)+(k:Int))=((i+k:Nat):Int):=by rw [w64 (by omega) (by omega)];rfl
  have e1:IntKind.u64.wrap (X:Int)=X:=jZ (by omega) (by omega)
  have e2:IntKind.u64.wrap (Y:Int)=Y:=jZ (by omega) (by omega)
  have e3:IntKind.u64.wrap (Z:Int)=Z:=jZ (by omega) (by omega)
  have e4:IntKind.u64.wrap ((X:Int)*(Y:Int))=((X*Y:Nat):Int):=by rw [← Int.natCast_mul];exact jZ (by omega) (by omega)
  have e5:IntKind.u64.wrap (((X*Y:Nat):Int)+(Z:Int))=((X*Y+Z:Nat):Int):=by rw [jZ (by omega) (by omega)];rfl
  have e6:IntKind.u64.wrap ((C:Int)+((X*Y+Z:Nat):Int))=((C+(X*Y+Z):Nat):Int):=by rw [jZ (by omega) (by omega)];rfl
  have e9:IntKind.i64.wrap ((k:Int)+1)=((k+1:Nat):Int):=by rw [w64 (by omega) (by omega)];rfl
  generalize hS:C+(X*Y+Z)=S at *
  have e7:IntKind.u32.wrap (S:Int)=((S % 4294967296:Nat):Int):=by rw [wrap_u32];omega
  have e8:Int.fdiv (S:Int) (2^32)=((S / 4294967296:Nat):Int):=by
   rw [Int.fdiv_eq_ediv_of_nonneg _ (by decide)];rfl
  have hset:=qas out (i+k) ((S % 4294967296:Nat):Int) hj
  rw [hZ] at hset
  obtain ⟨out',c',h1,h2,h3,h4,h5,h6,N,h7⟩:=qs8 a b hb (X:Int) t hx0 hx1 i hlen hi out0 m (k+1) (out.set (i+k) ((S % 4294967296:Nat):Int)) ((S / 4294967296:Nat):Int) (by omega) (by simp [ho])
   (hw.set (by omega) (by omega) _) (by omega) (by omega) (fun j hj=>by rw [qbG _ (by omega)];exact hz j (by omega)) (by
     simp only [Int.toNat_natCast] at hset hv ⊢
     rw [qM,hY]
     simp only [Int.toNat_natCast]
     have hp:4294967296^(i+(k+1))*(S / 4294967296)+4294967296^(i+k)*(S % 4294967296)=4294967296^(i+k)*S:=by
      rw [← Nat.add_assoc,Nat.pow_succ,Nat.mul_assoc,← Nat.mul_add];congr 1;omega
     have hq:4294967296^(i+k)*S=4294967296^(i+k)*C+4294967296^(i+k)*(X*Y)+4294967296^(i+k)*Z:=by
      rw [← hS,Nat.mul_add,Nat.mul_add,Nat.add_assoc]
     have hr:4294967296^i*(X*(qa (b.take k)+4294967296^k*Y))=4294967296^i*(X*qa (b.take k))+4294967296^(i+k)*(X*Y):=by
      rw [Nat.mul_add,Nat.mul_add,Nat.pow_add]
      congr 1
      rw [Nat.mul_left_comm X,Nat.mul_assoc]
     rw [hr]
     omega)
  refine ⟨out',c',h1,h2,h3,h4,h5,h6,N+1,fun n hn=>?_⟩
  obtain ⟨n,rfl⟩:∃ q,n=q+1:=⟨n-1,by omega⟩
  have hst:qf0 (b,(a.length+b.length,(a,((a.length:Int),(t,((i:Int),((X:Int),((C:Int),(b,((b.length:Int),((k:Int),(out.map eW,())))))))))))) =
   some (.inl (b,(a.length+b.length,(a,((a.length:Int),(t,((i:Int),((X:Int),(((S / 4294967296:Nat):Int),(b,((b.length:Int),(((k+1:Nat):Int),((out.set (i+k) ((S % 4294967296:Nat):Int)).map eW,()))))))))))))):=by
   have d1:decide ((k:Int)<(b.length:Int))=true:=decide_eq_true (by omega)
   have d2:decide ((0:Int)≤((i+k:Nat):Int))=true:=decide_eq_true (by omega)
   have d3:decide (((i+k:Nat):Int)<((a.length+b.length:Nat):Int))=true:=decide_eq_true (by omega)
   have hg:(out.map eW)[0+((i+k:Nat):Int).toNat]?=some (eW (Z:Int)):=by
    rw [Nat.zero_add,Int.toNat_natCast,ZN hj,hZ]
   simp only [qf0,d1,cond_true,hy,hY,Option.bind_some,e0,d2,d3,Bool.true_and,hg,Y3,QT,e1,e2,e3,e4,e5,e6,e7,e8,e9]
   simp only [Nat.zero_add,Int.toNat_natCast,qeP]
  rw [qA,hst]
  exact h7 n (by omega)
theorem qop (a b:List Int) (ha:Wd a) (hb:Wd b) (hlen:a.length+b.length≤549755813888):∀ (m i:Nat) (out:List Int),i+m=a.length→out.length=a.length+b.length→Wd out→(∀ j,i+b.length≤j→nth out j=0) →
 qa out=qa (a.take i)*qa b →
 ∃ out':List Int,out'.length=a.length+b.length∧Wd out'∧qa out'=qa a*qa b ∧
  ∃ N,∀ fu,N≤fu→∀ n,N≤n→itP n (qf1 fu) (b,(a.length+b.length,(a,((a.length:Int),((i:Int),(out.map eW,()))))))=some (b,(a.length+b.length,(a,((a.length:Int),((a.length:Int),(out'.map eW,()))))))
 | 0,i,out,hk,ho,hw,hz,hv=>by
  have:i=a.length:=by omega
  subst this
  refine ⟨out,ho,hw,by rw [List.take_of_length_le (Nat.le_refl _)] at hv;exact hv,1,fun fu _ n hn=>?_⟩
  obtain ⟨n,rfl⟩:∃ q,n=q+1:=⟨n-1,by omega⟩
  rw [qA]
  simp [qf1]
 | m+1,i,out,hk,ho,hw,hz,hv=>by
  have hia:i<a.length:=by omega
  obtain ⟨x0,x1⟩:=jW ha i
  have hx:idx a (i:Int)=some (nth a i):=by rw [jJ,List.getElem?_eq_getElem hia];simp [nth,List.getElem?_eq_getElem hia]
  obtain ⟨o1,c,g1,g2,g3,g4,g5,g6,N1,g7⟩:=qs8 a b hb (nth a i) (i:Int) x0 x1 i hlen hia out b.length 0 out 0 (by omega) ho hw (by omega) (by omega) (fun _ _=>rfl) (by simp [qa])
  have hj:i+b.length<o1.length:=by omega
  have hnz:nth o1 (i+b.length)=0:=by rw [g5 _ (Nat.le_refl _)];exact hz _ (Nat.le_refl _)
  have hset:=qas o1 (i+b.length) c hj
  rw [hnz] at hset
  obtain ⟨out',h1,h2,h3,N2,h4⟩:=qop a b ha hb hlen m (i+1) (o1.set (i+b.length) c) (by omega) (by simp [g1]) (g2.set g3 g4 _)
   (fun j hj=>by rw [qbG _ (by omega),g5 j (by omega)];exact hz j (by omega)) (by
     have e:qa (a.take (i+1))*qa b=qa (a.take i)*qa b+4294967296^i*((nth a i).toNat*qa b):=by
      rw [qM,Nat.add_mul,Nat.mul_assoc]
     simp only [Int.toNat_zero,Nat.mul_zero,Nat.add_zero] at hset
     omega)
  refine ⟨out',h1,h2,h3,max N1 N2+1,fun fu hfu n hn=>?_⟩
  obtain ⟨n,rfl⟩:∃ q,n=q+1:=⟨n-1,by omega⟩
  have e9:IntKind.i64.wrap ((i:Int)+1)=((i+1:Nat):Int):=by rw [w64 (by omega) (by omega)];rfl
  have e0:IntKind.i64.wrap ((i:Int)+(b.length:Int))=((i+b.length:Nat):Int):=by rw [w64 (by omega) (by omega)];rfl
  have e7:IntKind.u32.wrap c=c:=qmP g3 g4
  have hst:qf1 fu (b,(a.length+b.length,(a,((a.length:Int),((i:Int),(out.map eW,()))))))=some (.inl (b,(a.length+b.length,(a,((a.length:Int),(((i+1:Nat):Int),((o1.set (i+b.length) c).map eW,()))))))):=by
   have d1:decide ((i:Int)<(a.length:Int))=true:=decide_eq_true (by omega)
   have d2:decide ((0:Int)≤((i+b.length:Nat):Int))=true:=decide_eq_true (by omega)
   have d3:decide (((i+b.length:Nat):Int)<((a.length+b.length:Nat):Int))=true:=decide_eq_true (by omega)
   have hg:(o1.map eW)[0+((i+b.length:Nat):Int).toNat]?=some (eW 0):=by
    rw [Nat.zero_add,Int.toNat_natCast,ZN hj,hnz]
   have g7':=g7 fu (by omega)
   simp only [Int.natCast_zero] at g7'
   simp only [qf1,d1,cond_true,hx,Option.bind_some,g7',e0,d2,d3,Bool.true_and,hg,QT,e7,e9]
   simp only [Nat.zero_add,Int.toNat_natCast,qeP]
  rw [qA,hst]
  exact h4 fu (by omega) n (by omega)
theorem ZO (n:Nat):qa (List.replicate n 0)=0:=by
 induction n with
 | zero=>rfl
 | succ n ih=>simp [List.replicate_succ,qa,ih]
def qat (p:List Int×List Int):Option (List Int):=bif Nat.ble (p.1.length+p.2.length) 549755813888 then some (ofN (qa p.1*qa p.2)) else none
theorem qCH (p:List Int×List Int) (y:List Int) (hg:(dc (cQ 1 1) (d1 (cQ 1 1))).good p) (h:qat p=some y):∃ n,Mul n p.1 p.2=some y:=by
 obtain ⟨a,b⟩:=p
 obtain ⟨⟨ha,la⟩,hb,lb⟩:=hg
 obtain ⟨hm,h⟩:=qj h
 have:=soi h;subst this
 have hlen:a.length+b.length≤549755813888:=Nat.le_of_ble_eq_true hm
 obtain ⟨out,h1,h2,h3,N,h4⟩:=qop a b (Wd.of ha) (Wd.of hb) hlen a.length 0 (List.replicate (a.length+b.length) 0) (by omega) (by simp) (fun x hx=>by
  have:=(List.mem_replicate.1 hx).2;subst this;exact ⟨Int.le_refl _,by decide⟩) (fun j _=>by unfold nth;rw [List.getElem?_replicate];split <;> rfl) (by simp [ZO,qa])
 refine ⟨N,?_⟩
 have e0:IntKind.i64.wrap ((a.length:Int)+(b.length:Int))=((a.length+b.length:Nat):Int):=by rw [w64 (by omega) (by omega)];rfl
 have d1:decide ((0:Int)≤((a.length+b.length:Nat):Int))=true:=decide_eq_true (by omega)
 have d2:decide (((a.length+b.length:Nat):Int)≤((a.length+b.length:Nat):Int))=true:=decide_eq_true (by omega)
 have d3:decide (((a.length+b.length:Nat):Int)≤549755813888)=true:=decide_eq_true (by omega)
 have h4':=h4 N (Nat.le_refl _) N (Nat.le_refl _)
 rw [List.map_replicate,Int.natCast_zero] at h4'
 unfold Mul
 simp only [e0,d1,d2,d3,Bool.true_and,cond_true,Int.toNat_natCast]
 rw [show (T.s (.int .u32 0))=eW 0 from rfl,h4']
 have hs:sub (out.map eW) 0 (a.length+b.length)=some (out.map eW):=by
  have:=YQ (out.map eW)
  rwa [List.length_map,h1] at this
 simp only [Option.bind_some,hs,Jb]
 show some (ofN (qa out))=_
 rw [h3]
end
end Su
end
