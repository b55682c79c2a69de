/-
  Bits and rounding, in plain Lean. No condition.
-/
import Derived.Test.YtfckjjffdfkelaaGreatNC26
import Derived.Test.YtfckjjffdfkelaaGreatNC14
set_option maxRecDepth 10000
section
namespace Su
open Go Fly
set_option linter.unusedVariables false
noncomputable section
def rk (neg:Bool) (mode:Int) (M E:Nat):Nat:=finN (twN neg mode) (floorN M E+(upN neg mode (keepN M E % 2 == 1) (hfN M E) (rsN M E)).toNat)
theorem RN_rk {neg:Bool} {mode:Int} {M E:Nat} (hM:M≠0):RN neg mode M E false=sgN neg+rk neg mode M E:=by
 unfold RN rk
 rw [beq0 hM,Bool.false_or];rfl
theorem finN_lt (tw:Bool) (k:Nat):finN tw k<9223372036854775808:=by
 unfold finN topN
 cases h:Nat.ble k 9218868437227405311 with
 | true=>have:=Nat.le_of_ble_eq_true h;rw [cond_true];omega
 | false =>
  rw [cond_false]
  cases tw with
  | true=>show (9218868437227405311:Nat)<9223372036854775808;omega
  | false=>show (9218868437227405312:Nat)<9223372036854775808;omega
theorem bK_sg2 {b:Bool} {k:Nat} (h:k<9223372036854775808):bK (sgN b+k)=k∧bS (sgN b+k)=b:=by
 unfold bK sgN
 cases b with
 | true =>
  rw [cond_true]
  exact ⟨by omega,bS_iff.2 (by omega)⟩
 | false =>
  rw [cond_false]
  exact ⟨by omega,bS_not.2 (by omega)⟩
theorem RN_parts {neg:Bool} {mode:Int} {M E:Nat} (hM:M≠0):bK (RN neg mode M E false)=rk neg mode M E∧bS (RN neg mode M E false)=neg:=by
 rw [RN_rk hM];exact bK_sg2 (finN_lt _ _)
theorem finN_val {tw:Bool} {k:Nat} (h:k≤topN):finN tw k=k:=by
 unfold finN;rw [Nat.ble_eq_true_of_le h,cond_true]
theorem finN_big {tw:Bool} {k:Nat} (h:topN<k):finN tw k=bif tw then topN else topN+1:=by
 unfold finN
 rw [show Nat.ble k topN=false by
  cases hb:Nat.ble k topN with
  | false=>rfl
  | true=>have:=Nat.le_of_ble_eq_true hb;omega,cond_false]
@[irreducible] def PS:Nat:=2^SH
theorem PS_eq:PS=2^SH:=by unfold PS;rfl
theorem PS_pos:(0:Int)<(PS:Int):=Int.ofNat_lt.2 (by rw [PS_eq];exact Nat.two_pow_pos _)
theorem rk_aw {neg:Bool} {mode:Int} {M E:Nat} (hM:M≠0) (ha:awN neg mode=true) (ht:twN neg mode=false) :
 (rk neg mode M E≤topN∧M*2^E≤kV (rk neg mode M E)*PS)∨rk neg mode M E=topN+1:=by
 have e:rk neg mode M E=finN false (floorN M E+(hfN M E||rsN M E).toNat):=by unfold rk upN;rw [ha,ht,cond_true]
 rw [PS_eq]
 by_cases h:floorN M E+(hfN M E||rsN M E).toNat≤topN
 · left
   rw [e,finN_val h]
   refine ⟨h,?_⟩
   cases hx:(hfN M E||rsN M E) with
   | true=>exact Nat.le_of_lt (floor_lt hM)
   | false =>
    rw [Bool.or_eq_false_iff] at hx
    rw [Bool.toNat_false,Nat.add_zero]
    exact Nat.le_of_eq ((floor_exact hM).2 hx)
 · right;rw [e,finN_big (by omega)];rfl
theorem rk_tw {neg:Bool} {mode:Int} {M E:Nat} (hM:M≠0) (ha:awN neg mode=false) (ht:twN neg mode=true) :
 rk neg mode M E≤topN∧kV (rk neg mode M E)*PS≤M*2^E:=by
 have e:rk neg mode M E=finN true (floorN M E):=by unfold rk upN;rw [ha,ht,cond_false,cond_true];rfl
 rw [e,PS_eq]
 have hf:=floor_le (E:=E) hM
 by_cases h:floorN M E≤topN
 · rw [finN_val h];exact ⟨h,hf⟩
 · rw [finN_big (by omega),cond_true]
   exact ⟨Nat.le_refl _,Nat.le_trans (Nat.mul_le_mul_right _ (kV_le (by omega))) hf⟩
theorem fv_pos {f:Nat} (h:bK f≤topN) (hs:bS f=false):fv f=(kV (bK f):Int):=by
 unfold fv fvK;rw [finK_iff.2 h,hs];rfl
theorem fv_negv {f:Nat} (h:bK f≤topN) (hs:bS f=true):fv f = -(kV (bK f):Int):=by
 unfold fv fvK;rw [finK_iff.2 h,hs];rfl
def sgV (neg:Bool) (n:Nat):Int:=bif neg then -(n:Int) else (n:Int)
theorem fv_sg {f:Nat} (h:bK f≤topN):fv f=sgV (bS f) (kV (bK f)):=by
 cases hs:bS f with
 | false=>exact fv_pos h hs
 | true=>exact fv_negv h hs
theorem f_of {neg:Bool} {f:Nat} (h1:bK f=topN+1) (h2:bS f=neg) (h:f<18446744073709551616):f=sgN neg+9218868437227405312:=by
 have:=f_split h
 rw [h1,h2] at this;exact this
theorem RN_w64 {neg:Bool} {mode:Int} {M E:Nat} (hM:M≠0):RN neg mode M E false<18446744073709551616:=by
 rw [RN_rk hM]
 have:=finN_lt (twN neg mode) (floorN M E+(upN neg mode (keepN M E % 2 == 1) (hfN M E) (rsN M E)).toNat)
 have e:rk neg mode M E<9223372036854775808:=this
 generalize rk neg mode M E=k at *
 unfold sgN
 cases neg <;> simp only [cond_true,cond_false] <;> omega
theorem le_cast {a b p:Nat} (h:a≤b*p):(a:Int)≤(b:Int)*(p:Int):=by rw [← Int.natCast_mul];exact Int.ofNat_le.2 h
theorem le_cast' {a b p:Nat} (h:b*p≤a):(b:Int)*(p:Int)≤(a:Int):=by rw [← Int.natCast_mul];exact Int.ofNat_le.2 h
theorem sg_f (n:Nat):sgV false n=(n:Int):=rfl
theorem sg_t (n:Nat):sgV true n = -(n:Int):=rfl
theorem RN_up {neg:Bool} {M E:Nat} (hM:M≠0):(bK (RN neg 1 M E false)≤topN∧sgV neg (M*2^E)≤fv (RN neg 1 M E false)*(PS:Int))∨RN neg 1 M E false=9218868437227405312:=by
 obtain ⟨p1,p2⟩:=RN_parts (neg:=neg) (mode:=1) (E:=E) hM
 have hw:=RN_w64 (neg:=neg) (mode:=1) (E:=E) hM
 have ha:=rk_aw (neg:=neg) (mode:=1) (E:=E) hM
 have ht:=rk_tw (neg:=neg) (mode:=1) (E:=E) hM
 rw [← p1] at ha ht
 generalize RN neg 1 M E false=r at *
 generalize M*2^E=V at *
 generalize PS=P at *
 cases neg with
 | false =>
  rcases ha rfl rfl with ⟨h1,h2⟩ | h
  · left
    exact ⟨h1,by rw [fv_pos h1 p2,sg_f];exact le_cast h2⟩
  · right;exact f_of h p2 hw
 | true =>
  obtain ⟨h1,h2⟩:=ht rfl rfl
  left
  refine ⟨h1,?_⟩
  rw [fv_negv h1 p2,sg_t,Int.neg_mul]
  exact Int.neg_le_neg (le_cast' h2)
theorem RN_dn {neg:Bool} {M E:Nat} (hM:M≠0):(bK (RN neg 2 M E false)≤topN∧fv (RN neg 2 M E false)*(PS:Int)≤sgV neg (M*2^E))∨RN neg 2 M E false=18442240474082181120:=by
 obtain ⟨p1,p2⟩:=RN_parts (neg:=neg) (mode:=2) (E:=E) hM
 have hw:=RN_w64 (neg:=neg) (mode:=2) (E:=E) hM
 have ha:=rk_aw (neg:=neg) (mode:=2) (E:=E) hM
 have ht:=rk_tw (neg:=neg) (mode:=2) (E:=E) hM
 rw [← p1] at ha ht
 generalize RN neg 2 M E false=r at *
 generalize M*2^E=V at *
 generalize PS=P at *
 cases neg with
 | true =>
  rcases ha rfl rfl with ⟨h1,h2⟩ | h
  · left
    refine ⟨h1,?_⟩
    rw [fv_negv h1 p2,sg_t,Int.neg_mul]
    exact Int.neg_le_neg (le_cast h2)
  · right;exact f_of h p2 hw
 | false =>
  obtain ⟨h1,h2⟩:=ht rfl rfl
  left
  exact ⟨h1,by rw [fv_pos h1 p2,sg_f];exact le_cast' h2⟩
structure SumP (a b:Nat) (mode:Int) (r:Nat):Prop where
 got:(bK r≤topN∧fv r=fv a+fv b)∨∃ neg M E,M≠0∧r=RN neg mode M E false∧sgV neg (M*2^E)=(fv a+fv b)*(PS:Int)
theorem kV_sh {k D e:Nat} (h:kE k=D+e):2^D*kM k*2^(e+SH)=kV k*PS:=by
 rw [PS_eq]
 unfold kV
 rw [h,Nat.pow_add,Nat.pow_add]
 rw [Nat.mul_comm (2^D) (kM k),Nat.mul_assoc,Nat.mul_assoc,Nat.mul_assoc]
theorem E_eq2 (k:Nat):((kE k:Int)-1074+6000).toNat=kE k+SH:=by rw [SH_eq];omega
theorem alg_same (b:Bool) {A B X Y P:Nat} (hx:A=X*P) (hy:B=Y*P):sgV b (A+B)=(sgV b X+sgV b Y)*(P:Int):=by
 subst hx hy
 unfold sgV
 cases b
 · simp only [cond_false];rw [Int.natCast_add,Int.natCast_mul,Int.natCast_mul,Int.add_mul]
 · simp only [cond_true];rw [Int.natCast_add,Int.natCast_mul,Int.natCast_mul,Int.add_mul,Int.neg_mul,Int.neg_mul,Int.neg_add]
theorem alg_diff (b:Bool) {N X Y P:Nat} (h:N+Y*P=X*P):sgV b N=(sgV b X+sgV (!b) Y)*(P:Int):=by
 have hi:(N:Int)+(Y:Int)*(P:Int)=(X:Int)*(P:Int):=by rw [← Int.natCast_mul,← Int.natCast_mul,← Int.natCast_add,h]
 rw [Int.add_mul]
 unfold sgV
 generalize (Y:Int)*(P:Int)=u at *
 cases b
 · simp only [cond_false,Bool.not_false,cond_true];rw [Int.neg_mul];omega
 · simp only [cond_true,Bool.not_true,cond_false];rw [Int.neg_mul];omega
theorem alg_zero (b c:Bool) {X:Nat}:sgV c 0=sgV b X+sgV (!b) X:=by
 unfold sgV
 cases b <;> cases c <;> simp only [cond_true,cond_false,Bool.not_true,Bool.not_false] <;> omega
theorem kV_0:kV 0=0:=rfl
theorem addO_sum {x y:Nat} {mode:Int} (fx:bK x≤topN) (fy:bK y≤topN) (zx:bK x≠0) (hle:kM (bK y)≤2^(kE (bK x)-kE (bK y))*kM (bK x)) (he:kE (bK y)≤kE (bK x)):SumP x y mode (addO x y mode):=by
 have mx:kM (bK x)≠0:=fun h=>zx (kM_zero.1 h)
 have hx:=kV_sh (k:=bK x) (D:=kE (bK x)-kE (bK y)) (e:=kE (bK y)) (by omega)
 have hy:kM (bK y)*2^(kE (bK y)+SH)=kV (bK y)*PS:=by
  have:=kV_sh (k:=bK y) (D:=0) (e:=kE (bK y)) (by omega)
  rwa [Nat.pow_zero,Nat.one_mul] at this
 have hv:fv x+fv y=sgV (bS x) (kV (bK x))+sgV (bS y) (kV (bK y)):=by rw [fv_sg fx,fv_sg fy]
 have hp0:=Nat.two_pow_pos (kE (bK x)-kE (bK y))
 unfold addO addX
 rw [E_eq2]
 generalize 2^(kE (bK x)-kE (bK y))=D at *
 have hp:D*kM (bK x)≠0:=Nat.mul_ne_zero (by omega) mx
 by_cases hs:bS x=bS y
 · rw [if_pos hs]
   refine ⟨.inr ⟨bS x,_,_,by omega,rfl,?_⟩⟩
   rw [hv,← hs,Nat.add_mul]
   exact alg_same _ hx hy
 · rw [if_neg hs]
   have hs':bS y = !bS x:=by revert hs;cases bS x <;> cases bS y <;> simp
   by_cases h0:D*kM (bK x)=kM (bK y)
   · rw [if_pos h0]
     have hu:kV (bK x)=kV (bK y):=by
      have h1:kV (bK x)*PS=kV (bK y)*PS:=by rw [← hx,h0,hy]
      exact Nat.eq_of_mul_eq_mul_right (by have:=PS_pos;omega) h1
     have hk:bK (sgN (decide (mode=2)))=0:=by cases decide (mode=2) <;> rfl
     have hk':bK (sgN (decide (mode=2)))≤topN:=by rw [hk];exact Nat.zero_le _
     refine ⟨.inl ⟨hk',?_⟩⟩
     rw [fv_sg hk',hk,hv,hu,hs',kV_0]
     exact alg_zero _ _
   · rw [if_neg h0]
     refine ⟨.inr ⟨bS x,_,_,by omega,rfl,?_⟩⟩
     rw [hv,hs']
     refine alg_diff _ ?_
     rw [← hy,← Nat.add_mul,← hx,Nat.sub_add_cancel hle]
theorem fv_zero {f:Nat} (h:bK f=0):fv f=0:=by
 rw [fv_sg (by rw [h];exact Nat.zero_le _),h]
 have k0:kV 0=0:=rfl
 rw [k0];unfold sgV;cases bS f <;> rfl
theorem kM_le2 {i j:Nat} (hi:i≤9218868437227405311) (hj:j≤9218868437227405311) (h:kE j<kE i∨kE j=kE i∧kM j≤kM i):kM j≤2^(kE i-kE j)*kM i:=by
 obtain ⟨a1,a2,a3,a4⟩:=kM_facts hi
 obtain ⟨b1,b2,b3,b4⟩:=kM_facts hj
 rcases h with h | ⟨h1,h2⟩
 · have hp:2^1≤2^(kE i-kE j):=Nat.pow_le_pow_right (by omega) (by omega)
   have h4:=a4 (by omega)
   have:=Nat.mul_le_mul hp h4
   omega
 · rw [h1,Nat.sub_self,Nat.pow_zero,Nat.one_mul];exact h2
theorem swap_not {a b:Nat} (h:swapF a b=false) (ha:bK a≤topN) (hb:bK b≤topN):kM (bK b)≤2^(kE (bK a)-kE (bK b))*kM (bK a)∧kE (bK b)≤kE (bK a):=by
 unfold swapF at h
 simp only [Bool.or_eq_false_iff,Bool.and_eq_false_iff,decide_eq_false_iff_not] at h
 obtain ⟨h1,h2⟩:=h
 have hc:kE (bK b)<kE (bK a)∨kE (bK b)=kE (bK a)∧kM (bK b)≤kM (bK a):=by omega
 exact ⟨kM_le2 ha hb hc,by omega⟩
theorem swap_yes {a b:Nat} (h:swapF a b=true) (ha:bK a≤topN) (hb:bK b≤topN):kM (bK a)≤2^(kE (bK b)-kE (bK a))*kM (bK b)∧kE (bK a)≤kE (bK b):=by
 unfold swapF at h
 simp only [Bool.or_eq_true,Bool.and_eq_true,decide_eq_true_eq] at h
 have hc:kE (bK a)<kE (bK b)∨kE (bK a)=kE (bK b)∧kM (bK a)≤kM (bK b):=by omega
 exact ⟨kM_le2 hb ha hc,by omega⟩
theorem infF {k:Nat} (h:k≤topN):infK k=false:=by
 unfold infK;rw [beq_dec];exact decide_eq_false (by unfold topN at h;omega)
theorem nanF {k:Nat} (h:k≤topN):nanK k=false:=nanK_not.2 (by unfold topN at h;omega)
theorem addF_sum {a b:Nat} {mode:Int} (fa:bK a≤topN) (fb:bK b≤topN):SumP a b mode (addF a b mode):=by
 unfold addF
 rw [nanF fa,nanF fb,infF fa,infF fb]
 simp only [cond_false,Bool.false_and]
 by_cases za:bK a=0
 · rw [show Nat.beq (bK a) 0=true by rw [za];rfl]
   by_cases zb:bK b=0
   · rw [show Nat.beq (bK b) 0=true by rw [zb];rfl]
     have key:∀ r:Nat,bK r=0→SumP a b mode r:=fun r hr=>⟨.inl ⟨by rw [hr];exact Nat.zero_le _,by rw [fv_zero hr,fv_zero za,fv_zero zb];rfl⟩⟩
     cases decide (bS a=bS b) with
     | true=>exact key a za
     | false =>
      refine key (sgN (decide (mode=2))) ?_
      cases decide (mode=2) <;> rfl
   · rw [beq0 zb]
     exact ⟨.inl ⟨fb,by rw [fv_zero za,Int.zero_add];rfl⟩⟩
 · rw [beq0 za]
   by_cases zb:bK b=0
   · rw [show Nat.beq (bK b) 0=true by rw [zb];rfl]
     exact ⟨.inl ⟨fa,by rw [fv_zero zb,Int.add_zero];rfl⟩⟩
   · rw [beq0 zb]
     simp only [cond_false,Bool.false_and]
     cases hs:swapF a b with
     | false =>
      obtain ⟨h1,h2⟩:=swap_not hs fa fb
      exact addO_sum fa fb za h1 h2
     | true =>
      obtain ⟨h1,h2⟩:=swap_yes hs fa fb
      have:=(addO_sum (mode:=mode) fb fa zb h1 h2).got
      rw [Int.add_comm] at this
      exact ⟨this⟩
theorem addF_up {a b:Nat} (fa:bK a≤topN) (fb:bK b≤topN):(bK (addF a b 1)≤topN∧fv a+fv b≤fv (addF a b 1))∨addF a b 1=9218868437227405312:=by
 rcases (addF_sum (mode:=1) fa fb).got with ⟨h1,h2⟩ | ⟨neg,M,E,hM,h1,h2⟩
 · exact .inl ⟨h1,by omega⟩
 · rw [h1]
   rcases RN_up (neg:=neg) (E:=E) hM with ⟨h3,h4⟩ | h
   · rw [h2] at h4
     exact .inl ⟨h3,Int.le_of_mul_le_mul_right h4 PS_pos⟩
   · exact .inr h
theorem addF_dn {a b:Nat} (fa:bK a≤topN) (fb:bK b≤topN):(bK (addF a b 2)≤topN∧fv (addF a b 2)≤fv a+fv b)∨addF a b 2=18442240474082181120:=by
 rcases (addF_sum (mode:=2) fa fb).got with ⟨h1,h2⟩ | ⟨neg,M,E,hM,h1,h2⟩
 · exact .inl ⟨h1,by omega⟩
 · rw [h1]
   rcases RN_dn (neg:=neg) (E:=E) hM with ⟨h3,h4⟩ | h
   · rw [h2] at h4
     exact .inl ⟨h3,Int.le_of_mul_le_mul_right h4 PS_pos⟩
   · exact .inr h
theorem fw_nat {n:Nat} (h:n<18446744073709551616):Fw (n:Int):=⟨Int.natCast_nonneg _,by omega⟩
theorem fw_lt {a:Int} (h:Fw a):a.toNat<18446744073709551616:=by obtain ⟨h1,h2⟩:=h;omega
theorem fw_cast {a:Int} (h:Fw a):((a.toNat:Nat):Int)=a:=Int.toNat_of_nonneg h.1
theorem fw_0:Fw 0:=⟨by decide,by decide⟩
theorem fw_add {a b:Int} (ha:Fw a) (hb:Fw b) (m:Int):Fw (addI a b m):=fw_nat (addN_lt (fw_lt ha) (fw_lt hb) m)
theorem fw_neg {a:Int} (ha:Fw a):Fw (negI a):=fw_nat (negF_lt (fw_lt ha))
theorem fw_abs {a:Int} (ha:Fw a):Fw (absA a):=fw_nat (by
 unfold absF
 have:=bK_lt a.toNat
 have:=fw_lt ha
 cases nanK (bK a.toNat) <;> simp only [cond_true,cond_false] <;> omega)
theorem fw_up {x y:Int} (hx:Fw x) (hy:Fw y):Fw (upI [x,y]):=fw_add (fw_add fw_0 hx 1) hy 1
theorem fw_sum:∀ {l:List Tm} {s:Int},Fw s→(∀ t∈l,Fw t.c)→Fw (sumA l s)
 | [],s,h,_=>h
 | t::l,s,h,hl=>by
  unfold sumA
  exact fw_sum (fw_up h (fw_abs (hl t (List.mem_cons_self ..)))) fun u hu=>hl u (List.mem_cons_of_mem _ hu)
structure FmW (a:Fm):Prop where
 mid:Fw a.2.1
 err:Fw a.2.2.2
 tms:∀ t∈a.2.2.1,Fw t.c
theorem fw_rad {a:Fm} (h:FmW a):Fw (radF a):=by
 rw [radF_eq]
 cases okF a with
 | false =>
  show Fw 9218868437227405312
  exact ⟨by decide,by decide⟩
 | true=>exact fw_up (fw_sum fw_0 h.tms) h.err
end
end Su
end
section
namespace Su
open Go Fly
set_option linter.unusedVariables false
noncomputable section
def kyV (k:Int):Int:=bif decide (k<0) then -(kV k.natAbs:Int) else (kV k.natAbs:Int)
theorem fv_ky {f:Int} (h:fI f=true):fv f.toNat=kyV (ky f):=by
 have h':finK (bK f.toNat)=true:=h
 unfold fv fvK kyV
 rw [h',cond_true,ky_abs]
 have e:ky f=bif bS f.toNat then -(bK f.toNat:Int) else (bK f.toNat:Int):=rfl
 rw [e]
 cases bS f.toNat with
 | true =>
  by_cases h0:bK f.toNat=0
  · rw [h0];rfl
  · rw [decide_eq_true (by simp only [cond_true];omega)]
 | false=>rw [decide_eq_false (by simp only [cond_false];omega)]
theorem num_fI {w:Int}:noNum w.toNat = !fI w:=by
 have:=fin_num w.toNat
 unfold fI;rw [this,Bool.not_not]
theorem kyV_lt {i j:Int} (h:i<j):kyV i<kyV j:=by
 unfold kyV
 by_cases hi:i<0
 · rw [decide_eq_true hi,cond_true]
   have h1:kV 0<kV i.natAbs:=kV_lt (by omega)
   by_cases hj:j<0
   · rw [decide_eq_true hj,cond_true]
     have:=kV_lt (show j.natAbs<i.natAbs by omega)
     omega
   · rw [decide_eq_false hj,cond_false]
     omega
 · rw [decide_eq_false hi,decide_eq_false (show ¬ j<0 by omega),cond_false,cond_false]
   have:=kV_lt (show i.natAbs<j.natAbs by omega)
   omega
theorem kyV_le {i j:Int}:kyV i≤kyV j↔i≤j:=by
 constructor
 · intro h
   refine Int.le_of_not_gt fun hlt=>?_
   have:=kyV_lt hlt
   omega
 · intro h
   by_cases e:i=j
   · rw [e];exact Int.le_refl _
   · exact Int.le_of_lt (kyV_lt (by omega))
theorem fv_le {a b:Int} (ha:fI a=true) (hb:fI b=true):fv a.toNat≤fv b.toNat↔ky a≤ky b:=by
 rw [fv_ky ha,fv_ky hb];exact kyV_le
theorem ky_fin {f:Int} (h:fI f=true) : -9218868437227405311≤ky f∧ky f≤9218868437227405311:=by
 have h1:=ky_abs f
 have h2:=finK_iff.1 (show finK (bK f.toNat)=true from h)
 omega
abbrev posI:Int:=9218868437227405312
abbrev negInf:Int:=18442240474082181120
def Up (x n:Int):Prop:=(fI x=true∧n≤fv x.toNat)∨x=posI
def Dn (x n:Int):Prop:=(fI x=true∧fv x.toNat≤n)∨x=negInf
theorem fI_top {x:Int}:fI x=true↔bK x.toNat≤topN:=finK_iff
theorem toN_inf:(posI:Int).toNat=9218868437227405312:=rfl
theorem toN_ninf:(negInf:Int).toNat=18442240474082181120:=rfl
theorem add_inf_l {b:Nat} {mode:Int} (h:nanK (bK b)=false) (hs:infK (bK b)=true→bS b=false):addF 9218868437227405312 b mode=9218868437227405312:=by
 unfold addF
 have e1:nanK (bK 9218868437227405312)=false:=rfl
 have e2:infK (bK 9218868437227405312)=true:=rfl
 have e3:bS 9218868437227405312=false:=rfl
 rw [e1,h,e2,e3]
 cases hi:infK (bK b) with
 | false=>rfl
 | true=>rw [hs hi];rfl
theorem add_inf_r {a:Nat} {mode:Int} (h:bK a≤topN):addF a 9218868437227405312 mode=9218868437227405312:=by
 unfold addF
 have e1:nanK (bK 9218868437227405312)=false:=rfl
 have e2:infK (bK 9218868437227405312)=true:=rfl
 rw [e1,nanF h,e2,infF h];rfl
theorem add_ninf_r {a:Nat} {mode:Int} (h:bK a≤topN):addF a 18442240474082181120 mode=18442240474082181120:=by
 unfold addF
 have e1:nanK (bK 18442240474082181120)=false:=rfl
 have e2:infK (bK 18442240474082181120)=true:=rfl
 rw [e1,nanF h,e2,infF h];rfl
theorem up_add {x y n m:Int} (hx:Up x n) (hy:Up y m):Up (addI x y 1) (n+m):=by
 unfold addI
 rw [addN_eq]
 rcases hx with ⟨fx,hx⟩ | rfl
 · rcases hy with ⟨fy,hy⟩ | rfl
   · rcases addF_up (fI_top.1 fx) (fI_top.1 fy) with ⟨h1,h2⟩ | h
     · left
       refine ⟨fI_top.2 (by rw [Int.toNat_natCast];exact h1),?_⟩
       rw [Int.toNat_natCast];omega
     · right;rw [h];rfl
   · right;rw [toN_inf,add_inf_r (fI_top.1 fx)];rfl
 · right
   rw [toN_inf]
   rcases hy with ⟨fy,hy⟩ | rfl
   · rw [add_inf_l (nanF (fI_top.1 fy)) (fun h=>by rw [infF (fI_top.1 fy)] at h;cases h)];rfl
   · rw [toN_inf,add_inf_l rfl (fun _=>rfl)];rfl
theorem dn_add {x y n m:Int} (fx:fI x=true) (hx:fv x.toNat≤n) (hy:Dn y m):Dn (addI x y 2) (n+m):=by
 unfold addI
 rw [addN_eq]
 rcases hy with ⟨fy,hy⟩ | rfl
 · rcases addF_dn (fI_top.1 fx) (fI_top.1 fy) with ⟨h1,h2⟩ | h
   · left
     refine ⟨fI_top.2 (by rw [Int.toNat_natCast];exact h1),?_⟩
     rw [Int.toNat_natCast];omega
   · right;rw [h];rfl
 · right;rw [toN_ninf,add_ninf_r (fI_top.1 fx)];rfl
theorem up_mono {x n m:Int} (h:Up x n) (hm:m≤n):Up x m:=h.imp (fun ⟨a,b⟩=>⟨a,by omega⟩) id
theorem fv_negF {f:Nat} (hf:f<18446744073709551616) (h:bK f≤topN):bK (negF f)≤topN∧fv (negF f) = -fv f:=by
 have h1:=bK_neg hf
 have h2:=bS_neg hf (nanF h)
 refine ⟨by rw [h1];exact h,?_⟩
 rw [fv_sg (by rw [h1];exact h),h1,h2,fv_sg h]
 unfold sgV
 cases bS f <;> simp
theorem dn_neg {x n:Int} (hw:Fw x) (h:Up x n):Dn (negI x) (-n):=by
 unfold negI
 rcases h with ⟨fx,hx⟩ | rfl
 · left
   obtain ⟨h1,h2⟩:=fv_negF (fw_lt hw) (fI_top.1 fx)
   refine ⟨fI_top.2 (by rw [Int.toNat_natCast];exact h1),?_⟩
   rw [Int.toNat_natCast,h2];omega
 · right;rfl
theorem up_self {x:Int} (h:fI x=true):Up x (fv x.toNat):=.inl ⟨h,Int.le_refl _⟩
theorem up_0:Up 0 0:=.inl ⟨rfl,by decide⟩
theorem fv_absF {c:Int} (h:fI c=true):fI (absA c)=true∧fv (absA c).toNat=(avF c:Int):=by
 have h':=fI_top.1 h
 have e:absF c.toNat=bK c.toNat:=by unfold absF;rw [nanF h'];rfl
 unfold absA avF
 rw [Int.toNat_natCast,e]
 have hk:bK (bK c.toNat)≤topN:=by rw [bK_bK];exact h'
 refine ⟨fI_top.2 (by rw [Int.toNat_natCast];exact hk),?_⟩
 rw [fv_sg hk,bK_bK,bS_bK,fv_sg h']
 unfold sgV
 cases bS c.toNat <;> simp
theorem sumN_add:∀ (l:List Tm) (s:Nat),sumN l s=s+sumN l 0
 | [],s=>rfl
 | t::l,s=>by
  unfold sumN
  rw [sumN_add l (s+avF t.c),sumN_add l (0+avF t.c)];omega
theorem up_sum:∀ {l:List Tm} {s:Int} {n:Nat},(∀ t∈l,fI t.c=true)→Up s n→Up (sumA l s) ((sumN l n:Nat):Int)
 | [],s,n,_,h=>h
 | t::l,s,n,hl,h=>by
  unfold sumA sumN
  obtain ⟨h1,h2⟩:=fv_absF (hl t (List.mem_cons_self ..))
  refine up_sum (fun u hu=>hl u (List.mem_cons_of_mem _ hu)) ?_
  have h3:Up (absA t.c) (avF t.c:Int):=by rw [← h2];exact up_self h1
  have:=up_add (up_add up_0 h) h3
  rw [Int.zero_add,← Int.natCast_add] at this
  exact this
theorem okF_err {a:Fm} (h:okF a=true):bS a.2.2.2.toNat=false:=by
 unfold okF at h
 simp only [Bool.not_eq_true',Bool.or_eq_false_iff,Bool.not_eq_false'] at h
 obtain ⟨h1,h2⟩:=h
 rw [mayF_eq,h1,cond_false] at h2
 simp only [Bool.and_eq_true,decide_eq_true_eq] at h2
 have h3:Int.fdiv a.2.2.2 (2^63)=0:=h2.2.2.2.2
 generalize a.2.2.2=e at *
 refine bS_not.2 ?_
 by_cases hn:0≤e
 · obtain ⟨n,rfl⟩:=Int.eq_ofNat_of_zero_le hn
   rw [fd_pow] at h3
   have h4:n / 2^63=0:=by omega
   rw [Int.toNat_natCast]
   have h5:=(Nat.div_eq_zero_iff_lt (Nat.two_pow_pos 63)).1 h4
   omega
 · rw [Int.toNat_of_nonpos (by omega)];omega
theorem up_err {a:Fm} (h:okF a=true):Up a.2.2.2 (avF a.2.2.2:Int):=by
 obtain ⟨_,hf⟩:=okF_fin h
 left
 refine ⟨hf.err,?_⟩
 unfold avF
 rw [fv_sg (fI_top.1 hf.err),okF_err h]
 unfold sgV
 simp
theorem up_rad {a:Fm} (h:okF a=true):Up (radF a) (radN a:Int):=by
 obtain ⟨_,hf⟩:=okF_fin h
 rw [radF_eq,h,cond_true]
 have h1:=up_sum (l:=a.2.2.1) (s:=0) (n:=0) hf.tms up_0
 have:=up_add (up_add up_0 h1) (up_err h)
 rw [Int.zero_add] at this
 refine up_mono this ?_
 unfold radN
 rw [sumN_add]
 omega
end
end Su
end
section
namespace Su
open Go Fly
set_option linter.unusedVariables false
noncomputable section
def Rnds (f:Int→Nat) (V s:Int):Prop :=
 (∀ m,bK (f m)≤topN∧fv (f m)*s=V)∨∃ neg M E,M≠0∧(∀ m,f m=RN neg m M E false)∧sgV neg (M*2^E)*s=V*(PS:Int)
theorem addO_all {x y:Nat} (fx:bK x≤topN) (fy:bK y≤topN) (zx:bK x≠0) (hle:kM (bK y)≤2^(kE (bK x)-kE (bK y))*kM (bK x)) (he:kE (bK y)≤kE (bK x)):Rnds (addO x y) (fv x+fv y) 1:=by
 have mx:kM (bK x)≠0:=fun h=>zx (kM_zero.1 h)
 have hx:=kV_sh (k:=bK x) (D:=kE (bK x)-kE (bK y)) (e:=kE (bK y)) (by omega)
 have hy:kM (bK y)*2^(kE (bK y)+SH)=kV (bK y)*PS:=by
  have:=kV_sh (k:=bK y) (D:=0) (e:=kE (bK y)) (by omega)
  rwa [Nat.pow_zero,Nat.one_mul] at this
 have hv:fv x+fv y=sgV (bS x) (kV (bK x))+sgV (bS y) (kV (bK y)):=by rw [fv_sg fx,fv_sg fy]
 have hp0:=Nat.two_pow_pos (kE (bK x)-kE (bK y))
 have hO:∀ mode,addO x y mode=addX (bS x) (bS y) mode (kM (bK x)) (kM (bK y)) (kE (bK x)-kE (bK y)) ((kE (bK y):Int)-1074):=fun _=>rfl
 unfold Rnds
 simp only [hO,Int.mul_one]
 unfold addX
 rw [E_eq2]
 generalize 2^(kE (bK x)-kE (bK y))=D at *
 have hp:D*kM (bK x)≠0:=Nat.mul_ne_zero (by omega) mx
 by_cases hs:bS x=bS y
 · simp only [if_pos hs]
   refine .inr ⟨bS x,_,_,by omega,fun _=>rfl,?_⟩
   rw [hv,← hs,Nat.add_mul]
   exact alg_same _ hx hy
 · simp only [if_neg hs]
   have hs':bS y = !bS x:=by revert hs;cases bS x <;> cases bS y <;> simp
   by_cases h0:D*kM (bK x)=kM (bK y)
   · simp only [if_pos h0]
     have hu:kV (bK x)=kV (bK y):=by
      have h1:kV (bK x)*PS=kV (bK y)*PS:=by rw [← hx,h0,hy]
      exact Nat.eq_of_mul_eq_mul_right (by have:=PS_pos;omega) h1
     refine .inl fun mode=>?_
     have hk:bK (sgN (decide (mode=2)))=0:=by cases decide (mode=2) <;> rfl
     have hk':bK (sgN (decide (mode=2)))≤topN:=by rw [hk];exact Nat.zero_le _
     refine ⟨hk',?_⟩
     rw [fv_sg hk',hk,hv,hu,hs',kV_0]
     exact alg_zero _ _
   · simp only [if_neg h0]
     refine .inr ⟨bS x,_,_,by omega,fun _=>rfl,?_⟩
     rw [hv,hs']
     refine alg_diff _ ?_
     rw [← hy,← Nat.add_mul,← hx,Nat.sub_add_cancel hle]
theorem addF_all {a b:Nat} (fa:bK a≤topN) (fb:bK b≤topN):Rnds (addF a b) (fv a+fv b) 1:=by
 by_cases za:bK a=0
 · by_cases zb:bK b=0
   · left
     intro mode
     have key:∀ r:Nat,bK r=0→bK r≤topN∧fv r*1=fv a+fv b:=fun r hr=>⟨by rw [hr];exact Nat.zero_le _,by rw [fv_zero hr,fv_zero za,fv_zero zb];rfl⟩
     unfold addF
     rw [nanF fa,nanF fb,infF fa,infF fb,show Nat.beq (bK a) 0=true by rw [za];rfl,show Nat.beq (bK b) 0=true by rw [zb];rfl]
     simp only [cond_false,Bool.false_and]
     cases decide (bS a=bS b) with
     | true=>exact key a za
     | false =>
      refine key (sgN (decide (mode=2))) ?_
      cases decide (mode=2) <;> rfl
   · left
     intro mode
     have e:addF a b mode=b:=by
      unfold addF
      rw [nanF fa,nanF fb,infF fa,infF fb,show Nat.beq (bK a) 0=true by rw [za];rfl,beq0 zb];rfl
     rw [e]
     exact ⟨fb,by rw [fv_zero za,Int.zero_add,Int.mul_one]⟩
 · by_cases zb:bK b=0
   · left
     intro mode
     have e:addF a b mode=a:=by
      unfold addF
      rw [nanF fa,nanF fb,infF fa,infF fb,show Nat.beq (bK b) 0=true by rw [zb];rfl,beq0 za];rfl
     rw [e]
     exact ⟨fa,by rw [fv_zero zb,Int.add_zero,Int.mul_one]⟩
   · cases hs:swapF a b with
     | false =>
      have e:∀ mode,addF a b mode=addO a b mode:=fun mode=>by
       unfold addF
       rw [nanF fa,nanF fb,infF fa,infF fb,beq0 za,beq0 zb,hs];rfl
      obtain ⟨h1,h2⟩:=swap_not hs fa fb
      have:=addO_all fa fb za h1 h2
      rwa [← (funext e:addF a b=addO a b)] at this
     | true =>
      have e:∀ mode,addF a b mode=addO b a mode:=fun mode=>by
       unfold addF
       rw [nanF fa,nanF fb,infF fa,infF fb,beq0 za,beq0 zb,hs];rfl
      obtain ⟨h1,h2⟩:=swap_yes hs fa fb
      have:=addO_all fb fa zb h1 h2
      rw [Int.add_comm] at this
      rwa [← (funext e:addF a b=addO b a)] at this
theorem sg_mul (s t:Bool) (a b:Nat):sgV (!decide (s=t)) (a*b)=sgV s a*sgV t b:=by
 unfold sgV
 cases s <;> cases t <;> simp [Int.neg_mul,Int.mul_neg]
theorem two_mul2 (m n i j k e s:Nat) (h:i+j+k+e=i+j+s):m*n*2^(i+j+k)*2^e=m*2^i*(n*2^j)*2^s:=by
 rw [Nat.mul_assoc,← Nat.pow_add,h,Nat.pow_add,Nat.pow_add]
 generalize 2^i=x
 generalize 2^j=y
 generalize 2^s=z
 grind
theorem sg_sc (s:Bool) (n k:Nat):sgV s (n*k)=sgV s n*(k:Int):=by
 unfold sgV
 cases s <;> simp [Int.neg_mul]
theorem mulF_all {a b:Nat} (fa:bK a≤topN) (fb:bK b≤topN):Rnds (mulF a b) (fv a*fv b) (QD:Int):=by
 have e:∀ mode,mulF a b mode=RN (!decide (bS a=bS b)) mode (kM (bK a)*kM (bK b)) (kE (bK a)+kE (bK b)+3852) false:=fun mode=>by
  unfold mulF
  rw [nanF fa,nanF fb,infF fa,infF fb];rfl
 have hv:fv a*fv b=sgV (!decide (bS a=bS b)) (kV (bK a)*kV (bK b)):=by rw [fv_sg fa,fv_sg fb,sg_mul]
 by_cases h0:kM (bK a)*kM (bK b)=0
 · left
   intro mode
   rw [e,h0,RN_zero]
   have hk:∀ s,bK (sgN s)=0:=fun s=>by cases s <;> rfl
   refine ⟨by rw [hk];exact Nat.zero_le _,?_⟩
   rw [fv_zero (hk _),Int.zero_mul,hv]
   have:kV (bK a)*kV (bK b)=0:=by
    unfold kV
    rcases Nat.mul_eq_zero.1 h0 with h | h <;> rw [h] <;> simp
   rw [this]
   unfold sgV;cases (!decide (bS a=bS b)) <;> rfl
 · right
   refine ⟨_,_,_,h0,e,?_⟩
   rw [hv,← sg_sc,← sg_sc]
   refine congrArg (sgV (!decide (bS a=bS b))) ?_
   rw [PS_eq,QD_eq]
   unfold kV
   have h1:SH=3852+EX:=by rw [SH_eq,EX_eq]
   obtain ⟨c,hc⟩:∃ c:Nat,c=3852:=⟨_,rfl⟩
   rw [← hc] at h1 ⊢
   exact two_mul2 (kM (bK a)) (kM (bK b)) (kE (bK a)) (kE (bK b)) c EX SH (by omega)
theorem rk_tri {neg:Bool} {M E:Nat} (h0:rk neg 0 M E≤topN) (m:Int):(awN neg m=true→twN neg m=false→rk neg 0 M E≤rk neg m M E)∧(awN neg m=false→twN neg m=true→rk neg m M E≤rk neg 0 M E):=by
 have a0:awN neg 0=false:=by cases neg <;> rfl
 have t0:twN neg 0=false:=by cases neg <;> rfl
 have e0:rk neg 0 M E=finN false (floorN M E+(hfN M E&&(rsN M E||keepN M E % 2 == 1)).toNat):=by unfold rk upN;rw [a0,t0];rfl
 have hle:floorN M E+(hfN M E&&(rsN M E||keepN M E % 2 == 1)).toNat≤topN:=by
  refine Nat.le_of_not_lt fun h=>?_
  rw [e0,finN_big h] at h0
  have:topN+1≤topN:=h0
  omega
 rw [finN_val hle] at e0
 have hu:(hfN M E&&(rsN M E||keepN M E % 2 == 1)).toNat≤(hfN M E||rsN M E).toNat:=by
  cases hfN M E with
  | false=>simp
  | true=>simp only [Bool.true_and,Bool.true_or];exact Bool.toNat_le _
 constructor
 · intro ha ht
   have e:rk neg m M E=finN false (floorN M E+(hfN M E||rsN M E).toNat):=by unfold rk upN;rw [ha,ht,cond_true]
   rw [e,e0]
   by_cases h:floorN M E+(hfN M E||rsN M E).toNat≤topN
   · rw [finN_val h];omega
   · rw [finN_big (by omega)]
     show _≤topN+1
     omega
 · intro ha ht
   have e:rk neg m M E=finN true (floorN M E):=by unfold rk upN;rw [ha,ht,cond_false,cond_true];rfl
   rw [e,e0,finN_val (by omega)]
   omega
theorem fv_RN {neg:Bool} {m:Int} {M E:Nat} (hM:M≠0) (h:bK (RN neg m M E false)≤topN):fv (RN neg m M E false)=sgV neg (kV (rk neg m M E)):=by
 obtain ⟨p1,p2⟩:=RN_parts (neg:=neg) (mode:=m) (E:=E) hM
 rw [fv_sg h,p1,p2]
theorem RN_tri {neg:Bool} {M E:Nat} (hM:M≠0) (h0:bK (RN neg 0 M E false)≤topN) :
 ((bK (RN neg 1 M E false)≤topN∧sgV neg (M*2^E)≤fv (RN neg 1 M E false)*(PS:Int)∧fv (RN neg 0 M E false)≤fv (RN neg 1 M E false))∨RN neg 1 M E false=9218868437227405312) ∧
 ((bK (RN neg 2 M E false)≤topN∧fv (RN neg 2 M E false)*(PS:Int)≤sgV neg (M*2^E)∧fv (RN neg 2 M E false)≤fv (RN neg 0 M E false))∨RN neg 2 M E false=18442240474082181120):=by
 have hr0:rk neg 0 M E≤topN:=by rw [← (RN_parts hM).1];exact h0
 constructor
 · rcases RN_up (neg:=neg) (E:=E) hM with ⟨h1,h2⟩ | h
   · refine .inl ⟨h1,h2,?_⟩
     rw [fv_RN hM h0,fv_RN hM h1]
     have t:=rk_tri (M:=M) (E:=E) hr0 1
     unfold sgV
     cases neg with
     | false=>exact Int.ofNat_le.2 (kV_le (t.1 rfl rfl))
     | true=>exact Int.neg_le_neg (Int.ofNat_le.2 (kV_le (t.2 rfl rfl)))
   · exact .inr h
 · rcases RN_dn (neg:=neg) (E:=E) hM with ⟨h1,h2⟩ | h
   · refine .inl ⟨h1,h2,?_⟩
     rw [fv_RN hM h0,fv_RN hM h1]
     have t:=rk_tri (M:=M) (E:=E) hr0 2
     unfold sgV
     cases neg with
     | false=>exact Int.ofNat_le.2 (kV_le (t.2 rfl rfl))
     | true=>exact Int.neg_le_neg (Int.ofNat_le.2 (kV_le (t.1 rfl rfl)))
   · exact .inr h
theorem sc_le {v w V s P:Int} (hs:0<s) (hP:0<P) (h:v≤w*P) (e:v*s=V*P):V≤w*s:=by
 refine Int.le_of_mul_le_mul_right ?_ hP
 rw [← e,show w*s*P=w*P*s by grind]
 exact Int.mul_le_mul_of_nonneg_right h (by omega)
theorem sc_ge {v w V s P:Int} (hs:0<s) (hP:0<P) (h:w*P≤v) (e:v*s=V*P):w*s≤V:=by
 refine Int.le_of_mul_le_mul_right ?_ hP
 rw [← e,show w*s*P=w*P*s by grind]
 exact Int.mul_le_mul_of_nonneg_right h (by omega)
theorem rnds_tri {f:Int→Nat} {V s:Int} (hs:0<s) (h:Rnds f V s) (h0:bK (f 0)≤topN) :
 ((bK (f 1)≤topN∧V≤fv (f 1)*s∧fv (f 0)≤fv (f 1))∨f 1=9218868437227405312)∧((bK (f 2)≤topN∧fv (f 2)*s≤V∧fv (f 2)≤fv (f 0))∨f 2=18442240474082181120):=by
 rcases h with h | ⟨neg,M,E,hM,hf,hv⟩
 · obtain ⟨a1,a2⟩:=h 0
   obtain ⟨b1,b2⟩:=h 1
   obtain ⟨c1,c2⟩:=h 2
   have e1:fv (f 1)=fv (f 0):=Int.eq_of_mul_eq_mul_right (by omega) (b2.trans a2.symm)
   have e2:fv (f 2)=fv (f 0):=Int.eq_of_mul_eq_mul_right (by omega) (c2.trans a2.symm)
   exact ⟨.inl ⟨b1,by omega,by omega⟩,.inl ⟨c1,by omega,by omega⟩⟩
 · rw [hf 0] at h0 ⊢
   rw [hf 1,hf 2]
   obtain ⟨t1,t2⟩:=RN_tri hM h0
   exact ⟨t1.imp (fun ⟨a,b,c⟩=>⟨a,sc_le hs PS_pos b hv,c⟩) id,t2.imp (fun ⟨a,b,c⟩=>⟨a,sc_ge hs PS_pos b hv,c⟩) id⟩
theorem rnds_up {f:Int→Nat} {V s:Int} (hs:0<s) (h:Rnds f V s):(bK (f 1)≤topN∧V≤fv (f 1)*s)∨f 1=9218868437227405312:=by
 rcases h with h | ⟨neg,M,E,hM,hf,hv⟩
 · obtain ⟨b1,b2⟩:=h 1
   exact .inl ⟨b1,by omega⟩
 · rw [hf 1]
   exact (RN_up hM).imp (fun ⟨a,b⟩=>⟨a,sc_le hs PS_pos b hv⟩) id
theorem up_neg {x n:Int} (hw:Fw x) (h:Dn x n):Up (negI x) (-n):=by
 unfold negI
 rcases h with ⟨fx,hx⟩ | rfl
 · left
   obtain ⟨h1,h2⟩:=fv_negF (fw_lt hw) (fI_top.1 fx)
   refine ⟨fI_top.2 (by rw [Int.toNat_natCast];exact h1),?_⟩
   rw [Int.toNat_natCast,h2];omega
 · right;rfl
theorem dist_le {a b lo hi:Int} (h1:lo≤a) (h2:a≤hi) (h3:lo≤b) (h4:b≤hi):((a-b).natAbs:Int)≤hi-lo:=by omega
theorem slack_ok {f:Int→Nat} {V s:Int} (hs:0<s) (h:Rnds f V s) (hw:∀ m,f m<18446744073709551616) (h0:bK (f 0)≤topN) :
 ∃ D:Int,0≤D∧Up (addI (f 1:Int) (negI (f 2:Int)) 1) D∧((fv (f 0)*s-V).natAbs:Int)≤D*s:=by
 obtain ⟨t1,t2⟩:=rnds_tri hs h h0
 have big:∀ D0:Int,0≤D0→D0≤D0*s:=fun D0 h=>by
  have:=Int.mul_le_mul_of_nonneg_left (show (1:Int)≤s by omega) h
  omega
 have inf:∀ x:Int,(∃ n,Up x n)→(x=posI∨True):=fun _ _=>.inr trivial
 rcases t1 with ⟨a1,a2,a3⟩ | hu
 · rcases t2 with ⟨b1,b2,b3⟩ | hd
   · refine ⟨fv (f 1)-fv (f 2),by omega,?_,?_⟩
     · have u1:Up (f 1:Int) (fv (f 1)):=.inl ⟨fI_top.2 (by rw [Int.toNat_natCast];exact a1),by rw [Int.toNat_natCast];exact Int.le_refl _⟩
       have d1:Dn (f 2:Int) (fv (f 2)):=.inl ⟨fI_top.2 (by rw [Int.toNat_natCast];exact b1),by rw [Int.toNat_natCast];exact Int.le_refl _⟩
       have:=up_add u1 (up_neg (fw_nat (hw 2)) d1)
       exact up_mono this (by omega)
     · rw [Int.sub_mul]
       have:=Int.mul_le_mul_of_nonneg_right a3 (show 0≤s by omega)
       have:=Int.mul_le_mul_of_nonneg_right b3 (show 0≤s by omega)
       exact dist_le (by omega) (by omega) (by omega) (by omega)
   · refine ⟨((fv (f 0)*s-V).natAbs:Int),by omega,?_,big _ (by omega)⟩
     rw [hd]
     have e:negI ((18442240474082181120:Nat):Int)=posI:=rfl
     rw [e]
     have:=up_add (x:=(f 1:Int)) (y:=posI) (n:=fv (f 1)) (m:=((fv (f 0)*s-V).natAbs:Int)-fv (f 1)) (.inl ⟨fI_top.2 (by rw [Int.toNat_natCast];exact a1),by rw [Int.toNat_natCast];exact Int.le_refl _⟩) (.inr rfl)
     exact up_mono this (by omega)
 · refine ⟨((fv (f 0)*s-V).natAbs:Int),by omega,?_,big _ (by omega)⟩
   rw [hu]
   have ep:((9218868437227405312:Nat):Int)=posI:=rfl
   rw [ep]
   have un:∃ k,Up (negI (f 2:Int)) k:=by
    rcases t2 with ⟨b1,b2,b3⟩ | hd
    · exact ⟨_,up_neg (fw_nat (hw 2)) (.inl ⟨fI_top.2 (by rw [Int.toNat_natCast];exact b1),by rw [Int.toNat_natCast];exact Int.le_refl (fv (f 2))⟩)⟩
    · exact ⟨0,by rw [hd];exact .inr rfl⟩
   obtain ⟨k,hk⟩:=un
   have:=up_add (x:=posI) (n:=((fv (f 0)*s-V).natAbs:Int)-k) (.inr rfl) hk
   exact up_mono this (by omega)
end
end Su
end
section
namespace Su
open Go Fly
end Su
end
