/-
  What functions of the program compute, in plain Lean, and that the evaluator finds it.
-/
import Derived.Test.YtfckjjffdfkelaaGreatSuSd
import Derived.Test.YtfckjjffdfkelaaGreatNC13
set_option maxRecDepth 10000
section
namespace Su
open Go Fly
set_option linter.unusedVariables false
noncomputable section
def aAdd  (a:Int) (b:Int) (mode:Int):Option Int :=
 ((Su.sAdd a b mode)).bind fun x0 =>
 some x0.1
def aMul  (a:Int) (b:Int) (mode:Int):Option Int :=
 ((Su.sMul a b mode)).bind fun x0 =>
 some x0.1
def aUp_l1:(Int×(Int×((List Int)×(Int×(Int×Unit)))))→Option ((Int×(Int×((List Int)×(Int×(Int×Unit))))) ⊕ (Int×(Int×((List Int)×(Int×(Int×Unit)))))):=fun p0=>(bif (decide ((p0.2.2.2.2.1<p0.2.2.2.1))) then
 ((Su.idx p0.2.2.1 p0.2.2.2.2.1)).bind fun x1 =>
 ((Su.sAdd p0.2.1 x1 p0.1)).bind fun x2 =>
 some (.inl (p0.1,(x2.1,(p0.2.2.1,(p0.2.2.2.1,((Go.IntKind.wrap .i64 (p0.2.2.2.2.1+1)),()))))))
 else
  some (.inr (p0.1,(p0.2.1,(p0.2.2.1,(p0.2.2.2.1,(p0.2.2.2.2.1,())))))))
def aUp  (fu:Nat) (l:(List Int)):Option Int :=
 (itP fu (aUp_l1) ((1:Int),((0:Int),(l,((((List.length l):Nat):Int),((0:Int),())))))).bind fun x3 =>
 some x3.2.1
def aAdd_s (p:Int×(Int×Int)):Option Int:=some (addN p.1.toNat p.2.1.toNat p.2.2:Int)
def aMul_s (p:Int×(Int×Int)):Option Int:=some (mulN p.1.toNat p.2.1.toNat p.2.2:Int)
theorem aAdd_ok (p:Int×(Int×Int)) (y:Int) (hg:(dc (cI .u64) (dc (cI .u64) (d1 (cI .u8)))).good p) (h:aAdd_s p=some y):aAdd p.1 p.2.1 p.2.2=some y:=by
 obtain ⟨a,b,mode⟩:=p
 obtain ⟨A,rfl,hA⟩:=asN64 hg.1
 obtain ⟨B,rfl,hB⟩:=asN64 hg.2.1
 have:=soi h;subst this
 unfold aAdd
 obtain ⟨fl,hfl⟩:=sAdd_val hA hB mode
 simp only [] at *
 rw [hfl,addN_eq]
 rfl
theorem aMul_ok (p:Int×(Int×Int)) (y:Int) (hg:(dc (cI .u64) (dc (cI .u64) (d1 (cI .u8)))).good p) (h:aMul_s p=some y):aMul p.1 p.2.1 p.2.2=some y:=by
 obtain ⟨a,b,mode⟩:=p
 obtain ⟨A,rfl,hA⟩:=asN64 hg.1
 obtain ⟨B,rfl,hB⟩:=asN64 hg.2.1
 have:=soi h;subst this
 unfold aMul
 obtain ⟨fl,hfl⟩:=sMul_val hA hB mode
 simp only [] at *
 rw [hfl,mulN_eq]
 rfl
theorem sgN_le (b:Bool):sgN b≤9223372036854775808:=by unfold sgN;cases b <;> simp
theorem finN_le (tw:Bool) (k:Nat):finN tw k≤9218868437227405312:=by
 unfold finN topN
 cases h:Nat.ble k 9218868437227405311 with
 | true=>have:=Nat.le_of_ble_eq_true h;rw [cond_true];omega
 | false=>cases tw <;> simp only [cond_true,cond_false] <;> omega
theorem RN_lt (neg:Bool) (mode:Int) (M E:Nat) (rest:Bool):RN neg mode M E rest<18446744073709551616:=by
 have h1:=sgN_le neg
 unfold RN
 cases Nat.beq M 0 with
 | true=>rw [cond_true];omega
 | false =>
  rw [cond_false]
  have:=finN_le (twN neg mode) (floorN M E+(upN neg mode (keepN M E % 2 == 1) (hfN M E) (rest||rsN M E)).toNat)
  omega
theorem addX_lt (nx ny:Bool) (mode:Int) (X Y D:Nat) (ey:Int):addX nx ny mode X Y D ey<18446744073709551616:=by
 unfold addX
 split
 · exact RN_lt _ _ _ _ _
 · split
   · have:=sgN_le (decide (mode=2));omega
   · exact RN_lt _ _ _ _ _
theorem addN_lt {a b:Nat} (ha:a<18446744073709551616) (hb:b<18446744073709551616) (mode:Int):addN a b mode<18446744073709551616:=by
 rw [addN_eq]
 unfold addF addO
 have h2:=sgN_le (decide (mode=2))
 generalize nanK (bK a)=c1
 generalize nanK (bK b)=c2
 generalize infK (bK a)=c3
 generalize infK (bK b)=c4
 generalize Nat.beq (bK a) 0=c5
 generalize Nat.beq (bK b) 0=c6
 generalize decide (bS a=bS b)=c7
 generalize swapF a b=c8
 have h3:=addX_lt (bS b) (bS a) mode (kM (bK b)) (kM (bK a)) (kE (bK b)-kE (bK a)) ((kE (bK a):Int)-1074)
 have h4:=addX_lt (bS a) (bS b) mode (kM (bK a)) (kM (bK b)) (kE (bK a)-kE (bK b)) ((kE (bK b):Int)-1074)
 generalize addX (bS b) (bS a) mode (kM (bK b)) (kM (bK a)) (kE (bK b)-kE (bK a)) ((kE (bK a):Int)-1074)=z1 at *
 generalize addX (bS a) (bS b) mode (kM (bK a)) (kM (bK b)) (kE (bK a)-kE (bK b)) ((kE (bK b):Int)-1074)=z2 at *
 generalize sgN (decide (mode=2))=z3 at *
 cases c1
 · cases c2
   · cases c3 <;> cases c4 <;> cases c5 <;> cases c6 <;> cases c7 <;> cases c8 <;> simp only [cond_true,cond_false,Bool.and_true,Bool.and_false,Bool.true_and,Bool.false_and,Bool.not_true,Bool.not_false] <;> omega
   · simp only [cond_true,cond_false];omega
 · simp only [cond_true,cond_false];omega
theorem mulN_lt {a b:Nat} (mode:Int):mulN a b mode<18446744073709551616:=by
 rw [mulN_eq]
 unfold mulF
 have h1:=RN_lt (!decide (bS a=bS b)) mode (kM (bK a)*kM (bK b)) (kE (bK a)+kE (bK b)+3852) false
 have h2:=sgN_le (!decide (bS a=bS b))
 generalize nanK (bK a)=c1
 generalize nanK (bK b)=c2
 generalize (infK (bK a)||infK (bK b))=c3
 generalize (Nat.beq (bK a) 0||Nat.beq (bK b) 0)=c4
 generalize RN (!decide (bS a=bS b)) mode (kM (bK a)*kM (bK b)) (kE (bK a)+kE (bK b)+3852) false=z1 at *
 generalize sgN (!decide (bS a=bS b))=z2 at *
 cases c1 <;> cases c2 <;> cases c3 <;> cases c4 <;> simp only [cond_true,cond_false,Bool.and_true,Bool.and_false] <;> omega
def upS (s:Nat):List Int→Nat
 | []=>s
 | x::l=>upS (addN s x.toNat 1) l
def aUp_s (l:List Int):Option Int:=some (upS 0 l:Int)
theorem up_loop (l0:List Int):∀ (l:List Int) (i s:Nat),l0.drop i=l→i≤l0.length→(∀ x∈l,inR .u64 x=true)→s<18446744073709551616→l0.length≤9223372036854775807 →
 ∃ n,itP n aUp_l1 (1,((s:Int),(l0,((l0.length:Int),((i:Int),())))))=some (1,((upS s l:Int),(l0,((l0.length:Int),((l0.length:Int),())))))
 | [],i,s,hl,hi,_,_,_=>by
  have:l0.length≤i:=by
   rcases Nat.lt_or_ge i l0.length with h | h
   · rw [List.drop_eq_getElem_cons h] at hl;cases hl
   · exact h
  have:i=l0.length:=by omega
  subst this
  refine it_end ?_
  simp only [aUp_l1]
  rw [decide_eq_false (by omega),cond_false];rfl
 | x::l,i,s,hl,hi,hx,hs,hlen=>by
  have hlt:i<l0.length:=by
   rcases Nat.lt_or_ge i l0.length with h | h
   · exact h
   · rw [List.drop_of_length_le h] at hl;cases hl
  have hc:=List.drop_eq_getElem_cons hlt
  rw [hc] at hl
  simp only [List.cons.injEq] at hl
  obtain ⟨h1,h2⟩:=hl
  obtain ⟨X,rfl,hX⟩:=asN64 (hx x (List.mem_cons_self ..))
  obtain ⟨fl,hfl⟩:=sAdd_val hs hX 1
  obtain ⟨n,hn⟩:=up_loop l0 l (i+1) (addN s X 1) h2 (by omega) (fun y hy=>hx y (List.mem_cons_of_mem _ hy)) (addN_lt hs hX 1) hlen
  refine it_next ?_ ⟨n,hn⟩
  simp only [aUp_l1]
  rw [decide_eq_true (by omega),cond_true,idx_nat,List.getElem?_eq_getElem hlt,h1,Option.bind_some,hfl,Option.bind_some,w64 (by omega) (by omega),addN_eq]
  rfl
theorem aUp_ok (l:List Int) (y:Int) (hg:(d1 (cQ 2 1)).good l) (h:aUp_s l=some y):∃ n,aUp n l=some y:=by
 have:=soi h;subst this
 have hl:=hg.2
 rw [maxLen_eq] at hl
 obtain ⟨n,hn⟩:=up_loop l l 0 0 rfl (Nat.zero_le _) (fun x hx=>hg.1 x hx) (by decide) hl
 refine ⟨n,?_⟩
 unfold aUp
 have e:((0:Nat):Int)=0:=rfl
 rw [e] at hn
 rw [hn];rfl
end
end Su
end
section
namespace Su
open Go Fly
set_option linter.unusedVariables false
noncomputable section
def dDel_l2:(Nat×(Int×(Int×((List Su.T)×Unit))))→Option ((Nat×(Int×(Int×((List Su.T)×Unit)))) ⊕ (Nat×(Int×(Int×((List Su.T)×Unit))))):=fun p8=>(bif (decide ((p8.2.2.1<((p8.1:Nat):Int)))) then
 (bif ((true&&(decide ((0≤p8.2.2.1))))&&(decide ((p8.2.2.1<((p8.1:Nat):Int))))) then
 ((p8.2.2.2.1)[(0+(Int.toNat p8.2.2.1))]?).bind fun x9 =>
 (((Su.T.cells x9))[0]?).bind fun x10 =>
 ((Su.asI .i64 (.t x10))).bind fun x11 =>
 (((Su.T.cells x9))[1]?).bind fun x12 =>
 ((Su.asI .u64 (.t x12))).bind fun x13 =>
 (bif (!(Nat.beq (Su.bK (Int.toNat x13)) 0)) then
 (bif ((true&&(decide ((0≤p8.2.1))))&&(decide ((p8.2.1<((p8.1:Nat):Int))))) then
 ((p8.2.2.2.1)[(0+(Int.toNat p8.2.1))]?).bind fun x14 =>
 some (.inl (p8.1,((Go.IntKind.wrap .i64 (p8.2.1+1)),((Go.IntKind.wrap .i64 (p8.2.2.1+1)),((List.set p8.2.2.2.1 (0+(Int.toNat p8.2.1)) (T.agg [(T.s (.int .i64 x11)),(T.s (.int .u64 x13))])),())))))
 else
  none)
 else
  some (.inl (p8.1,(p8.2.1,((Go.IntKind.wrap .i64 (p8.2.2.1+1)),(p8.2.2.2.1,()))))))
 else
  none)
 else
  some (.inr (p8.1,(p8.2.1,(p8.2.2.1,(p8.2.2.2.1,()))))))
abbrev dDel_l1_S:=(Nat×(Int×(Int×((List Su.T)×Unit))))
def dDel_l1 (l:(List Su.Tm)) (fu:Nat):dDel_l1_S→Option (dDel_l1_S ⊕ (Lp dDel_l1_S (List Su.Tm))):=fun p0=>(bif (decide ((p0.2.2.1<p0.2.1))) then
 (bif ((true&&(decide ((0≤p0.2.2.1))))&&(decide ((p0.2.2.1<((p0.1:Nat):Int))))) then
 ((p0.2.2.2.1)[(0+(Int.toNat p0.2.2.1))]?).bind fun x1 =>
 (((Su.T.cells x1))[0]?).bind fun x2 =>
 ((Su.asI .i64 (.t x2))).bind fun x3 =>
 (((Su.T.cells x1))[1]?).bind fun x4 =>
 ((Su.asI .u64 (.t x4))).bind fun x5 =>
 (bif (Nat.beq (Su.bK (Int.toNat x5)) 0) then
 ((bif (decide ((p0.2.2.1=(-1)))) then
 ((Su.sub p0.2.2.2.1 0 (List.length (List.map (fun z6=>(T.agg [(T.s (.int .i64 (Su.Tm.id z6))),(T.s (.int .u64 (Su.Tm.c z6)))])) l)))).bind fun x7 =>
 (Su.unTms x7)
 else
  (itP fu (dDel_l2) ((List.length (List.map (fun z15=>(T.agg [(T.s (.int .i64 (Su.Tm.id z15))),(T.s (.int .u64 (Su.Tm.c z15)))])) l)),(p0.2.2.1,((Go.IntKind.wrap .i64 (p0.2.2.1+1)),(p0.2.2.2.1,()))))).bind fun x16 =>
  (bif (((true&&(decide ((0≤x16.2.1))))&&(decide ((x16.2.1≤((x16.1:Nat):Int)))))&&(decide ((((x16.1:Nat):Int)≤((x16.1:Nat):Int))))) then
  (bif ((true&&(Nat.beq (List.length (Su.T.cells (T.agg (List.cons (T.s (.int .i64 0)) (List.cons (T.s (.int .u64 0)) []))))) 2))&&(Nat.ble ((0+(Int.toNat x16.2.1))+(Int.toNat (((x16.1:Nat):Int)-x16.2.1))) (List.length x16.2.2.2.1))) then
  (bif ((true&&(decide ((0≤x16.2.1))))&&(decide ((x16.2.1≤((x16.1:Nat):Int))))) then
  ((Su.sub ((List.take (0+(Int.toNat x16.2.1)) x16.2.2.2.1)++((List.replicate (Int.toNat (((x16.1:Nat):Int)-x16.2.1)) (T.agg (List.cons (T.s (.int .i64 0)) (List.cons (T.s (.int .u64 0)) []))))++(List.drop ((0+(Int.toNat x16.2.1))+(Int.toNat (((x16.1:Nat):Int)-x16.2.1))) x16.2.2.2.1))) 0 (Int.toNat (x16.2.1-0)))).bind fun x17 =>
  (Su.unTms x17)
 else
  none)
 else
  none)
 else
  none))).bind fun x18 =>
  some (.inr (.ret x18))
 else
  some (.inl (p0.1,(p0.2.1,((Go.IntKind.wrap .i64 (p0.2.2.1+1)),(p0.2.2.2.1,()))))))
 else
  none)
 else
  some (.inr (.exit 0 (p0.1,(p0.2.1,(p0.2.2.1,(p0.2.2.2.1,())))))))
def dDel  (fu:Nat) (l:(List Su.Tm)) (u:Unit):Option (List Su.Tm) :=
 (itP fu (dDel_l1 l fu) ((List.length (List.map (fun z19=>(T.agg [(T.s (.int .i64 (Su.Tm.id z19))),(T.s (.int .u64 (Su.Tm.c z19)))])) l)),((((List.length (List.map (fun z20=>(T.agg [(T.s (.int .i64 (Su.Tm.id z20))),(T.s (.int .u64 (Su.Tm.c z20)))])) l)):Nat):Int),((0:Int),((List.map (fun z21=>(T.agg [(T.s (.int .i64 (Su.Tm.id z21))),(T.s (.int .u64 (Su.Tm.c z21)))])) l),()))))).bind fun x22 =>
 (match x22 with
 | .exit i23 p24=>(bif (Nat.beq i23 0) then
  ((Su.sub p24.2.2.2.1 0 (List.length (List.map (fun z25=>(T.agg [(T.s (.int .i64 (Su.Tm.id z25))),(T.s (.int .u64 (Su.Tm.c z25)))])) l)))).bind fun x26 =>
  (Su.unTms x26)
 else
  none)
 | .ret o27=>some o27)
def dDelT_l2:((List Su.Tm)×(Int×(Int×Unit)))→Option (((List Su.Tm)×(Int×(Int×Unit))) ⊕ ((List Su.Tm)×(Int×(Int×Unit)))):=fun p2=>(bif (decide ((p2.2.2.1<(((List.length p2.1):Nat):Int)))) then
 ((Su.idx p2.1 p2.2.2.1)).bind fun x3 =>
 (bif (!(Nat.beq (Su.bK (Int.toNat (Su.Tm.c x3))) 0)) then
 ((Su.idx p2.1 p2.2.1)).bind fun x4 =>
 none
 else
  some (.inl (p2.1,(p2.2.1,((Go.IntKind.wrap .i64 (p2.2.2.1+1)),())))))
 else
  some (.inr (p2.1,(p2.2.1,(p2.2.2.1,())))))
def dDelT_l1 (fu:Nat) (l:(List Su.Tm)):((List Su.Tm)×(Int×(Int×Unit)))→Option (((List Su.Tm)×(Int×(Int×Unit))) ⊕ (Lp ((List Su.Tm)×(Int×(Int×Unit))) (List Su.Tm))):=fun p0=>(bif (decide ((p0.2.2.1<p0.2.1))) then
 ((Su.idx p0.1 p0.2.2.1)).bind fun x1 =>
 (bif (Nat.beq (Su.bK (Int.toNat (Su.Tm.c x1))) 0) then
 ((bif (decide ((p0.2.2.1=(-1)))) then
 some l
 else
  (itP fu (dDelT_l2) (l,(p0.2.2.1,((Go.IntKind.wrap .i64 (p0.2.2.1+1)),())))).bind fun x5 =>
  (bif (true&&(((decide ((0≤x5.2.1)))&&(decide ((x5.2.1≤(((List.length x5.1):Nat):Int)))))&&(decide (((((List.length x5.1):Nat):Int)≤(((List.length x5.1):Nat):Int)))))) then
  none
 else
  none))).bind fun x6 =>
  some (.inr (.ret x6))
 else
  some (.inl (p0.1,(p0.2.1,((Go.IntKind.wrap .i64 (p0.2.2.1+1)),())))))
 else
  some (.inr (.exit 0 (p0.1,(p0.2.1,(p0.2.2.1,()))))))
def dDelT  (fu:Nat) (l:(List Su.Tm)) (u:Unit):Option (List Su.Tm) :=
 (itP fu (dDelT_l1 fu l) (l,((((List.length l):Nat):Int),((0:Int),())))).bind fun x7 =>
 (match x7 with
 | .exit i8 p9=>(bif (Nat.beq i8 0) then
  some l
 else
  none)
 | .ret o10=>some o10)
def aCont_l1:((List Su.Tm)×(Int×(Int×Unit)))→Option (((List Su.Tm)×(Int×(Int×Unit))) ⊕ (Lp ((List Su.Tm)×(Int×(Int×Unit))) Bool)):=fun p0=>(bif (decide ((p0.2.2.1<p0.2.1))) then
 ((Su.idx p0.1 p0.2.2.1)).bind fun x1 =>
 (bif (!(Su.finK (Su.bK (Int.toNat (Su.Tm.c x1))))) then
 some (.inr (.ret (decide ((0≤p0.2.2.1)))))
 else
  some (.inl (p0.1,(p0.2.1,((Go.IntKind.wrap .i64 (p0.2.2.1+1)),())))))
 else
  some (.inr (.exit 0 (p0.1,(p0.2.1,(p0.2.2.1,()))))))
def aCont  (fu:Nat) (l:(List Su.Tm)) (u:Unit):Option Bool :=
 (itP fu (aCont_l1) (l,((((List.length l):Nat):Int),((0:Int),())))).bind fun x2 =>
 (match x2 with
 | .exit i3 p4=>(bif (Nat.beq i3 0) then
  some false
 else
  none)
 | .ret o5=>some o5)
abbrev vT:Tm→T:=view 10
def zI (f:Int):Bool:=Nat.beq (bK f.toNat) 0
def fI (f:Int):Bool:=finK (bK f.toNat)
def delZ (l:List Tm):List Tm:=l.filter fun t=>!zI t.c
theorem unTms_map (l:List Tm):unTms (l.map vT)=some l:=cRow.de l
theorem vT_0 (t:Tm):(T.cells (vT t))[0]?=some (.s (.int .i64 t.id)):=rfl
theorem vT_1 (t:Tm):(T.cells (vT t))[1]?=some (.s (.int .u64 t.c)):=rfl
theorem asI_self (κ:IntKind) (n:Int):asI κ (.t (.s (.int κ n)))=some n:=by simp [asI]
theorem vT_mk (t:Tm):T.agg [T.s (.int .i64 t.id),T.s (.int .u64 t.c)]=vT t:=rfl
theorem sub_pre (A B:List T) (n:Nat) (h:n=A.length):sub (A++B) 0 n=some A:=by
 subst h
 unfold sub
 rw [show Nat.ble (0+A.length) (A++B).length=true by rw [Nat.ble_eq];simp]
 rw [cond_true,List.drop_zero,List.take_left]
theorem sub_whole (A:List T) (n:Nat) (h:n=A.length):sub A 0 n=some A:=by
 have:=sub_pre A [] n h
 rwa [List.append_nil] at this
theorem get_mid (A B C:List T) (x:T) (n:Nat) (h:n=A.length+B.length):(A++(B++x::C))[n]?=some x:=by
 subst h
 rw [List.getElem?_append_right (by omega),List.getElem?_append_right (by omega),show A.length+B.length-A.length-B.length=0 by omega]
 rfl
theorem set_mid (A B:List T) (x y:T) (n:Nat) (h:n=A.length):(A++(x::B)).set n y=A++(y::B):=by
 subst h
 rw [List.set_append,if_neg (by omega),Nat.sub_self];rfl
theorem del_inner (N:Nat) (hN:N<9223372036854775808):∀ (rest A:List Tm) (b:T) (B:List T) (n:Nat),rest.length<n→A.length+(B.length+1)+rest.length=N →
 ∃ B',A.length+(delZ rest).length+B'.length=N∧itP n dDel_l2 (N,((A.length:Int),(((A.length+(B.length+1):Nat):Int),(A.map vT++((b::B)++rest.map vT),()))))=some (N,(((A++delZ rest).length:Int),((N:Int),((A++delZ rest).map vT++B',()))))
 | [],A,b,B,n+1,hn,h=>by
  refine ⟨b::B,by simp only [List.length_cons,delZ,List.filter_nil,List.length_nil] at *;omega,?_⟩
  rw [itP_s]
  simp only [dDel_l2]
  simp only [List.length_nil,Nat.add_zero] at h
  rw [h,decide_eq_false (by omega),cond_false,Option.bind_some]
  simp [delZ]
 | t::rest,A,b,B,n+1,hn,h=>by
  simp only [List.length_cons] at hn h
  rw [itP_s]
  simp only [dDel_l2]
  have hj:(0+Int.toNat ((A.length+(B.length+1):Nat):Int))=(A.map vT).length+(b::B).length:=by simp;omega
  have hi:(0+Int.toNat (A.length:Int))=(A.map vT).length:=by simp
  have hw:IntKind.i64.wrap (((A.length+(B.length+1):Nat):Int)+1)=((A.length+(B.length+1+1):Nat):Int):=by rw [w64 (by omega) (by omega)];omega
  rw [decide_eq_true (show ((A.length+(B.length+1):Nat):Int)<(N:Int) by omega),decide_eq_true (show (0:Int)≤((A.length+(B.length+1):Nat):Int) by omega)]
  simp only [cond_true,Bool.and_true]
  rw [List.map_cons,get_mid _ _ _ _ _ hj,Option.bind_some,vT_0,Option.bind_some,asI_self,Option.bind_some,vT_1,Option.bind_some,asI_self,Option.bind_some]
  have hz:Nat.beq (bK (Int.toNat t.c)) 0=zI t.c:=rfl
  rw [hz]
  cases hzi:zI t.c with
  | false =>
   have e1:delZ (t::rest)=t::delZ rest:=by unfold delZ;rw [List.filter_cons];simp [hzi]
   obtain ⟨b2,B2,e2⟩:∃ b2 B2,B++[vT t]=b2::B2:=by cases B with | nil=>exact ⟨_,_,rfl⟩ | cons x B=>exact ⟨_,_,rfl⟩
   have e3:B2.length=B.length:=by have:=congrArg List.length e2;simp at this;omega
   obtain ⟨B',q1,q2⟩:=del_inner N hN rest (A++[t]) b2 B2 n (by omega) (by simp;omega)
   refine ⟨B',by rw [e1];simp at q1 ⊢;omega,?_⟩
   rw [Bool.not_false,cond_true,decide_eq_true (show (0:Int)≤(A.length:Int) by omega),decide_eq_true (show (A.length:Int)<(N:Int) by omega)]
   simp only [cond_true,Bool.and_true]
   rw [show (A.map vT++(b::B++vT t::rest.map vT))[0+Int.toNat (A.length:Int)]?=some b from get_mid (A.map vT) [] _ b _ (by simp),Option.bind_some]
   rw [vT_mk,List.cons_append,set_mid _ _ _ _ _ hi,hw,w64 (by omega) (by omega)]
   rw [e1]
   have e4:A.map vT++(vT t::(B++vT t::rest.map vT))=(A++[t]).map vT++(b2::B2++rest.map vT):=by
    rw [← e2];simp
   rw [e4,show ((A.length:Int)+1)=(((A++[t]).length:Nat):Int) by simp]
   rw [show (A.length+(B.length+1+1):Nat)=(A++[t]).length+(B2.length+1) by simp;omega]
   refine q2.trans ?_
   rw [List.append_assoc];rfl
  | true =>
   have e1:delZ (t::rest)=delZ rest:=by unfold delZ;rw [List.filter_cons];simp [hzi]
   obtain ⟨B',q1,q2⟩:=del_inner N hN rest A b (B++[vT t]) n (by omega) (by simp;omega)
   refine ⟨B',by rw [e1];exact q1,?_⟩
   rw [Bool.not_true,cond_false,hw,e1]
   rw [show A.map vT++(b::B++vT t::rest.map vT)=A.map vT++(b::(B++[vT t])++rest.map vT) by simp]
   rw [show (A.length+(B.length+1+1):Nat)=A.length+((B++[vT t]).length+1) by simp]
   exact q2
theorem delZ_none {l:List Tm} (h:∀ t∈l,zI t.c=false):delZ l=l:=List.filter_eq_self.2 fun t ht=>by rw [h t ht];rfl
theorem delZ_split {A rest:List Tm} {t:Tm} (h:∀ t∈A,zI t.c=false) (ht:zI t.c=true):delZ (A++t::rest)=A++delZ rest:=by
 have e:delZ (A++t::rest)=delZ A++delZ (t::rest):=List.filter_append ..
 rw [e,delZ_none h]
 congr 1
 unfold delZ;rw [List.filter_cons];simp [ht]
theorem del_outer (l:List Tm) (fu N:Nat) (hN:N<9223372036854775808) (hl:l.length=N) (hfu:N<fu):∀ (rest A:List Tm) (n:Nat),A++rest=l→(∀ t∈A,zI t.c=false)→rest.length<n →
 ∃ y,itP n (dDel_l1 l fu) (N,((N:Int),((A.length:Int),(l.map vT,()))))=some y∧(y = .exit 0 (N,((N:Int),((N:Int),(l.map vT,()))))∧delZ l=l∨y = .ret (delZ l))
 | [],A,n+1,hA,hz,hn=>by
  rw [List.append_nil] at hA;subst hA
  refine ⟨_,?_,.inl ⟨rfl,delZ_none hz⟩⟩
  rw [itP_s]
  simp only [dDel_l1]
  rw [hl,decide_eq_false (by omega),cond_false,Option.bind_some]
 | t::rest,A,n+1,hA,hz,hn=>by
  have hNl:A.length+(rest.length+1)=N:=by rw [← hl,← hA];simp
  rw [itP_s]
  simp only [dDel_l1,List.length_map,hl]
  rw [decide_eq_true (show (A.length:Int)<(N:Int) by omega),decide_eq_true (show (0:Int)≤(A.length:Int) by omega)]
  simp only [cond_true,Bool.and_true]
  have hg:(l.map vT)[0+Int.toNat (A.length:Int)]?=some (vT t):=by
   rw [← hA,List.map_append,List.map_cons]
   exact get_mid (A.map vT) [] _ (vT t) _ (by simp)
  rw [hg,Option.bind_some,vT_0,Option.bind_some,asI_self,Option.bind_some,vT_1,Option.bind_some,asI_self,Option.bind_some]
  have hzz:Nat.beq (bK (Int.toNat t.c)) 0=zI t.c:=rfl
  rw [hzz]
  cases hzi:zI t.c with
  | false =>
   obtain ⟨y,q1,q2⟩:=del_outer l fu N hN hl hfu rest (A++[t]) n (by rw [← hA];simp) (fun u hu=>by
    rcases List.mem_append.1 hu with hu | hu
    · exact hz u hu
    · rw [List.mem_singleton.1 hu];exact hzi) (by simp at hn;omega)
   refine ⟨y,?_,q2⟩
   rw [cond_false,Option.bind_some,w64 (by omega) (by omega)]
   rw [show ((A.length:Int)+1)=(((A++[t]).length:Nat):Int) by simp]
   exact q1
  | true =>
   obtain ⟨B',q1,q2⟩:=del_inner N hN rest A (vT t) [] fu (by omega) (by simp;omega)
   refine ⟨_,?_,.inr rfl⟩
   rw [cond_true,decide_eq_false (by omega),cond_false]
   have hrow:l.map vT=A.map vT++([vT t]++rest.map vT):=by rw [← hA];simp
   rw [hrow,w64 (by omega) (by omega),show ((A.length:Int)+1)=((A.length+(([]:List T).length+1):Nat):Int) by simp,q2]
   simp only [Option.bind_some]
   have hK:(A++delZ rest).length≤N:=by simp at q1 ⊢;omega
   have hlen:((A++delZ rest).map vT++B').length=N:=by simp at q1 ⊢;omega
   have ht1:(0+Int.toNat ((A++delZ rest).length:Int))=((A++delZ rest).map vT).length:=by simp;omega
   rw [decide_eq_true (show (0:Int)≤((A++delZ rest).length:Int) by omega),decide_eq_true (show ((A++delZ rest).length:Int)≤(N:Int) by omega),decide_eq_true (show (N:Int)≤(N:Int) by omega)]
   rw [show Nat.beq (List.length (T.cells (T.agg [T.s (.int .i64 0),T.s (.int .u64 0)]))) 2=true from rfl,hlen]
   rw [show Nat.ble (0+Int.toNat ((A++delZ rest).length:Int)+Int.toNat ((N:Int)-((A++delZ rest).length:Int))) N=true by rw [Nat.ble_eq];omega]
   simp only [Bool.and_true,cond_true]
   rw [ht1,List.take_left,sub_pre _ _ _ (by simp;omega)]
   simp only [Option.bind_some,unTms_map]
   rw [← hA,delZ_split hz hzi]
   rfl
def dDel_s (p:List Tm×Unit):Option (List Tm):=some (delZ p.1)
theorem dDel_ok (p:List Tm×Unit) (y:List Tm) (hg:(dc cRow (d1 (cF 176))).good p) (h:dDel_s p=some y):∃ n,dDel n p.1 p.2=some y:=by
 obtain ⟨l,u⟩:=p
 have:=soi h;subst this
 have hl':l.length≤9223372036854775807:=by have:=hg.1.2;rw [maxLen_eq] at this;exact this
 have hl:l.length<9223372036854775808:=by omega
 obtain ⟨z,q1,q2⟩:=del_outer l (l.length+1) l.length hl rfl (by omega) l [] (l.length+1) rfl (fun t ht=>by cases ht) (by omega)
 refine ⟨l.length+1,?_⟩
 unfold dDel
 simp only [List.length_map]
 have q1':itP (l.length+1) (dDel_l1 l (l.length+1)) (l.length,((l.length:Int),((0:Int),(l.map vT,()))))=some z:=q1
 rw [show (l.map fun z21=>T.agg [T.s (.int .i64 (Su.Tm.id z21)),T.s (.int .u64 (Su.Tm.c z21))])=l.map vT from rfl,q1',Option.bind_some]
 rcases q2 with ⟨rfl,e⟩ | rfl
 · simp only []
   rw [show Nat.beq 0 0=true from rfl,cond_true,sub_whole _ _ (by simp),e]
   exact unTms_map l
 · rfl
def aCont_s (p:List Tm×Unit):Option Bool:=some (p.1.any fun t=>!fI t.c)
theorem cont_loop (l:List Tm) (hl:l.length<9223372036854775808):∀ (rest A:List Tm),A++rest=l→∃ n y,itP n aCont_l1 (l,((l.length:Int),((A.length:Int),())))=some y∧(y = .exit 0 (l,((l.length:Int),((l.length:Int),())))∧(rest.any fun t=>!fI t.c)=false∨y = .ret true∧(rest.any fun t=>!fI t.c)=true)
 | [],A,hA=>by
  rw [List.append_nil] at hA;subst hA
  refine ⟨1,_,?_,.inl ⟨rfl,rfl⟩⟩
  rw [itP_s]
  simp only [aCont_l1]
  rw [decide_eq_false (by omega),cond_false];rfl
 | t::rest,A,hA=>by
  have hNl:A.length+(rest.length+1)=l.length:=by rw [← hA];simp
  have hg:idx l (A.length:Int)=some t:=by
   rw [idx_nat,← hA,List.getElem?_append_right (by omega),Nat.sub_self];rfl
  have hzz:finK (bK (Int.toNat t.c))=fI t.c:=rfl
  cases hzi:fI t.c with
  | true =>
   obtain ⟨n,y,q1,q2⟩:=cont_loop l hl rest (A++[t]) (by rw [← hA];simp)
   refine ⟨n+1,y,?_,?_⟩
   · rw [itP_s]
     simp only [aCont_l1]
     rw [decide_eq_true (show (A.length:Int)<(l.length:Int) by omega),cond_true,hg,Option.bind_some,hzz,hzi,Bool.not_true,cond_false,Option.bind_some,w64 (by omega) (by omega)]
     rw [show ((A.length:Int)+1)=(((A++[t]).length:Nat):Int) by simp]
     exact q1
   · simpa [hzi] using q2
  | false =>
   refine ⟨1,.ret true,?_,.inr ⟨rfl,by simp [hzi]⟩⟩
   rw [itP_s]
   simp only [aCont_l1]
   rw [decide_eq_true (show (A.length:Int)<(l.length:Int) by omega),cond_true,hg,Option.bind_some,hzz,hzi,Bool.not_false,cond_true,decide_eq_true (show (0:Int)≤(A.length:Int) by omega)]
   rfl
theorem aCont_ok (p:List Tm×Unit) (y:Bool) (hg:(dc cTms (d1 (cF 178))).good p) (h:aCont_s p=some y):∃ n,aCont n p.1 p.2=some y:=by
 obtain ⟨l,u⟩:=p
 have:=soi h;subst this
 have hl':l.length≤9223372036854775807:=by have:=hg.1.2;rw [maxLen_eq] at this;exact this
 have hl:l.length<9223372036854775808:=by omega
 obtain ⟨n,z,q1,q2⟩:=cont_loop l hl l [] rfl
 refine ⟨n,?_⟩
 unfold aCont
 have q1':itP n aCont_l1 (l,((l.length:Int),((0:Int),())))=some z:=q1
 simp only []
 rw [q1',Option.bind_some]
 rcases q2 with ⟨rfl,e⟩ | ⟨rfl,e⟩
 · simp only [e];rfl
 · simp only [e]
def dDelT_s (p:List Tm×Unit):Option (List Tm):=bif p.1.all fun t=>!zI t.c then some p.1 else none
theorem delT_loop2 (l:List Tm) (hl:l.length<9223372036854775808) (hz:∀ t∈l,zI t.c=false):∀ fu n rest A,rest.length<n→A++rest=l→itP n (dDelT_l1 fu l) (l,((l.length:Int),(((A:List Tm).length:Int),())))=some (.exit 0 (l,((l.length:Int),((l.length:Int),())))):=by
 intro fu n
 induction n with
 | zero=>intro rest A h;omega
 | succ n ih =>
  intro rest A h hA
  rw [itP_s]
  simp only [dDelT_l1]
  match rest,h,hA with
  | [],_,hA =>
   rw [List.append_nil] at hA;subst hA
   rw [decide_eq_false (by omega),cond_false];rfl
  | t::rest,h,hA =>
   have hNl:A.length+(rest.length+1)=l.length:=by rw [← hA];simp
   have hg:idx l (A.length:Int)=some t:=by
    rw [idx_nat,← hA,List.getElem?_append_right (by omega),Nat.sub_self];rfl
   have hzz:Nat.beq (bK (Int.toNat t.c)) 0=zI t.c:=rfl
   rw [decide_eq_true (show (A.length:Int)<(l.length:Int) by omega),cond_true,hg,Option.bind_some,hzz,hz t (by rw [← hA];simp),cond_false,Option.bind_some,w64 (by omega) (by omega)]
   rw [show ((A.length:Int)+1)=(((A++[t]).length:Nat):Int) by simp]
   exact ih rest (A++[t]) (by simp at h;omega) (by rw [← hA];simp)
theorem dDelT_ok (p:List Tm×Unit) (y:List Tm) (hg:(dc cTms (d1 (cF 176))).good p) (h:dDelT_s p=some y):∃ n,dDelT n p.1 p.2=some y:=by
 obtain ⟨l,u⟩:=p
 obtain ⟨h1,h2⟩:=bif_some h
 have:=soi h2;subst this
 have hl':l.length≤9223372036854775807:=by have:=hg.1.2;rw [maxLen_eq] at this;exact this
 have q:=delT_loop2 l (by omega) (fun t ht=>by have:=List.all_eq_true.1 h1 t ht;simpa using this) (l.length+1) (l.length+1) l [] (by omega) rfl
 refine ⟨l.length+1,?_⟩
 unfold dDelT
 exact obs q rfl
end
end Su
end
section
namespace Su
open Go Fly
set_option linter.unusedVariables false
noncomputable section
def aDone  (a:(Bool×(Int×((List Su.Tm)×Int)))):Option (Bool×(Int×((List Su.Tm)×Int))) :=
 (bif (true&&(Nat.beq (List.length (List.map (fun z0=>(T.agg [(T.s (.int .i64 (Su.Tm.id z0))),(T.s (.int .u64 (Su.Tm.c z0)))])) a.2.2.1)) (List.length (List.map (fun z1=>(T.agg [(T.s (.int .i64 (Su.Tm.id z1))),(T.s (.int .u64 (Su.Tm.c z1)))])) a.2.2.1)))) then
 ((((Su.unTms (List.map (fun z2=>(T.agg [(T.s (.int .i64 (Su.Tm.id z2))),(T.s (.int .u64 (Su.Tm.c z2)))])) a.2.2.1))).bind fun x3 =>
 some (x3,())).bind fun x4 =>
 some (Su.delZ x4.1)).bind fun x5 =>
 (bif (Nat.beq (Su.bK (Int.toNat a.2.1)) 0) then
 (bif (Nat.beq (Su.bK (Int.toNat a.2.2.2)) 0) then
 (bif (List.any x5 (fun z6=>(!(Su.fI (Su.Tm.c z6))))) then
 some (true,((0:Int),([],(0:Int))))
 else
  some (a.1,((0:Int),(x5,(0:Int)))))
 else
  (bif (!(Su.finK (Su.bK (Int.toNat a.2.2.2)))) then
  some (true,((0:Int),([],(0:Int))))
 else
  (bif (List.any x5 (fun z7=>(!(Su.fI (Su.Tm.c z7))))) then
  some (true,((0:Int),([],(0:Int))))
 else
  some (a.1,((0:Int),(x5,a.2.2.2))))))
 else
  (bif (Nat.beq (Su.bK (Int.toNat a.2.2.2)) 0) then
  (bif (!(Su.finK (Su.bK (Int.toNat a.2.1)))) then
  some (true,((0:Int),([],(0:Int))))
 else
  (bif (List.any x5 (fun z8=>(!(Su.fI (Su.Tm.c z8))))) then
  some (true,((0:Int),([],(0:Int))))
 else
  some (a.1,(a.2.1,(x5,(0:Int))))))
 else
  (bif (!(Su.finK (Su.bK (Int.toNat a.2.1)))) then
  some (true,((0:Int),([],(0:Int))))
 else
  (bif (!(Su.finK (Su.bK (Int.toNat a.2.2.2)))) then
  some (true,((0:Int),([],(0:Int))))
 else
  (bif (List.any x5 (fun z9=>(!(Su.fI (Su.Tm.c z9))))) then
  some (true,((0:Int),([],(0:Int))))
 else
  some (a.1,(a.2.1,(x5,a.2.2.2))))))))
 else
  none)
def aDoneT  (a:(Bool×(Int×((List Su.Tm)×Int)))):Option (Bool×(Int×((List Su.Tm)×Int))) :=
 ((bif (List.all a.2.2.1 (fun z0=>(!(Su.zI (Su.Tm.c z0))))) then
 some a.2.2.1
 else
  none)).bind fun x1 =>
  (bif (Nat.beq (Su.bK (Int.toNat a.2.1)) 0) then
  (bif (Nat.beq (Su.bK (Int.toNat a.2.2.2)) 0) then
  (bif (List.any x1 (fun z2=>(!(Su.fI (Su.Tm.c z2))))) then
  some (true,((0:Int),([],(0:Int))))
 else
  some (a.1,((0:Int),(x1,(0:Int)))))
 else
  (bif (!(Su.finK (Su.bK (Int.toNat a.2.2.2)))) then
  some (true,((0:Int),([],(0:Int))))
 else
  (bif (List.any x1 (fun z3=>(!(Su.fI (Su.Tm.c z3))))) then
  some (true,((0:Int),([],(0:Int))))
 else
  some (a.1,((0:Int),(x1,a.2.2.2))))))
 else
  (bif (Nat.beq (Su.bK (Int.toNat a.2.2.2)) 0) then
  (bif (!(Su.finK (Su.bK (Int.toNat a.2.1)))) then
  some (true,((0:Int),([],(0:Int))))
 else
  (bif (List.any x1 (fun z4=>(!(Su.fI (Su.Tm.c z4))))) then
  some (true,((0:Int),([],(0:Int))))
 else
  some (a.1,(a.2.1,(x1,(0:Int))))))
 else
  (bif (!(Su.finK (Su.bK (Int.toNat a.2.1)))) then
  some (true,((0:Int),([],(0:Int))))
 else
  (bif (!(Su.finK (Su.bK (Int.toNat a.2.2.2)))) then
  some (true,((0:Int),([],(0:Int))))
 else
  (bif (List.any x1 (fun z5=>(!(Su.fI (Su.Tm.c z5))))) then
  some (true,((0:Int),([],(0:Int))))
 else
  some (a.1,(a.2.1,(x1,a.2.2.2))))))))
def aMay_l1:(Int×((List Su.Tm)×(Int×(Int×(Bool×(Int×((List Su.Tm)×(Int×Unit))))))))→Option ((Int×((List Su.Tm)×(Int×(Int×(Bool×(Int×((List Su.Tm)×(Int×Unit)))))))) ⊕ (Lp (Int×((List Su.Tm)×(Int×(Int×(Bool×(Int×((List Su.Tm)×(Int×Unit)))))))) Bool)):=fun p0=>(bif (decide ((p0.2.2.2.1<p0.2.2.1))) then
 ((Su.idx p0.2.1 p0.2.2.2.1)).bind fun x1 =>
 (bif (decide (((Su.Tm.id x1)≤p0.1))) then
 some (.inr (.ret false))
 else
  (bif (Nat.beq (Su.bK (Int.toNat (Su.Tm.c x1))) 0) then
  some (.inr (.ret false))
 else
  (bif (!(Su.finK (Su.bK (Int.toNat (Su.Tm.c x1))))) then
  some (.inr (.ret false))
 else
  some (.inl ((Su.Tm.id x1),(p0.2.1,(p0.2.2.1,((Go.IntKind.wrap .i64 (p0.2.2.2.1+1)),(p0.2.2.2.2.1,(p0.2.2.2.2.2.1,(p0.2.2.2.2.2.2.1,(p0.2.2.2.2.2.2.2.1,()))))))))))))
 else
  some (.inr (.exit 0 (p0.1,(p0.2.1,(p0.2.2.1,(p0.2.2.2.1,(p0.2.2.2.2.1,(p0.2.2.2.2.2.1,(p0.2.2.2.2.2.2.1,(p0.2.2.2.2.2.2.2.1,())))))))))))
def aMay  (fu:Nat) (a:(Bool×(Int×((List Su.Tm)×Int)))):Option Bool :=
 (bif a.1 then
 (bif (decide ((a.2.1=0))) then
 (bif (decide ((a.2.2.2=0))) then
 some (decide (((((List.length a.2.2.1):Nat):Int)=0)))
 else
  some false)
 else
  some false)
 else
  (itP fu (aMay_l1) ((-1),(a.2.2.1,((((List.length a.2.2.1):Nat):Int),((0:Int),(a.1,(a.2.1,(a.2.2.1,(a.2.2.2,()))))))))).bind fun x2 =>
  (match x2 with
 | .exit i3 p4=>(bif (Nat.beq i3 0) then
  (bif (Su.finK (Su.bK (Int.toNat p4.2.2.2.2.2.1))) then
  (bif (!(decide ((p4.2.2.2.2.2.1=9223372036854775808)))) then
  (bif (Su.finK (Su.bK (Int.toNat p4.2.2.2.2.2.2.2.1))) then
  some (decide (((Int.fdiv p4.2.2.2.2.2.2.2.1 (2^63))=0)))
 else
  some false)
 else
  some false)
 else
  some false)
 else
  none)
 | .ret o5=>some o5))
abbrev Fm:=Bool×(Int×(List Tm×Int))
def badF:Fm:=(true,(0,([],0)))
def nzI (f:Int):Int:=bif zI f then 0 else f
theorem fI_0:fI 0=true:=rfl
def doneL:{f:Fm→Fm // ∀ a,f a=bif (fI (nzI a.2.1)&&fI (nzI a.2.2.2))&&!((delZ a.2.2.1).any fun t=>!fI t.c) then (a.1,(nzI a.2.1,(delZ a.2.2.1,nzI a.2.2.2))) else badF}:=Classical.choice ⟨⟨_,fun _=>rfl⟩⟩
def doneF (a:Fm):Fm:=doneL.1 a
theorem doneF_eq (a:Fm):doneF a=bif (fI (nzI a.2.1)&&fI (nzI a.2.2.2))&&!((delZ a.2.2.1).any fun t=>!fI t.c) then (a.1,(nzI a.2.1,(delZ a.2.2.1,nzI a.2.2.2))) else badF:=doneL.2 a
def aDone_s (a:Fm):Option Fm:=some (doneF a)
theorem beq_self (n:Nat):Nat.beq n n=true:=by simp
theorem aDone_ok (a y:Fm) (hg:(d1 cFrm4).good a) (h:aDone_s a=some y):aDone a=some y:=by
 obtain ⟨b,m,l,e⟩:=a
 have:=soi h;subst this
 rw [doneF_eq]
 unfold aDone
 simp only [beq_self,Bool.and_true,cond_true]
 refine obs (t:=delZ l) (obs (obs (unTms_map l) rfl) rfl) ?_
 have hz:∀ f:Int,Nat.beq (bK (Int.toNat f)) 0=zI f:=fun _=>rfl
 have hf:∀ f:Int,finK (bK (Int.toNat f))=fI f:=fun _=>rfl
 simp only [hz,hf]
 unfold nzI
 cases zI m <;> cases zI e <;> simp only [cond_true,cond_false,fI_0] <;> cases fI m <;> cases fI e <;> cases (delZ l).any (fun t=>!fI t.c) <;> rfl
def riseF:Int→List Tm→Bool
 | _,[]=>true
 | last,t::l=>decide (last<t.id)&&(!zI t.c&&(fI t.c&&riseF t.id l))
def mayL:{f:Fm→Bool // ∀ a,f a=bif a.1 then decide (a.2.1=0)&&(decide (a.2.2.2=0)&&a.2.2.1.isEmpty) else riseF (-1) a.2.2.1&&(fI a.2.1&&(!decide (a.2.1=9223372036854775808)&&(fI a.2.2.2&&decide (Int.fdiv a.2.2.2 (2^63)=0))))}:=Classical.choice ⟨⟨_,fun _=>rfl⟩⟩
def mayF (a:Fm):Bool:=mayL.1 a
theorem mayF_eq (a:Fm):mayF a=bif a.1 then decide (a.2.1=0)&&(decide (a.2.2.2=0)&&a.2.2.1.isEmpty) else riseF (-1) a.2.2.1&&(fI a.2.1&&(!decide (a.2.1=9223372036854775808)&&(fI a.2.2.2&&decide (Int.fdiv a.2.2.2 (2^63)=0)))):=mayL.2 a
def aMay_s (a:Fm):Option Bool:=some (mayF a)
theorem may_loop (l:List Tm) (hl:l.length<9223372036854775808) (q:Bool×(Int×(List Tm×(Int×Unit)))):∀ (rest A:List Tm) (last:Int),A++rest=l→∃ n y,itP n aMay_l1 (last,(l,((l.length:Int),((A.length:Int),q))))=some y∧((∃ last',y = .exit 0 (last',(l,((l.length:Int),((l.length:Int),q)))))∧riseF last rest=true∨y = .ret false∧riseF last rest=false)
 | [],A,last,hA=>by
  rw [List.append_nil] at hA;subst hA
  refine ⟨1,_,?_,.inl ⟨⟨last,rfl⟩,rfl⟩⟩
  rw [itP_s]
  simp only [aMay_l1]
  rw [decide_eq_false (by omega),cond_false];rfl
 | t::rest,A,last,hA=>by
  have hNl:A.length+(rest.length+1)=l.length:=by rw [← hA];simp
  have hg:idx l (A.length:Int)=some t:=by
   rw [idx_nat,← hA,List.getElem?_append_right (by omega),Nat.sub_self];rfl
  have hz:Nat.beq (bK (Int.toNat t.c)) 0=zI t.c:=rfl
  have hf:finK (bK (Int.toNat t.c))=fI t.c:=rfl
  obtain ⟨n,y,q1,q2⟩:=may_loop l hl q rest (A++[t]) t.id (by rw [← hA];simp)
  by_cases h1:t.id≤last
  · refine ⟨1,.ret false,?_,.inr ⟨rfl,by unfold riseF;rw [decide_eq_false (by omega)];rfl⟩⟩
    rw [itP_s]
    simp only [aMay_l1]
    rw [decide_eq_true (show (A.length:Int)<(l.length:Int) by omega),cond_true,hg,Option.bind_some,decide_eq_true h1];rfl
  · cases h2:zI t.c with
    | true =>
     refine ⟨1,.ret false,?_,.inr ⟨rfl,by unfold riseF;rw [h2];simp⟩⟩
     rw [itP_s]
     simp only [aMay_l1]
     rw [decide_eq_true (show (A.length:Int)<(l.length:Int) by omega),cond_true,hg,Option.bind_some,decide_eq_false h1,hz,h2];rfl
    | false =>
     cases h3:fI t.c with
     | false =>
      refine ⟨1,.ret false,?_,.inr ⟨rfl,by unfold riseF;rw [h3];simp⟩⟩
      rw [itP_s]
      simp only [aMay_l1]
      rw [decide_eq_true (show (A.length:Int)<(l.length:Int) by omega),cond_true,hg,Option.bind_some,decide_eq_false h1,hz,h2,hf,h3];rfl
     | true =>
      have e:riseF last (t::rest)=riseF t.id rest:=by
       show (decide (last<t.id)&&(!zI t.c&&(fI t.c&&riseF t.id rest)))=_
       rw [decide_eq_true (by omega),h2,h3];rfl
      refine ⟨n+1,y,?_,by rw [e];exact q2⟩
      rw [itP_s]
      simp only [aMay_l1]
      rw [decide_eq_true (show (A.length:Int)<(l.length:Int) by omega),cond_true,hg,Option.bind_some,decide_eq_false h1,hz,h2,hf,h3]
      simp only [Bool.not_true,cond_false,Option.bind_some]
      rw [w64 (by omega) (by omega),show ((A.length:Int)+1)=(((A++[t]).length:Nat):Int) by simp]
      exact q1
theorem aMay_ok (a:Fm) (y:Bool) (hg:(d1 cFrm).good a) (h:aMay_s a=some y):∃ n,aMay n a=some y:=by
 obtain ⟨b,m,l,e⟩:=a
 have:=soi h;subst this
 have hl':l.length≤9223372036854775807:=by have:=hg.2.2.1.2;rw [maxLen_eq] at this;exact this
 have hf:∀ f:Int,finK (bK (Int.toNat f))=fI f:=fun _=>rfl
 rw [mayF_eq]
 unfold aMay
 simp only [hf]
 cases b with
 | true =>
  refine ⟨0,?_⟩
  simp only [cond_true]
  have:decide (((l.length:Nat):Int)=0)=l.isEmpty:=by cases l <;> simp <;> omega
  rw [this]
  cases decide (m=0) <;> cases decide (e=0) <;> rfl
 | false =>
  obtain ⟨n,z,q1,q2⟩:=may_loop l (by omega) (false,(m,(l,(e,())))) l [] (-1) rfl
  refine ⟨n,?_⟩
  simp only [cond_false]
  have q1':itP n aMay_l1 (-1,(l,((l.length:Int),((0:Int),(false,(m,(l,(e,()))))))))=some z:=q1
  rw [q1',Option.bind_some]
  rcases q2 with ⟨⟨last',rfl⟩,e1⟩ | ⟨rfl,e1⟩
  · simp only [e1]
    rw [show Nat.beq 0 0=true from rfl,cond_true]
    cases fI m <;> cases decide (m=9223372036854775808) <;> cases fI e <;> rfl
  · simp only [e1];rfl
def aDoneT_s (a:Fm):Option Fm:=bif a.2.2.1.all fun t=>!zI t.c then some (doneF a) else none
theorem aDoneT_ok (a y:Fm) (hg:(d1 cFrm).good a) (h:aDoneT_s a=some y):aDoneT a=some y:=by
 obtain ⟨b,m,l,e⟩:=a
 obtain ⟨h1,h2⟩:=bif_some h
 have:=soi h2;subst this
 have hd:delZ l=l:=delZ_none fun t ht=>by have:=List.all_eq_true.1 h1 t ht;simpa using this
 rw [doneF_eq]
 unfold aDoneT
 have h1':(List.all l fun z0=>!Su.zI (Su.Tm.c z0))=true:=h1
 have hz:∀ f:Int,Nat.beq (bK (Int.toNat f)) 0=zI f:=fun _=>rfl
 have hf:∀ f:Int,finK (bK (Int.toNat f))=fI f:=fun _=>rfl
 simp only [h1',cond_true,Option.bind_some,hz,hf,hd]
 unfold nzI
 cases zI m <;> cases zI e <;> simp only [cond_true,cond_false,fI_0] <;> cases fI m <;> cases fI e <;> cases l.any (fun t=>!fI t.c) <;> rfl
end
end Su
end
section
namespace Su
open Go Fly
set_option linter.unusedVariables false
noncomputable section
def aUnfit_l1:((List (Bool×(Int×((List Su.Tm)×Int))))×(Int×(Int×Unit)))→Option (((List (Bool×(Int×((List Su.Tm)×Int))))×(Int×(Int×Unit))) ⊕ (Lp ((List (Bool×(Int×((List Su.Tm)×Int))))×(Int×(Int×Unit))) Bool)):=fun p0=>(bif (decide ((p0.2.2.1<p0.2.1))) then
 ((Su.idx p0.1 p0.2.2.1)).bind fun x1 =>
 (bif x1.1 then
 some (.inr (.ret (decide ((0≤p0.2.2.1)))))
 else
  (bif (!(Su.mayF (x1.1,(x1.2.1,(x1.2.2.1,x1.2.2.2))))) then
  some (.inr (.ret (decide ((0≤p0.2.2.1)))))
 else
  some (.inl (p0.1,(p0.2.1,((Go.IntKind.wrap .i64 (p0.2.2.1+1)),()))))))
 else
  some (.inr (.exit 0 (p0.1,(p0.2.1,(p0.2.2.1,()))))))
def aUnfit  (fu:Nat) (l:(List (Bool×(Int×((List Su.Tm)×Int))))):Option Bool :=
 (itP fu (aUnfit_l1) (l,((((List.length l):Nat):Int),((0:Int),())))).bind fun x2 =>
 (match x2 with
 | .exit i3 p4=>(bif (Nat.beq i3 0) then
  some false
 else
  none)
 | .ret o5=>some o5)
theorem any_loop {α:Type} (l:List α) (F:List α×(Int×(Int×Unit))→Option ((List α×(Int×(Int×Unit))) ⊕ (Lp (List α×(Int×(Int×Unit))) Bool))) (p:α→Bool)
 (hF:∀ (i:Nat) (x:α),l[i]?=some x→F (l,((l.length:Int),((i:Int),())))=bif p x then some (.inr (.ret true)) else some (.inl (l,((l.length:Int),(((i+1:Nat):Int),())))))
 (hE:F (l,((l.length:Int),((l.length:Int),())))=some (.inr (.exit 0 (l,((l.length:Int),((l.length:Int),())))))) :
 ∃ n y,itP n F (l,((l.length:Int),((0:Int),())))=some y∧(y = .exit 0 (l,((l.length:Int),((l.length:Int),())))∧l.any p=false∨y = .ret true∧l.any p=true):=by
 have main:∀ (rest A:List α),A++rest=l→∃ n y,itP n F (l,((l.length:Int),((A.length:Int),())))=some y∧(y = .exit 0 (l,((l.length:Int),((l.length:Int),())))∧rest.any p=false∨y = .ret true∧rest.any p=true):=by
  intro rest
  induction rest with
  | nil =>
   intro A hA
   rw [List.append_nil] at hA;subst hA
   exact ⟨1,_,by rw [itP_s,hE];rfl,.inl ⟨rfl,rfl⟩⟩
  | cons x rest ih =>
   intro A hA
   have hg:l[A.length]?=some x:=by rw [← hA,List.getElem?_append_right (by omega),Nat.sub_self];rfl
   have:=hF A.length x hg
   cases hp:p x with
   | true =>
    rw [hp,cond_true] at this
    exact ⟨1,.ret true,by rw [itP_s,this];rfl,.inr ⟨rfl,by simp [hp]⟩⟩
   | false =>
    rw [hp,cond_false] at this
    obtain ⟨n,y,q1,q2⟩:=ih (A++[x]) (by rw [← hA];simp)
    refine ⟨n+1,y,?_,by simpa [hp] using q2⟩
    rw [itP_s,this]
    simp only [Option.bind_some]
    rw [show A.length+1=(A++[x]).length by simp]
    exact q1
 exact main l [] rfl
def aUnfit_s (l:List Fm):Option Bool:=some (l.any fun a=>a.1||!mayF a)
theorem aUnfit_ok (l:List Fm) (y:Bool) (hg:(d1 cFms).good l) (h:aUnfit_s l=some y):∃ n,aUnfit n l=some y:=by
 have:=soi h;subst this
 have hl':l.length≤9223372036854775807:=by have:=hg.2;rw [maxLen_eq] at this;exact this
 obtain ⟨n,z,q1,q2⟩:=any_loop l aUnfit_l1 (fun a=>a.1||!mayF a) (fun i x hx=>by
  have hi:i<l.length:=(List.getElem?_eq_some_iff.1 hx).1
  simp only [aUnfit_l1]
  rw [decide_eq_true (show (i:Int)<(l.length:Int) by omega),cond_true,idx_nat,hx,decide_eq_true (show (0:Int)≤(i:Int) by omega),w64 (by omega) (by omega)]
  obtain ⟨b,m,t,e⟩:=x
  cases b <;> cases h:mayF (false,(m,(t,e))) <;> simp [h])
  (by simp only [aUnfit_l1];rw [decide_eq_false (by omega),cond_false])
 refine ⟨n,?_⟩
 unfold aUnfit
 rw [q1,Option.bind_some]
 rcases q2 with ⟨rfl,e⟩ | ⟨rfl,e⟩
 · simp only [e];rfl
 · simp only [e]
end
end Su
end
section
namespace Su
open Go Fly
set_option linter.unusedVariables false
noncomputable section
abbrev aNeg_l1_S:=((List Su.Tm)×(Int×(Int×((List Su.T)×(Bool×(Int×(Nat×(Int×(Bool×(Int×(Nat×(Int×((List Su.T)×Unit)))))))))))))
def aNeg_l1:aNeg_l1_S→Option (aNeg_l1_S ⊕ aNeg_l1_S):=fun p1=>(bif (decide ((p1.2.2.1<p1.2.1))) then
 ((Su.idx p1.1 p1.2.2.1)).bind fun x2 =>
 (bif ((true&&(Nat.beq p1.2.2.2.2.2.2.2.2.2.2.1 (List.length p1.2.2.2.2.2.2.2.2.2.2.2.2.1)))&&(Nat.ble ((List.length p1.2.2.2.2.2.2.2.2.2.2.2.2.1)+(List.length [(T.agg [(T.s (.int .i64 (Su.Tm.id x2))),(T.s (.int .u64 (((Su.negF (Int.toNat (Su.Tm.c x2))):Nat):Int)))])])) 549755813888)) then
 some (.inl (p1.1,(p1.2.1,((Go.IntKind.wrap .i64 (p1.2.2.1+1)),(p1.2.2.2.1,(p1.2.2.2.2.1,(p1.2.2.2.2.2.1,(p1.2.2.2.2.2.2.1,(p1.2.2.2.2.2.2.2.1,(p1.2.2.2.2.2.2.2.2.1,(p1.2.2.2.2.2.2.2.2.2.1,((List.length (p1.2.2.2.2.2.2.2.2.2.2.2.2.1++[(T.agg [(T.s (.int .i64 (Su.Tm.id x2))),(T.s (.int .u64 (((Su.negF (Int.toNat (Su.Tm.c x2))):Nat):Int)))])])),(p1.2.2.2.2.2.2.2.2.2.2.2.1,((p1.2.2.2.2.2.2.2.2.2.2.2.2.1++[(T.agg [(T.s (.int .i64 (Su.Tm.id x2))),(T.s (.int .u64 (((Su.negF (Int.toNat (Su.Tm.c x2))):Nat):Int)))])]),()))))))))))))))
 else
  none)
 else
  some (.inr (p1.1,(p1.2.1,(p1.2.2.1,(p1.2.2.2.1,(p1.2.2.2.2.1,(p1.2.2.2.2.2.1,(p1.2.2.2.2.2.2.1,(p1.2.2.2.2.2.2.2.1,(p1.2.2.2.2.2.2.2.2.1,(p1.2.2.2.2.2.2.2.2.2.1,(p1.2.2.2.2.2.2.2.2.2.2.1,(p1.2.2.2.2.2.2.2.2.2.2.2.1,(p1.2.2.2.2.2.2.2.2.2.2.2.2.1,())))))))))))))))
def aNeg  (fu:Nat) (a:(Bool×(Int×((List Su.Tm)×Int)))):Option (Bool×(Int×((List Su.Tm)×Int))) :=
 (bif (List.any [(a.1,(a.2.1,(a.2.2.1,a.2.2.2)))] (fun z0=>(z0.1||(!(Su.mayF z0))))) then
 some (true,((0:Int),([],(0:Int))))
 else
  (itP fu (aNeg_l1) (a.2.2.1,((((List.length a.2.2.1):Nat):Int),((0:Int),([],(false,((0:Int),(0,((0:Int),(false,((((Su.negF (Int.toNat a.2.1)):Nat):Int),(0,(a.2.2.2,([],())))))))))))))).bind fun x3 =>
  (bif (true&&(Nat.beq x3.2.2.2.2.2.2.2.2.2.2.1 (List.length x3.2.2.2.2.2.2.2.2.2.2.2.2.1))) then
  ((((((Su.unTms x3.2.2.2.2.2.2.2.2.2.2.2.2.1)).bind fun x4 =>
  some (x4,x3.2.2.2.2.2.2.2.2.2.2.2.1)).bind fun x5 =>
  some (x3.2.2.2.2.2.2.2.2.2.1,x5)).bind fun x6 =>
  some (x3.2.2.2.2.2.2.2.2.1,x6)).bind fun x7 =>
  some (Su.doneF x7)).bind fun x8 =>
  some (x8.1,(x8.2.1,(x8.2.2.1,x8.2.2.2)))
 else
  none))
def aConst  (f:Int):Option (Bool×(Int×((List Su.Tm)×Int))) :=
 some ((Su.doneF (false,(f,([],(0:Int))))).1,((Su.doneF (false,(f,([],(0:Int))))).2.1,((Su.doneF (false,(f,([],(0:Int))))).2.2.1,(Su.doneF (false,(f,([],(0:Int))))).2.2.2)))
def negI (f:Int):Int:=((negF f.toNat:Nat):Int)
def negT (t:Tm):Tm:=⟨t.id,negI t.c⟩
def okF (a:Fm):Bool:=!(a.1||!mayF a)
def lenOK (l:List Tm):Bool:=Nat.ble l.length 549755813888
def negFm (a:Fm):Fm:=bif okF a then doneF (false,(negI a.2.1,(a.2.2.1.map negT,a.2.2.2))) else badF
def aConst_s (f:Int):Option Fm:=some (doneF (false,(f,([],0))))
theorem aConst_ok (f:Int) (y:Fm) (hg:(d1 (cI .u64)).good f) (h:aConst_s f=some y):aConst f=some y:=h
def aNeg_s (a:Fm):Option Fm:=bif lenOK a.2.2.1 then some (negFm a) else none
theorem neg_loop (l:List Tm) (hl:l.length≤549755813888) (r0:List T) (b0 b1:Bool) (m0 e0 m1 e1:Int) (n0:Nat):∀ (rest A:List Tm),A++rest=l →
 ∃ n,itP n aNeg_l1 (l,((l.length:Int),((A.length:Int),(r0,(b0,(m0,(n0,(e0,(b1,(m1,(A.length,(e1,((A.map negT).map vT,()))))))))))))) =
  some (l,((l.length:Int),((l.length:Int),(r0,(b0,(m0,(n0,(e0,(b1,(m1,(l.length,(e1,((l.map negT).map vT,())))))))))))))
 | [],A,hA=>by
  rw [List.append_nil] at hA;subst hA
  refine ⟨1,?_⟩
  rw [itP_s]
  simp only [aNeg_l1]
  rw [decide_eq_false (by omega),cond_false];rfl
 | t::rest,A,hA=>by
  have hNl:A.length+(rest.length+1)=l.length:=by rw [← hA];simp
  have hg:idx l (A.length:Int)=some t:=by
   rw [idx_nat,← hA,List.getElem?_append_right (by omega),Nat.sub_self];rfl
  obtain ⟨n,q⟩:=neg_loop l hl r0 b0 b1 m0 e0 m1 e1 n0 rest (A++[t]) (by rw [← hA];simp)
  refine ⟨n+1,?_⟩
  rw [itP_s]
  simp only [aNeg_l1]
  have hR:((A.map negT).map vT).length=A.length:=by simp
  have e:(A.map negT).map vT++[T.agg [T.s (.int .i64 (Su.Tm.id t)),T.s (.int .u64 (((Su.negF (Int.toNat (Su.Tm.c t))):Nat):Int))]]=((A++[t]).map negT).map vT:=by simp [negT,negI];rfl
  rw [decide_eq_true (show (A.length:Int)<(l.length:Int) by omega),cond_true,hg,Option.bind_some,hR,beq_self,List.length_singleton,Nat.ble_eq_true_of_le (by omega),w64 (by omega) (by omega),e]
  simp only [Bool.and_true,cond_true,Option.bind_some,List.length_map]
  rw [show ((A.length:Int)+1)=(((A++[t]).length:Nat):Int) by simp]
  exact q
theorem aNeg_ok (a y:Fm) (hg:(d1 cFrm).good a) (h:aNeg_s a=some y):∃ n,aNeg n a=some y:=by
 obtain ⟨b,m,l,e⟩:=a
 obtain ⟨h1,h2⟩:=bif_some h
 have:=soi h2;subst this
 have hl:l.length≤549755813888:=Nat.le_of_ble_eq_true h1
 have ha:List.any [((b,(m,(l,e))):Fm)] (fun z0=>(z0.1||(!(Su.mayF z0)))) = !okF (b,(m,(l,e))):=by simp [okF]
 obtain ⟨n,q⟩:=neg_loop l hl [] false false 0 0 (negI m) e 0 l [] rfl
 refine ⟨n,?_⟩
 unfold aNeg negFm
 simp only []
 rw [ha]
 cases okF (b,(m,(l,e))) with
 | false=>rfl
 | true =>
  rw [Bool.not_true,cond_false,cond_true]
  have q':itP n aNeg_l1 (l,((l.length:Int),((0:Int),(([]:List T),(false,((0:Int),(0,((0:Int),(false,(((Su.negF (Int.toNat m):Nat):Int),(0,(e,(([]:List T),())))))))))))))=some (l,((l.length:Int),((l.length:Int),(([]:List T),(false,((0:Int),(0,((0:Int),(false,(((Su.negF (Int.toNat m):Nat):Int),(l.length,(e,((l.map negT).map vT,()))))))))))))):=q
  rw [q',Option.bind_some]
  have hR:((l.map negT).map vT).length=l.length:=by simp
  simp only [hR,beq_self,Bool.and_true,cond_true]
  exact obs (obs (obs (obs (obs (unTms_map (l.map negT)) rfl) rfl) rfl) rfl) rfl
end
end Su
end
section
namespace Su
open Go Fly
set_option linter.unusedVariables false
noncomputable section
def addI (a b m:Int):Int:=((addN a.toNat b.toNat m:Nat):Int)
def mulI (a b m:Int):Int:=((mulN a.toNat b.toNat m:Nat):Int)
def upI (l:List Int):Int:=((upS 0 l:Nat):Int)
end
end Su
end
