/-
  What functions of the program compute, in plain Lean, and that the evaluator finds it.
-/
import Derived.Test.YtfckjjffdfkelaaGreatSuSd
import Derived.Test.YtfckjjffdfkelaaGreatNC13
set_option maxRecDepth 10000
section
namespace Su
open Go Fly
set_option linter.unusedVariables false
noncomputable section
def qDh  (a:Int) (b:Int) (mode:Int):Option Int :=
 ((qqB a b mode)).bind fun x0 =>
 some x0.1
def qDi  (a:Int) (b:Int) (mode:Int):Option Int :=
 ((qtO a b mode)).bind fun x0 =>
 some x0.1
def qi8:(Int×(Int×((List Int)×(Int×(Int×Unit)))))→Option ((Int×(Int×((List Int)×(Int×(Int×Unit))))) ⊕ (Int×(Int×((List Int)×(Int×(Int×Unit)))))):=fun p0=>(bif (decide ((p0.2.2.2.2.1<p0.2.2.2.1))) then
 ((idx p0.2.2.1 p0.2.2.2.2.1)).bind fun x1 =>
 ((qqB p0.2.1 x1 p0.1)).bind fun x2 =>
 some (.inl (p0.1,(x2.1,(p0.2.2.1,(p0.2.2.2.1,((IntKind.wrap .i64 (p0.2.2.2.2.1+1)),()))))))
 else
  some (.inr (p0.1,(p0.2.1,(p0.2.2.1,(p0.2.2.2.1,(p0.2.2.2.2.1,())))))))
def aUp  (fu:Nat) (l:(List Int)):Option Int :=
 (itP fu (qi8) ((1:Int),((0:Int),(l,((((List.length l):Nat):Int),((0:Int),())))))).bind fun x3 =>
 some x3.2.1
def qi9 (p:Int×(Int×Int)):Option Int:=some (jL p.1.toNat p.2.1.toNat p.2.2:Int)
def qja (p:Int×(Int×Int)):Option Int:=some (qqD p.1.toNat p.2.1.toNat p.2.2:Int)
theorem qys (p:Int×(Int×Int)) (y:Int) (hg:(dc (cI .u64) (dc (cI .u64) (d1 (cI .u8)))).good p) (h:qi9 p=some y):qDh p.1 p.2.1 p.2.2=some y:=by
 obtain ⟨a,b,mode⟩:=p
 obtain ⟨A,rfl,hA⟩:=jf hg.1
 obtain ⟨B,rfl,hB⟩:=jf hg.2.1
 have:=soi h;subst this
 unfold qDh
 obtain ⟨fl,hfl⟩:=qll hA hB mode
 simp only [] at *
 rw [hfl,ZV]
 rfl
theorem qyt (p:Int×(Int×Int)) (y:Int) (hg:(dc (cI .u64) (dc (cI .u64) (d1 (cI .u8)))).good p) (h:qja p=some y):qDi p.1 p.2.1 p.2.2=some y:=by
 obtain ⟨a,b,mode⟩:=p
 obtain ⟨A,rfl,hA⟩:=jf hg.1
 obtain ⟨B,rfl,hB⟩:=jf hg.2.1
 have:=soi h;subst this
 unfold qDi
 obtain ⟨fl,hfl⟩:=qtP hA hB mode
 simp only [] at *
 rw [hfl,qi7]
 rfl
theorem qjb (b:Bool):sgN b≤9223372036854775808:=by unfold sgN;cases b <;> simp
theorem qyu (tw:Bool) (k:Nat):qco tw k≤9218868437227405312:=by
 unfold qco jo
 cases h:Nat.ble k 9218868437227405311 with
 | true=>have:=Nat.le_of_ble_eq_true h;rw [cond_true];omega
 | false=>cases tw <;> simp only [cond_true,cond_false] <;> omega
theorem qtQ (neg:Bool) (mode:Int) (M E:Nat) (rest:Bool):RN neg mode M E rest<18446744073709551616:=by
 have h1:=qjb neg
 unfold RN
 cases Nat.beq M 0 with
 | true=>rw [cond_true];omega
 | false =>
  rw [cond_false]
  have:=qyu (twN neg mode) (yg M E+(upN neg mode (je M E % 2 == 1) (hfN M E) (rest||rsN M E)).toNat)
  omega
theorem qoO (nx ny:Bool) (mode:Int) (X Y D:Nat) (ey:Int):qlk nx ny mode X Y D ey<18446744073709551616:=by
 unfold qlk
 split
 · exact qtQ _ _ _ _ _
 · split
   · have:=qjb (decide (mode=2));omega
   · exact qtQ _ _ _ _ _
theorem qoP {a b:Nat} (ha:a<18446744073709551616) (hb:b<18446744073709551616) (mode:Int):jL a b mode<18446744073709551616:=by
 rw [ZV]
 unfold YL qm4
 have h2:=qjb (decide (mode=2))
 generalize qO (bK a)=c1
 generalize qO (bK b)=c2
 generalize QF (bK a)=c3
 generalize QF (bK b)=c4
 generalize Nat.beq (bK a) 0=c5
 generalize Nat.beq (bK b) 0=c6
 generalize decide (bS a=bS b)=c7
 generalize qei a b=c8
 have h3:=qoO (bS b) (bS a) mode (kM (bK b)) (kM (bK a)) (kE (bK b)-kE (bK a)) ((kE (bK a):Int)-1074)
 have h4:=qoO (bS a) (bS b) mode (kM (bK a)) (kM (bK b)) (kE (bK a)-kE (bK b)) ((kE (bK b):Int)-1074)
 generalize qlk (bS b) (bS a) mode (kM (bK b)) (kM (bK a)) (kE (bK b)-kE (bK a)) ((kE (bK a):Int)-1074)=z1 at *
 generalize qlk (bS a) (bS b) mode (kM (bK a)) (kM (bK b)) (kE (bK a)-kE (bK b)) ((kE (bK b):Int)-1074)=z2 at *
 generalize sgN (decide (mode=2))=z3 at *
 cases c1
 · cases c2
   · cases c3 <;> cases c4 <;> cases c5 <;> cases c6 <;> cases c7 <;> cases c8 <;> simp only [cond_true,cond_false,Bool.and_true,Bool.and_false,Bool.true_and,Bool.false_and,Bool.not_true,Bool.not_false] <;> omega
   · simp only [cond_true,cond_false];omega
 · simp only [cond_true,cond_false];omega
theorem qjc {a b:Nat} (mode:Int):qqD a b mode<18446744073709551616:=by
 rw [qi7]
 unfold qqC
 have h1:=qtQ (!decide (bS a=bS b)) mode (kM (bK a)*kM (bK b)) (kE (bK a)+kE (bK b)+3852) false
 have h2:=qjb (!decide (bS a=bS b))
 generalize qO (bK a)=c1
 generalize qO (bK b)=c2
 generalize (QF (bK a)||QF (bK b))=c3
 generalize (Nat.beq (bK a) 0||Nat.beq (bK b) 0)=c4
 generalize RN (!decide (bS a=bS b)) mode (kM (bK a)*kM (bK b)) (kE (bK a)+kE (bK b)+3852) false=z1 at *
 generalize sgN (!decide (bS a=bS b))=z2 at *
 cases c1 <;> cases c2 <;> cases c3 <;> cases c4 <;> simp only [cond_true,cond_false,Bool.and_true,Bool.and_false] <;> omega
def upS (s:Nat):List Int→Nat
 | []=>s
 | x::l=>upS (jL s x.toNat 1) l
def qoQ (l:List Int):Option Int:=some (upS 0 l:Int)
theorem qoR (l0:List Int):∀ (l:List Int) (i s:Nat),l0.drop i=l→i≤l0.length→(∀ x∈l,inR .u64 x=true)→s<18446744073709551616→l0.length≤9223372036854775807 →
 ∃ n,itP n qi8 (1,((s:Int),(l0,((l0.length:Int),((i:Int),())))))=some (1,((upS s l:Int),(l0,((l0.length:Int),((l0.length:Int),())))))
 | [],i,s,hl,hi,_,_,_=>by
  have:l0.length≤i:=by
   rcases Nat.lt_or_ge i l0.length with h | h
   · rw [List.drop_eq_getElem_cons h] at hl;cases hl
   · exact h
  have:i=l0.length:=by omega
  subst this
  refine Qp ?_
  simp only [qi8]
  rw [decide_eq_false (by omega),cond_false];rfl
 | x::l,i,s,hl,hi,hx,hs,hlen=>by
  have hlt:i<l0.length:=by
   rcases Nat.lt_or_ge i l0.length with h | h
   · exact h
   · rw [List.drop_of_length_le h] at hl;cases hl
  have hc:=List.drop_eq_getElem_cons hlt
  rw [hc] at hl
  simp only [List.cons.injEq] at hl
  obtain ⟨h1,h2⟩:=hl
  obtain ⟨X,rfl,hX⟩:=jf (hx x (List.mem_cons_self ..))
  obtain ⟨fl,hfl⟩:=qll hs hX 1
  obtain ⟨n,hn⟩:=qoR l0 l (i+1) (jL s X 1) h2 (by omega) (fun y hy=>hx y (List.mem_cons_of_mem _ hy)) (qoP hs hX 1) hlen
  refine Qk ?_ ⟨n,hn⟩
  simp only [qi8]
  rw [decide_eq_true (by omega),cond_true,jJ,List.getElem?_eq_getElem hlt,h1,Option.bind_some,hfl,Option.bind_some,w64 (by omega) (by omega),ZV]
  rfl
theorem qDj (l:List Int) (y:Int) (hg:(d1 (cQ 2 1)).good l) (h:qoQ l=some y):∃ n,aUp n l=some y:=by
 have:=soi h;subst this
 have hl:=hg.2
 rw [jQ] at hl
 obtain ⟨n,hn⟩:=qoR l l 0 0 rfl (Nat.zero_le _) (fun x hx=>hg.1 x hx) (by decide) hl
 refine ⟨n,?_⟩
 unfold aUp
 have e:((0:Nat):Int)=0:=rfl
 rw [e] at hn
 rw [hn];rfl
end
end Su
end
section
namespace Su
open Go Fly
set_option linter.unusedVariables false
noncomputable section
def qeW:(Nat×(Int×(Int×((List T)×Unit))))→Option ((Nat×(Int×(Int×((List T)×Unit)))) ⊕ (Nat×(Int×(Int×((List T)×Unit))))):=fun p8=>(bif (decide ((p8.2.2.1<((p8.1:Nat):Int)))) then
 (bif ((true&&(decide ((0≤p8.2.2.1))))&&(decide ((p8.2.2.1<((p8.1:Nat):Int))))) then
 ((p8.2.2.2.1)[(0+(Int.toNat p8.2.2.1))]?).bind fun x9 =>
 (((T.cells x9))[0]?).bind fun x10 =>
 ((asI .i64 (.t x10))).bind fun x11 =>
 (((T.cells x9))[1]?).bind fun x12 =>
 ((asI .u64 (.t x12))).bind fun x13 =>
 (bif (!(Nat.beq (bK (Int.toNat x13)) 0)) then
 (bif ((true&&(decide ((0≤p8.2.1))))&&(decide ((p8.2.1<((p8.1:Nat):Int))))) then
 ((p8.2.2.2.1)[(0+(Int.toNat p8.2.1))]?).bind fun x14 =>
 some (.inl (p8.1,((IntKind.wrap .i64 (p8.2.1+1)),((IntKind.wrap .i64 (p8.2.2.1+1)),((List.set p8.2.2.2.1 (0+(Int.toNat p8.2.1)) (T.agg [(T.s (.int .i64 x11)),(T.s (.int .u64 x13))])),())))))
 else
  none)
 else
  some (.inl (p8.1,(p8.2.1,((IntKind.wrap .i64 (p8.2.2.1+1)),(p8.2.2.2.1,()))))))
 else
  none)
 else
  some (.inr (p8.1,(p8.2.1,(p8.2.2.1,(p8.2.2.2.1,()))))))
abbrev qdk:=(Nat×(Int×(Int×((List T)×Unit))))
def qcF (l:(List Tm)) (fu:Nat):qdk→Option (qdk ⊕ (Lp qdk (List Tm))):=fun p0=>(bif (decide ((p0.2.2.1<p0.2.1))) then
 (bif ((true&&(decide ((0≤p0.2.2.1))))&&(decide ((p0.2.2.1<((p0.1:Nat):Int))))) then
 ((p0.2.2.2.1)[(0+(Int.toNat p0.2.2.1))]?).bind fun x1 =>
 (((T.cells x1))[0]?).bind fun x2 =>
 ((asI .i64 (.t x2))).bind fun x3 =>
 (((T.cells x1))[1]?).bind fun x4 =>
 ((asI .u64 (.t x4))).bind fun x5 =>
 (bif (Nat.beq (bK (Int.toNat x5)) 0) then
 ((bif (decide ((p0.2.2.1=(-1)))) then
 ((Su.sub p0.2.2.2.1 0 (List.length (List.map (fun z6=>(T.agg [(T.s (.int .i64 (Tm.id z6))),(T.s (.int .u64 (Tm.c z6)))])) l)))).bind fun x7 =>
 (yt x7)
 else
  (itP fu (qeW) ((List.length (List.map (fun z15=>(T.agg [(T.s (.int .i64 (Tm.id z15))),(T.s (.int .u64 (Tm.c z15)))])) l)),(p0.2.2.1,((IntKind.wrap .i64 (p0.2.2.1+1)),(p0.2.2.2.1,()))))).bind fun x16 =>
  (bif (((true&&(decide ((0≤x16.2.1))))&&(decide ((x16.2.1≤((x16.1:Nat):Int)))))&&(decide ((((x16.1:Nat):Int)≤((x16.1:Nat):Int))))) then
  (bif ((true&&(Nat.beq (List.length (T.cells (T.agg (List.cons (T.s (.int .i64 0)) (List.cons (T.s (.int .u64 0)) []))))) 2))&&(Nat.ble ((0+(Int.toNat x16.2.1))+(Int.toNat (((x16.1:Nat):Int)-x16.2.1))) (List.length x16.2.2.2.1))) then
  (bif ((true&&(decide ((0≤x16.2.1))))&&(decide ((x16.2.1≤((x16.1:Nat):Int))))) then
  ((Su.sub ((List.take (0+(Int.toNat x16.2.1)) x16.2.2.2.1)++((List.replicate (Int.toNat (((x16.1:Nat):Int)-x16.2.1)) (T.agg (List.cons (T.s (.int .i64 0)) (List.cons (T.s (.int .u64 0)) []))))++(List.drop ((0+(Int.toNat x16.2.1))+(Int.toNat (((x16.1:Nat):Int)-x16.2.1))) x16.2.2.2.1))) 0 (Int.toNat (x16.2.1-0)))).bind fun x17 =>
  (yt x17)
 else
  none)
 else
  none)
 else
  none))).bind fun x18 =>
  some (.inr (.ret x18))
 else
  some (.inl (p0.1,(p0.2.1,((IntKind.wrap .i64 (p0.2.2.1+1)),(p0.2.2.2.1,()))))))
 else
  none)
 else
  some (.inr (.exit 0 (p0.1,(p0.2.1,(p0.2.2.1,(p0.2.2.2.1,())))))))
def qDk  (fu:Nat) (l:(List Tm)) (u:Unit):Option (List Tm) :=
 (itP fu (qcF l fu) ((List.length (List.map (fun z19=>(T.agg [(T.s (.int .i64 (Tm.id z19))),(T.s (.int .u64 (Tm.c z19)))])) l)),((((List.length (List.map (fun z20=>(T.agg [(T.s (.int .i64 (Tm.id z20))),(T.s (.int .u64 (Tm.c z20)))])) l)):Nat):Int),((0:Int),((List.map (fun z21=>(T.agg [(T.s (.int .i64 (Tm.id z21))),(T.s (.int .u64 (Tm.c z21)))])) l),()))))).bind fun x22 =>
 (match x22 with
 | .exit i23 p24=>(bif (Nat.beq i23 0) then
  ((Su.sub p24.2.2.2.1 0 (List.length (List.map (fun z25=>(T.agg [(T.s (.int .i64 (Tm.id z25))),(T.s (.int .u64 (Tm.c z25)))])) l)))).bind fun x26 =>
  (yt x26)
 else
  none)
 | .ret o27=>some o27)
def qtR:((List Tm)×(Int×(Int×Unit)))→Option (((List Tm)×(Int×(Int×Unit))) ⊕ ((List Tm)×(Int×(Int×Unit)))):=fun p2=>(bif (decide ((p2.2.2.1<(((List.length p2.1):Nat):Int)))) then
 ((idx p2.1 p2.2.2.1)).bind fun x3 =>
 (bif (!(Nat.beq (bK (Int.toNat (Tm.c x3))) 0)) then
 ((idx p2.1 p2.2.1)).bind fun x4 =>
 none
 else
  some (.inl (p2.1,(p2.2.1,((IntKind.wrap .i64 (p2.2.2.1+1)),())))))
 else
  some (.inr (p2.1,(p2.2.1,(p2.2.2.1,())))))
def qgc (fu:Nat) (l:(List Tm)):((List Tm)×(Int×(Int×Unit)))→Option (((List Tm)×(Int×(Int×Unit))) ⊕ (Lp ((List Tm)×(Int×(Int×Unit))) (List Tm))):=fun p0=>(bif (decide ((p0.2.2.1<p0.2.1))) then
 ((idx p0.1 p0.2.2.1)).bind fun x1 =>
 (bif (Nat.beq (bK (Int.toNat (Tm.c x1))) 0) then
 ((bif (decide ((p0.2.2.1=(-1)))) then
 some l
 else
  (itP fu (qtR) (l,(p0.2.2.1,((IntKind.wrap .i64 (p0.2.2.1+1)),())))).bind fun x5 =>
  (bif (true&&(((decide ((0≤x5.2.1)))&&(decide ((x5.2.1≤(((List.length x5.1):Nat):Int)))))&&(decide (((((List.length x5.1):Nat):Int)≤(((List.length x5.1):Nat):Int)))))) then
  none
 else
  none))).bind fun x6 =>
  some (.inr (.ret x6))
 else
  some (.inl (p0.1,(p0.2.1,((IntKind.wrap .i64 (p0.2.2.1+1)),())))))
 else
  some (.inr (.exit 0 (p0.1,(p0.2.1,(p0.2.2.1,()))))))
def qtS  (fu:Nat) (l:(List Tm)) (u:Unit):Option (List Tm) :=
 (itP fu (qgc fu l) (l,((((List.length l):Nat):Int),((0:Int),())))).bind fun x7 =>
 (match x7 with
 | .exit i8 p9=>(bif (Nat.beq i8 0) then
  some l
 else
  none)
 | .ret o10=>some o10)
def Zo:((List Tm)×(Int×(Int×Unit)))→Option (((List Tm)×(Int×(Int×Unit))) ⊕ (Lp ((List Tm)×(Int×(Int×Unit))) Bool)):=fun p0=>(bif (decide ((p0.2.2.1<p0.2.1))) then
 ((idx p0.1 p0.2.2.1)).bind fun x1 =>
 (bif (!(jK (bK (Int.toNat (Tm.c x1))))) then
 some (.inr (.ret (decide ((0≤p0.2.2.1)))))
 else
  some (.inl (p0.1,(p0.2.1,((IntKind.wrap .i64 (p0.2.2.1+1)),())))))
 else
  some (.inr (.exit 0 (p0.1,(p0.2.1,(p0.2.2.1,()))))))
def qtT  (fu:Nat) (l:(List Tm)) (u:Unit):Option Bool :=
 (itP fu (Zo) (l,((((List.length l):Nat):Int),((0:Int),())))).bind fun x2 =>
 (match x2 with
 | .exit i3 p4=>(bif (Nat.beq i3 0) then
  some false
 else
  none)
 | .ret o5=>some o5)
abbrev vT:Tm→T:=view 10
def zI (f:Int):Bool:=Nat.beq (bK f.toNat) 0
def fI (f:Int):Bool:=jK (bK f.toNat)
def qP (l:List Tm):List Tm:=l.filter fun t=>!zI t.c
theorem jR (l:List Tm):yt (l.map vT)=some l:=qiQ.de l
theorem vT_0 (t:Tm):(T.cells (vT t))[0]?=some (.s (.int .i64 t.id)):=rfl
theorem vT_1 (t:Tm):(T.cells (vT t))[1]?=some (.s (.int .u64 t.c)):=rfl
theorem qcG (κ:IntKind) (n:Int):asI κ (.t (.s (.int κ n)))=some n:=by simp [asI]
theorem qFD (t:Tm):T.agg [T.s (.int .i64 t.id),T.s (.int .u64 t.c)]=vT t:=rfl
theorem qoS (A B:List T) (n:Nat) (h:n=A.length):sub (A++B) 0 n=some A:=by
 subst h
 unfold sub
 rw [show Nat.ble (0+A.length) (A++B).length=true by rw [Nat.ble_eq];simp]
 rw [cond_true,List.drop_zero,List.take_left]
theorem qhy (A:List T) (n:Nat) (h:n=A.length):sub A 0 n=some A:=by
 have:=qoS A [] n h
 rwa [List.append_nil] at this
theorem qjd (A B C:List T) (x:T) (n:Nat) (h:n=A.length+B.length):(A++(B++x::C))[n]?=some x:=by
 subst h
 rw [List.getElem?_append_right (by omega),List.getElem?_append_right (by omega),show A.length+B.length-A.length-B.length=0 by omega]
 rfl
theorem qyv (A B:List T) (x y:T) (n:Nat) (h:n=A.length):(A++(x::B)).set n y=A++(y::B):=by
 subst h
 rw [List.set_append,if_neg (by omega),Nat.sub_self];rfl
theorem qdl (N:Nat) (hN:N<9223372036854775808):∀ (rest A:List Tm) (b:T) (B:List T) (n:Nat),rest.length<n→A.length+(B.length+1)+rest.length=N →
 ∃ B',A.length+(qP rest).length+B'.length=N∧itP n qeW (N,((A.length:Int),(((A.length+(B.length+1):Nat):Int),(A.map vT++((b::B)++rest.map vT),()))))=some (N,(((A++qP rest).length:Int),((N:Int),((A++qP rest).map vT++B',()))))
 | [],A,b,B,n+1,hn,h=>by
  refine ⟨b::B,by simp only [List.length_cons,qP,List.filter_nil,List.length_nil] at *;omega,?_⟩
  rw [qA]
  simp only [qeW]
  simp only [List.length_nil,Nat.add_zero] at h
  rw [h,decide_eq_false (by omega),cond_false,Option.bind_some]
  simp [qP]
 | t::rest,A,b,B,n+1,hn,h=>by
  simp only [List.length_cons] at hn h
  rw [qA]
  simp only [qeW]
  have hj:(0+Int.toNat ((A.length+(B.length+1):Nat):Int))=(A.map vT).length+(b::B).length:=by simp;omega
  have hi:(0+Int.toNat (A.length:Int))=(A.map vT).length:=by simp
  have hw:IntKind.i64.wrap (((A.length+(B.length+1):Nat):Int)+1)=((A.length+(B.length+1+1):Nat):Int):=by rw [w64 (by omega) (by omega)];omega
  rw [decide_eq_true (show ((A.length+(B.length+1):Nat):Int)<(N:Int) by omega),decide_eq_true (show (0:Int)≤((A.length+(B.length+1):Nat):Int) by omega)]
  simp only [cond_true,Bool.and_true]
  rw [List.map_cons,qjd _ _ _ _ _ hj,Option.bind_some,vT_0,Option.bind_some,qcG,Option.bind_some,vT_1,Option.bind_some,qcG,Option.bind_some]
  have hz:Nat.beq (bK (Int.toNat t.c)) 0=zI t.c:=rfl
  rw [hz]
  cases hzi:zI t.c with
  | false =>
   have e1:qP (t::rest)=t::qP rest:=by unfold qP;rw [List.filter_cons];simp [hzi]
   obtain ⟨b2,B2,e2⟩:∃ b2 B2,B++[vT t]=b2::B2:=by cases B with | nil=>exact ⟨_,_,rfl⟩ | cons x B=>exact ⟨_,_,rfl⟩
   have e3:B2.length=B.length:=by have:=congrArg List.length e2;simp at this;omega
   obtain ⟨B',q1,q2⟩:=qdl N hN rest (A++[t]) b2 B2 n (by omega) (by simp;omega)
   refine ⟨B',by rw [e1];simp at q1 ⊢;omega,?_⟩
   rw [Bool.not_false,cond_true,decide_eq_true (show (0:Int)≤(A.length:Int) by omega),decide_eq_true (show (A.length:Int)<(N:Int) by omega)]
   simp only [cond_true,Bool.and_true]
   rw [show (A.map vT++(b::B++vT t::rest.map vT))[0+Int.toNat (A.length:Int)]?=some b from qjd (A.map vT) [] _ b _ (by simp),Option.bind_some]
   rw [qFD,List.cons_append,qyv _ _ _ _ _ hi,hw,w64 (by omega) (by omega)]
   rw [e1]
   have e4:A.map vT++(vT t::(B++vT t::rest.map vT))=(A++[t]).map vT++(b2::B2++rest.map vT):=by
    rw [← e2];simp
   rw [e4,show ((A.length:Int)+1)=(((A++[t]).length:Nat):Int) by simp]
   rw [show (A.length+(B.length+1+1):Nat)=(A++[t]).length+(B2.length+1) by simp;omega]
   refine q2.trans ?_
   rw [List.append_assoc];rfl
  | true =>
   have e1:qP (t::rest)=qP rest:=by unfold qP;rw [List.filter_cons];simp [hzi]
   obtain ⟨B',q1,q2⟩:=qdl N hN rest A b (B++[vT t]) n (by omega) (by simp;omega)
   refine ⟨B',by rw [e1];exact q1,?_⟩
   rw [Bool.not_true,cond_false,hw,e1]
   rw [show A.map vT++(b::B++vT t::rest.map vT)=A.map vT++(b::(B++[vT t])++rest.map vT) by simp]
   rw [show (A.length+(B.length+1+1):Nat)=A.length+((B++[vT t]).length+1) by simp]
   exact q2
theorem qdm {l:List Tm} (h:∀ t∈l,zI t.c=false):qP l=l:=List.filter_eq_self.2 fun t ht=>by rw [h t ht];rfl
theorem qm5 {A rest:List Tm} {t:Tm} (h:∀ t∈A,zI t.c=false) (ht:zI t.c=true):qP (A++t::rest)=A++qP rest:=by
 have e:qP (A++t::rest)=qP A++qP (t::rest):=List.filter_append ..
 rw [e,qdm h]
 congr 1
 unfold qP;rw [List.filter_cons];simp [ht]
theorem qhz (l:List Tm) (fu N:Nat) (hN:N<9223372036854775808) (hl:l.length=N) (hfu:N<fu):∀ (rest A:List Tm) (n:Nat),A++rest=l→(∀ t∈A,zI t.c=false)→rest.length<n →
 ∃ y,itP n (qcF l fu) (N,((N:Int),((A.length:Int),(l.map vT,()))))=some y∧(y = .exit 0 (N,((N:Int),((N:Int),(l.map vT,()))))∧qP l=l∨y = .ret (qP l))
 | [],A,n+1,hA,hz,hn=>by
  rw [List.append_nil] at hA;subst hA
  refine ⟨_,?_,.inl ⟨rfl,qdm hz⟩⟩
  rw [qA]
  simp only [qcF]
  rw [hl,decide_eq_false (by omega),cond_false,Option.bind_some]
 | t::rest,A,n+1,hA,hz,hn=>by
  have hNl:A.length+(rest.length+1)=N:=by rw [← hl,← hA];simp
  rw [qA]
  simp only [qcF,List.length_map,hl]
  rw [decide_eq_true (show (A.length:Int)<(N:Int) by omega),decide_eq_true (show (0:Int)≤(A.length:Int) by omega)]
  simp only [cond_true,Bool.and_true]
  have hg:(l.map vT)[0+Int.toNat (A.length:Int)]?=some (vT t):=by
   rw [← hA,List.map_append,List.map_cons]
   exact qjd (A.map vT) [] _ (vT t) _ (by simp)
  rw [hg,Option.bind_some,vT_0,Option.bind_some,qcG,Option.bind_some,vT_1,Option.bind_some,qcG,Option.bind_some]
  have hzz:Nat.beq (bK (Int.toNat t.c)) 0=zI t.c:=rfl
  rw [hzz]
  cases hzi:zI t.c with
  | false =>
   obtain ⟨y,q1,q2⟩:=qhz l fu N hN hl hfu rest (A++[t]) n (by rw [← hA];simp) (fun u hu=>by
    rcases List.mem_append.1 hu with hu | hu
    · exact hz u hu
    · rw [List.mem_singleton.1 hu];exact hzi) (by simp at hn;omega)
   refine ⟨y,?_,q2⟩
   rw [cond_false,Option.bind_some,w64 (by omega) (by omega)]
   rw [show ((A.length:Int)+1)=(((A++[t]).length:Nat):Int) by simp]
   exact q1
  | true =>
   obtain ⟨B',q1,q2⟩:=qdl N hN rest A (vT t) [] fu (by omega) (by simp;omega)
   refine ⟨_,?_,.inr rfl⟩
   rw [cond_true,decide_eq_false (by omega),cond_false]
   have hrow:l.map vT=A.map vT++([vT t]++rest.map vT):=by rw [← hA];simp
   rw [hrow,w64 (by omega) (by omega),show ((A.length:Int)+1)=((A.length+(([]:List T).length+1):Nat):Int) by simp,q2]
   simp only [Option.bind_some]
   have hK:(A++qP rest).length≤N:=by simp at q1 ⊢;omega
   have hlen:((A++qP rest).map vT++B').length=N:=by simp at q1 ⊢;omega
   have ht1:(0+Int.toNat ((A++qP rest).length:Int))=((A++qP rest).map vT).length:=by simp;omega
   rw [decide_eq_true (show (0:Int)≤((A++qP rest).length:Int) by omega),decide_eq_true (show ((A++qP rest).length:Int)≤(N:Int) by omega),decide_eq_true (show (N:Int)≤(N:Int) by omega)]
   rw [show Nat.beq (List.length (T.cells (T.agg [T.s (.int .i64 0),T.s (.int .u64 0)]))) 2=true from rfl,hlen]
   rw [show Nat.ble (0+Int.toNat ((A++qP rest).length:Int)+Int.toNat ((N:Int)-((A++qP rest).length:Int))) N=true by rw [Nat.ble_eq];omega]
   simp only [Bool.and_true,cond_true]
   rw [ht1,List.take_left,qoS _ _ _ (by simp;omega)]
   simp only [Option.bind_some,jR]
   rw [← hA,qm5 hz hzi]
   rfl
def qm6 (p:List Tm×Unit):Option (List Tm):=some (qP p.1)
theorem qyw (p:List Tm×Unit) (y:List Tm) (hg:(dc qiQ (d1 (cF 176))).good p) (h:qm6 p=some y):∃ n,qDk n p.1 p.2=some y:=by
 obtain ⟨l,u⟩:=p
 have:=soi h;subst this
 have hl':l.length≤9223372036854775807:=by have:=hg.1.2;rw [jQ] at this;exact this
 have hl:l.length<9223372036854775808:=by omega
 obtain ⟨z,q1,q2⟩:=qhz l (l.length+1) l.length hl rfl (by omega) l [] (l.length+1) rfl (fun t ht=>by cases ht) (by omega)
 refine ⟨l.length+1,?_⟩
 unfold qDk
 simp only [List.length_map]
 have q1':itP (l.length+1) (qcF l (l.length+1)) (l.length,((l.length:Int),((0:Int),(l.map vT,()))))=some z:=q1
 rw [show (l.map fun z21=>T.agg [T.s (.int .i64 (Tm.id z21)),T.s (.int .u64 (Tm.c z21))])=l.map vT from rfl,q1',Option.bind_some]
 rcases q2 with ⟨rfl,e⟩ | rfl
 · simp only []
   rw [show Nat.beq 0 0=true from rfl,cond_true,qhy _ _ (by simp),e]
   exact jR l
 · rfl
def qoT (p:List Tm×Unit):Option Bool:=some (p.1.any fun t=>!fI t.c)
theorem qhA (l:List Tm) (hl:l.length<9223372036854775808):∀ (rest A:List Tm),A++rest=l→∃ n y,itP n Zo (l,((l.length:Int),((A.length:Int),())))=some y∧(y = .exit 0 (l,((l.length:Int),((l.length:Int),())))∧(rest.any fun t=>!fI t.c)=false∨y = .ret true∧(rest.any fun t=>!fI t.c)=true)
 | [],A,hA=>by
  rw [List.append_nil] at hA;subst hA
  refine ⟨1,_,?_,.inl ⟨rfl,rfl⟩⟩
  rw [qA]
  simp only [Zo]
  rw [decide_eq_false (by omega),cond_false];rfl
 | t::rest,A,hA=>by
  have hNl:A.length+(rest.length+1)=l.length:=by rw [← hA];simp
  have hg:idx l (A.length:Int)=some t:=by
   rw [jJ,← hA,List.getElem?_append_right (by omega),Nat.sub_self];rfl
  have hzz:jK (bK (Int.toNat t.c))=fI t.c:=rfl
  cases hzi:fI t.c with
  | true =>
   obtain ⟨n,y,q1,q2⟩:=qhA l hl rest (A++[t]) (by rw [← hA];simp)
   refine ⟨n+1,y,?_,?_⟩
   · rw [qA]
     simp only [Zo]
     rw [decide_eq_true (show (A.length:Int)<(l.length:Int) by omega),cond_true,hg,Option.bind_some,hzz,hzi,Bool.not_true,cond_false,Option.bind_some,w64 (by omega) (by omega)]
     rw [show ((A.length:Int)+1)=(((A++[t]).length:Nat):Int) by simp]
     exact q1
   · simpa [hzi] using q2
  | false =>
   refine ⟨1,.ret true,?_,.inr ⟨rfl,by simp [hzi]⟩⟩
   rw [qA]
   simp only [Zo]
   rw [decide_eq_true (show (A.length:Int)<(l.length:Int) by omega),cond_true,hg,Option.bind_some,hzz,hzi,Bool.not_false,cond_true,decide_eq_true (show (0:Int)≤(A.length:Int) by omega)]
   rfl
theorem qtU (p:List Tm×Unit) (y:Bool) (hg:(dc ZJ (d1 (cF 178))).good p) (h:qoT p=some y):∃ n,qtT n p.1 p.2=some y:=by
 obtain ⟨l,u⟩:=p
 have:=soi h;subst this
 have hl':l.length≤9223372036854775807:=by have:=hg.1.2;rw [jQ] at this;exact this
 have hl:l.length<9223372036854775808:=by omega
 obtain ⟨n,z,q1,q2⟩:=qhA l hl l [] rfl
 refine ⟨n,?_⟩
 unfold qtT
 have q1':itP n Zo (l,((l.length:Int),((0:Int),())))=some z:=q1
 simp only []
 rw [q1',Option.bind_some]
 rcases q2 with ⟨rfl,e⟩ | ⟨rfl,e⟩
 · simp only [e];rfl
 · simp only [e]
def qoU (p:List Tm×Unit):Option (List Tm):=bif p.1.all fun t=>!zI t.c then some p.1 else none
theorem qm7 (l:List Tm) (hl:l.length<9223372036854775808) (hz:∀ t∈l,zI t.c=false):∀ fu n rest A,rest.length<n→A++rest=l→itP n (qgc fu l) (l,((l.length:Int),(((A:List Tm).length:Int),())))=some (.exit 0 (l,((l.length:Int),((l.length:Int),())))):=by
 intro fu n
 induction n with
 | zero=>intro rest A h;omega
 | succ n ih =>
  intro rest A h hA
  rw [qA]
  simp only [qgc]
  match rest,h,hA with
  | [],_,hA =>
   rw [List.append_nil] at hA;subst hA
   rw [decide_eq_false (by omega),cond_false];rfl
  | t::rest,h,hA =>
   have hNl:A.length+(rest.length+1)=l.length:=by rw [← hA];simp
   have hg:idx l (A.length:Int)=some t:=by
    rw [jJ,← hA,List.getElem?_append_right (by omega),Nat.sub_self];rfl
   have hzz:Nat.beq (bK (Int.toNat t.c)) 0=zI t.c:=rfl
   rw [decide_eq_true (show (A.length:Int)<(l.length:Int) by omega),cond_true,hg,Option.bind_some,hzz,hz t (by rw [← hA];simp),cond_false,Option.bind_some,w64 (by omega) (by omega)]
   rw [show ((A.length:Int)+1)=(((A++[t]).length:Nat):Int) by simp]
   exact ih rest (A++[t]) (by simp at h;omega) (by rw [← hA];simp)
theorem qtV (p:List Tm×Unit) (y:List Tm) (hg:(dc ZJ (d1 (cF 176))).good p) (h:qoU p=some y):∃ n,qtS n p.1 p.2=some y:=by
 obtain ⟨l,u⟩:=p
 obtain ⟨h1,h2⟩:=qj h
 have:=soi h2;subst this
 have hl':l.length≤9223372036854775807:=by have:=hg.1.2;rw [jQ] at this;exact this
 have q:=qm7 l (by omega) (fun t ht=>by have:=List.all_eq_true.1 h1 t ht;simpa using this) (l.length+1) (l.length+1) l [] (by omega) rfl
 refine ⟨l.length+1,?_⟩
 unfold qtS
 exact obs q rfl
end
end Su
end
section
namespace Su
open Go Fly
set_option linter.unusedVariables false
noncomputable section
def qtW  (a:(Bool×(Int×((List Tm)×Int)))):Option (Bool×(Int×((List Tm)×Int))) :=
 (bif (true&&(Nat.beq (List.length (List.map (fun z0=>(T.agg [(T.s (.int .i64 (Tm.id z0))),(T.s (.int .u64 (Tm.c z0)))])) a.2.2.1)) (List.length (List.map (fun z1=>(T.agg [(T.s (.int .i64 (Tm.id z1))),(T.s (.int .u64 (Tm.c z1)))])) a.2.2.1)))) then
 ((((yt (List.map (fun z2=>(T.agg [(T.s (.int .i64 (Tm.id z2))),(T.s (.int .u64 (Tm.c z2)))])) a.2.2.1))).bind fun x3 =>
 some (x3,())).bind fun x4 =>
 some (qP x4.1)).bind fun x5 =>
 (bif (Nat.beq (bK (Int.toNat a.2.1)) 0) then
 (bif (Nat.beq (bK (Int.toNat a.2.2.2)) 0) then
 (bif (List.any x5 (fun z6=>(!(fI (Tm.c z6))))) then
 some (true,((0:Int),([],(0:Int))))
 else
  some (a.1,((0:Int),(x5,(0:Int)))))
 else
  (bif (!(jK (bK (Int.toNat a.2.2.2)))) then
  some (true,((0:Int),([],(0:Int))))
 else
  (bif (List.any x5 (fun z7=>(!(fI (Tm.c z7))))) then
  some (true,((0:Int),([],(0:Int))))
 else
  some (a.1,((0:Int),(x5,a.2.2.2))))))
 else
  (bif (Nat.beq (bK (Int.toNat a.2.2.2)) 0) then
  (bif (!(jK (bK (Int.toNat a.2.1)))) then
  some (true,((0:Int),([],(0:Int))))
 else
  (bif (List.any x5 (fun z8=>(!(fI (Tm.c z8))))) then
  some (true,((0:Int),([],(0:Int))))
 else
  some (a.1,(a.2.1,(x5,(0:Int))))))
 else
  (bif (!(jK (bK (Int.toNat a.2.1)))) then
  some (true,((0:Int),([],(0:Int))))
 else
  (bif (!(jK (bK (Int.toNat a.2.2.2)))) then
  some (true,((0:Int),([],(0:Int))))
 else
  (bif (List.any x5 (fun z9=>(!(fI (Tm.c z9))))) then
  some (true,((0:Int),([],(0:Int))))
 else
  some (a.1,(a.2.1,(x5,a.2.2.2))))))))
 else
  none)
def qm8  (a:(Bool×(Int×((List Tm)×Int)))):Option (Bool×(Int×((List Tm)×Int))) :=
 ((bif (List.all a.2.2.1 (fun z0=>(!(zI (Tm.c z0))))) then
 some a.2.2.1
 else
  none)).bind fun x1 =>
  (bif (Nat.beq (bK (Int.toNat a.2.1)) 0) then
  (bif (Nat.beq (bK (Int.toNat a.2.2.2)) 0) then
  (bif (List.any x1 (fun z2=>(!(fI (Tm.c z2))))) then
  some (true,((0:Int),([],(0:Int))))
 else
  some (a.1,((0:Int),(x1,(0:Int)))))
 else
  (bif (!(jK (bK (Int.toNat a.2.2.2)))) then
  some (true,((0:Int),([],(0:Int))))
 else
  (bif (List.any x1 (fun z3=>(!(fI (Tm.c z3))))) then
  some (true,((0:Int),([],(0:Int))))
 else
  some (a.1,((0:Int),(x1,a.2.2.2))))))
 else
  (bif (Nat.beq (bK (Int.toNat a.2.2.2)) 0) then
  (bif (!(jK (bK (Int.toNat a.2.1)))) then
  some (true,((0:Int),([],(0:Int))))
 else
  (bif (List.any x1 (fun z4=>(!(fI (Tm.c z4))))) then
  some (true,((0:Int),([],(0:Int))))
 else
  some (a.1,(a.2.1,(x1,(0:Int))))))
 else
  (bif (!(jK (bK (Int.toNat a.2.1)))) then
  some (true,((0:Int),([],(0:Int))))
 else
  (bif (!(jK (bK (Int.toNat a.2.2.2)))) then
  some (true,((0:Int),([],(0:Int))))
 else
  (bif (List.any x1 (fun z5=>(!(fI (Tm.c z5))))) then
  some (true,((0:Int),([],(0:Int))))
 else
  some (a.1,(a.2.1,(x1,a.2.2.2))))))))
def YV:(Int×((List Tm)×(Int×(Int×(Bool×(Int×((List Tm)×(Int×Unit))))))))→Option ((Int×((List Tm)×(Int×(Int×(Bool×(Int×((List Tm)×(Int×Unit)))))))) ⊕ (Lp (Int×((List Tm)×(Int×(Int×(Bool×(Int×((List Tm)×(Int×Unit)))))))) Bool)):=fun p0=>(bif (decide ((p0.2.2.2.1<p0.2.2.1))) then
 ((idx p0.2.1 p0.2.2.2.1)).bind fun x1 =>
 (bif (decide (((Tm.id x1)≤p0.1))) then
 some (.inr (.ret false))
 else
  (bif (Nat.beq (bK (Int.toNat (Tm.c x1))) 0) then
  some (.inr (.ret false))
 else
  (bif (!(jK (bK (Int.toNat (Tm.c x1))))) then
  some (.inr (.ret false))
 else
  some (.inl ((Tm.id x1),(p0.2.1,(p0.2.2.1,((IntKind.wrap .i64 (p0.2.2.2.1+1)),(p0.2.2.2.2.1,(p0.2.2.2.2.2.1,(p0.2.2.2.2.2.2.1,(p0.2.2.2.2.2.2.2.1,()))))))))))))
 else
  some (.inr (.exit 0 (p0.1,(p0.2.1,(p0.2.2.1,(p0.2.2.2.1,(p0.2.2.2.2.1,(p0.2.2.2.2.2.1,(p0.2.2.2.2.2.2.1,(p0.2.2.2.2.2.2.2.1,())))))))))))
def qDl  (fu:Nat) (a:(Bool×(Int×((List Tm)×Int)))):Option Bool :=
 (bif a.1 then
 (bif (decide ((a.2.1=0))) then
 (bif (decide ((a.2.2.2=0))) then
 some (decide (((((List.length a.2.2.1):Nat):Int)=0)))
 else
  some false)
 else
  some false)
 else
  (itP fu (YV) ((-1),(a.2.2.1,((((List.length a.2.2.1):Nat):Int),((0:Int),(a.1,(a.2.1,(a.2.2.1,(a.2.2.2,()))))))))).bind fun x2 =>
  (match x2 with
 | .exit i3 p4=>(bif (Nat.beq i3 0) then
  (bif (jK (bK (Int.toNat p4.2.2.2.2.2.1))) then
  (bif (!(decide ((p4.2.2.2.2.2.1=9223372036854775808)))) then
  (bif (jK (bK (Int.toNat p4.2.2.2.2.2.2.2.1))) then
  some (decide (((Int.fdiv p4.2.2.2.2.2.2.2.1 (2^63))=0)))
 else
  some false)
 else
  some false)
 else
  some false)
 else
  none)
 | .ret o5=>some o5))
abbrev Fm:=Bool×(Int×(List Tm×Int))
def qbK:Fm:=(true,(0,([],0)))
def nzI (f:Int):Int:=bif zI f then 0 else f
theorem qm9:fI 0=true:=rfl
def qA7:{f:Fm→Fm // ∀ a,f a=bif (fI (nzI a.2.1)&&fI (nzI a.2.2.2))&&!((qP a.2.2.1).any fun t=>!fI t.c) then (a.1,(nzI a.2.1,(qP a.2.2.1,nzI a.2.2.2))) else qbK}:=Classical.choice ⟨⟨_,fun _=>rfl⟩⟩
def qH (a:Fm):Fm:=qA7.1 a
theorem Ju (a:Fm):qH a=bif (fI (nzI a.2.1)&&fI (nzI a.2.2.2))&&!((qP a.2.2.1).any fun t=>!fI t.c) then (a.1,(nzI a.2.1,(qP a.2.2.1,nzI a.2.2.2))) else qbK:=qA7.2 a
def qje (a:Fm):Option Fm:=some (qH a)
theorem qy (n:Nat):Nat.beq n n=true:=by simp
theorem qtX (a y:Fm) (hg:(d1 qfV).good a) (h:qje a=some y):qtW a=some y:=by
 obtain ⟨b,m,l,e⟩:=a
 have:=soi h;subst this
 rw [Ju]
 unfold qtW
 simp only [qy,Bool.and_true,cond_true]
 refine obs (t:=qP l) (obs (obs (jR l) rfl) rfl) ?_
 have hz:∀ f:Int,Nat.beq (bK (Int.toNat f)) 0=zI f:=fun _=>rfl
 have hf:∀ f:Int,jK (bK (Int.toNat f))=fI f:=fun _=>rfl
 simp only [hz,hf]
 unfold nzI
 cases zI m <;> cases zI e <;> simp only [cond_true,cond_false,qm9] <;> cases fI m <;> cases fI e <;> cases (qP l).any (fun t=>!fI t.c) <;> rfl
def Qd:Int→List Tm→Bool
 | _,[]=>true
 | last,t::l=>decide (last<t.id)&&(!zI t.c&&(fI t.c&&Qd t.id l))
def mayL:{f:Fm→Bool // ∀ a,f a=bif a.1 then decide (a.2.1=0)&&(decide (a.2.2.2=0)&&a.2.2.1.isEmpty) else Qd (-1) a.2.2.1&&(fI a.2.1&&(!decide (a.2.1=9223372036854775808)&&(fI a.2.2.2&&decide (Int.fdiv a.2.2.2 (2^63)=0))))}:=Classical.choice ⟨⟨_,fun _=>rfl⟩⟩
def yU (a:Fm):Bool:=mayL.1 a
theorem qeX (a:Fm):yU a=bif a.1 then decide (a.2.1=0)&&(decide (a.2.2.2=0)&&a.2.2.1.isEmpty) else Qd (-1) a.2.2.1&&(fI a.2.1&&(!decide (a.2.1=9223372036854775808)&&(fI a.2.2.2&&decide (Int.fdiv a.2.2.2 (2^63)=0)))):=mayL.2 a
def qtY (a:Fm):Option Bool:=some (yU a)
theorem qlm (l:List Tm) (hl:l.length<9223372036854775808) (q:Bool×(Int×(List Tm×(Int×Unit)))):∀ (rest A:List Tm) (last:Int),A++rest=l→∃ n y,itP n YV (last,(l,((l.length:Int),((A.length:Int),q))))=some y∧((∃ last',y = .exit 0 (last',(l,((l.length:Int),((l.length:Int),q)))))∧Qd last rest=true∨y = .ret false∧Qd last rest=false)
 | [],A,last,hA=>by
  rw [List.append_nil] at hA;subst hA
  refine ⟨1,_,?_,.inl ⟨⟨last,rfl⟩,rfl⟩⟩
  rw [qA]
  simp only [YV]
  rw [decide_eq_false (by omega),cond_false];rfl
 | t::rest,A,last,hA=>by
  have hNl:A.length+(rest.length+1)=l.length:=by rw [← hA];simp
  have hg:idx l (A.length:Int)=some t:=by
   rw [jJ,← hA,List.getElem?_append_right (by omega),Nat.sub_self];rfl
  have hz:Nat.beq (bK (Int.toNat t.c)) 0=zI t.c:=rfl
  have hf:jK (bK (Int.toNat t.c))=fI t.c:=rfl
  obtain ⟨n,y,q1,q2⟩:=qlm l hl q rest (A++[t]) t.id (by rw [← hA];simp)
  by_cases h1:t.id≤last
  · refine ⟨1,.ret false,?_,.inr ⟨rfl,by unfold Qd;rw [decide_eq_false (by omega)];rfl⟩⟩
    rw [qA]
    simp only [YV]
    rw [decide_eq_true (show (A.length:Int)<(l.length:Int) by omega),cond_true,hg,Option.bind_some,decide_eq_true h1];rfl
  · cases h2:zI t.c with
    | true =>
     refine ⟨1,.ret false,?_,.inr ⟨rfl,by unfold Qd;rw [h2];simp⟩⟩
     rw [qA]
     simp only [YV]
     rw [decide_eq_true (show (A.length:Int)<(l.length:Int) by omega),cond_true,hg,Option.bind_some,decide_eq_false h1,hz,h2];rfl
    | false =>
     cases h3:fI t.c with
     | false =>
      refine ⟨1,.ret false,?_,.inr ⟨rfl,by unfold Qd;rw [h3];simp⟩⟩
      rw [qA]
      simp only [YV]
      rw [decide_eq_true (show (A.length:Int)<(l.length:Int) by omega),cond_true,hg,Option.bind_some,decide_eq_false h1,hz,h2,hf,h3];rfl
     | true =>
      have e:Qd last (t::rest)=Qd t.id rest:=by
       show (decide (last<t.id)&&(!zI t.c&&(fI t.c&&Qd t.id rest)))=_
       rw [decide_eq_true (by omega),h2,h3];rfl
      refine ⟨n+1,y,?_,by rw [e];exact q2⟩
      rw [qA]
      simp only [YV]
      rw [decide_eq_true (show (A.length:Int)<(l.length:Int) by omega),cond_true,hg,Option.bind_some,decide_eq_false h1,hz,h2,hf,h3]
      simp only [Bool.not_true,cond_false,Option.bind_some]
      rw [w64 (by omega) (by omega),show ((A.length:Int)+1)=(((A++[t]).length:Nat):Int) by simp]
      exact q1
theorem qyx (a:Fm) (y:Bool) (hg:(d1 qu).good a) (h:qtY a=some y):∃ n,qDl n a=some y:=by
 obtain ⟨b,m,l,e⟩:=a
 have:=soi h;subst this
 have hl':l.length≤9223372036854775807:=by have:=hg.2.2.1.2;rw [jQ] at this;exact this
 have hf:∀ f:Int,jK (bK (Int.toNat f))=fI f:=fun _=>rfl
 rw [qeX]
 unfold qDl
 simp only [hf]
 cases b with
 | true =>
  refine ⟨0,?_⟩
  simp only [cond_true]
  have:decide (((l.length:Nat):Int)=0)=l.isEmpty:=by cases l <;> simp <;> omega
  rw [this]
  cases decide (m=0) <;> cases decide (e=0) <;> rfl
 | false =>
  obtain ⟨n,z,q1,q2⟩:=qlm l (by omega) (false,(m,(l,(e,())))) l [] (-1) rfl
  refine ⟨n,?_⟩
  simp only [cond_false]
  have q1':itP n YV (-1,(l,((l.length:Int),((0:Int),(false,(m,(l,(e,()))))))))=some z:=q1
  rw [q1',Option.bind_some]
  rcases q2 with ⟨⟨last',rfl⟩,e1⟩ | ⟨rfl,e1⟩
  · simp only [e1]
    rw [show Nat.beq 0 0=true from rfl,cond_true]
    cases fI m <;> cases decide (m=9223372036854775808) <;> cases fI e <;> rfl
  · simp only [e1];rfl
def qln (a:Fm):Option Fm:=bif a.2.2.1.all fun t=>!zI t.c then some (qH a) else none
theorem qqE (a y:Fm) (hg:(d1 qu).good a) (h:qln a=some y):qm8 a=some y:=by
 obtain ⟨b,m,l,e⟩:=a
 obtain ⟨h1,h2⟩:=qj h
 have:=soi h2;subst this
 have hd:qP l=l:=qdm fun t ht=>by have:=List.all_eq_true.1 h1 t ht;simpa using this
 rw [Ju]
 unfold qm8
 have h1':(List.all l fun z0=>!zI (Tm.c z0))=true:=h1
 have hz:∀ f:Int,Nat.beq (bK (Int.toNat f)) 0=zI f:=fun _=>rfl
 have hf:∀ f:Int,jK (bK (Int.toNat f))=fI f:=fun _=>rfl
 simp only [h1',cond_true,Option.bind_some,hz,hf,hd]
 unfold nzI
 cases zI m <;> cases zI e <;> simp only [cond_true,cond_false,qm9] <;> cases fI m <;> cases fI e <;> cases l.any (fun t=>!fI t.c) <;> rfl
end
end Su
end
section
namespace Su
open Go Fly
set_option linter.unusedVariables false
noncomputable section
def qa3:((List Fm)×(Int×(Int×Unit)))→Option (((List Fm)×(Int×(Int×Unit))) ⊕ (Lp ((List Fm)×(Int×(Int×Unit))) Bool)):=fun p0=>(bif (decide ((p0.2.2.1<p0.2.1))) then
 ((idx p0.1 p0.2.2.1)).bind fun x1 =>
 (bif x1.1 then
 some (.inr (.ret (decide ((0≤p0.2.2.1)))))
 else
  (bif (!(yU (x1.1,(x1.2.1,(x1.2.2.1,x1.2.2.2))))) then
  some (.inr (.ret (decide ((0≤p0.2.2.1)))))
 else
  some (.inl (p0.1,(p0.2.1,((IntKind.wrap .i64 (p0.2.2.1+1)),()))))))
 else
  some (.inr (.exit 0 (p0.1,(p0.2.1,(p0.2.2.1,()))))))
def qna  (fu:Nat) (l:(List Fm)):Option Bool :=
 (itP fu (qa3) (l,((((List.length l):Nat):Int),((0:Int),())))).bind fun x2 =>
 (match x2 with
 | .exit i3 p4=>(bif (Nat.beq i3 0) then
  some false
 else
  none)
 | .ret o5=>some o5)
theorem qtZ {α:Type} (l:List α) (F:List α×(Int×(Int×Unit))→Option ((List α×(Int×(Int×Unit))) ⊕ (Lp (List α×(Int×(Int×Unit))) Bool))) (p:α→Bool)
 (hF:∀ (i:Nat) (x:α),l[i]?=some x→F (l,((l.length:Int),((i:Int),())))=bif p x then some (.inr (.ret true)) else some (.inl (l,((l.length:Int),(((i+1:Nat):Int),())))))
 (hE:F (l,((l.length:Int),((l.length:Int),())))=some (.inr (.exit 0 (l,((l.length:Int),((l.length:Int),())))))) :
 ∃ n y,itP n F (l,((l.length:Int),((0:Int),())))=some y∧(y = .exit 0 (l,((l.length:Int),((l.length:Int),())))∧l.any p=false∨y = .ret true∧l.any p=true):=by
 have main:∀ (rest A:List α),A++rest=l→∃ n y,itP n F (l,((l.length:Int),((A.length:Int),())))=some y∧(y = .exit 0 (l,((l.length:Int),((l.length:Int),())))∧rest.any p=false∨y = .ret true∧rest.any p=true):=by
  intro rest
  induction rest with
  | nil =>
   intro A hA
   rw [List.append_nil] at hA;subst hA
   exact ⟨1,_,by rw [qA,hE];rfl,.inl ⟨rfl,rfl⟩⟩
  | cons x rest ih =>
   intro A hA
   have hg:l[A.length]?=some x:=by rw [← hA,List.getElem?_append_right (by omega),Nat.sub_self];rfl
   have:=hF A.length x hg
   cases hp:p x with
   | true =>
    rw [hp,cond_true] at this
    exact ⟨1,.ret true,by rw [qA,this];rfl,.inr ⟨rfl,by simp [hp]⟩⟩
   | false =>
    rw [hp,cond_false] at this
    obtain ⟨n,y,q1,q2⟩:=ih (A++[x]) (by rw [← hA];simp)
    refine ⟨n+1,y,?_,by simpa [hp] using q2⟩
    rw [qA,this]
    simp only [Option.bind_some]
    rw [show A.length+1=(A++[x]).length by simp]
    exact q1
 exact main l [] rfl
def qlo (l:List Fm):Option Bool:=some (l.any fun a=>a.1||!yU a)
theorem qqF (l:List Fm) (y:Bool) (hg:(d1 qCv).good l) (h:qlo l=some y):∃ n,qna n l=some y:=by
 have:=soi h;subst this
 have hl':l.length≤9223372036854775807:=by have:=hg.2;rw [jQ] at this;exact this
 obtain ⟨n,z,q1,q2⟩:=qtZ l qa3 (fun a=>a.1||!yU a) (fun i x hx=>by
  have hi:i<l.length:=(List.getElem?_eq_some_iff.1 hx).1
  simp only [qa3]
  rw [decide_eq_true (show (i:Int)<(l.length:Int) by omega),cond_true,jJ,hx,decide_eq_true (show (0:Int)≤(i:Int) by omega),w64 (by omega) (by omega)]
  obtain ⟨b,m,t,e⟩:=x
  cases b <;> cases h:yU (false,(m,(t,e))) <;> simp [h])
  (by simp only [qa3];rw [decide_eq_false (by omega),cond_false])
 refine ⟨n,?_⟩
 unfold qna
 rw [q1,Option.bind_some]
 rcases q2 with ⟨rfl,e⟩ | ⟨rfl,e⟩
 · simp only [e];rfl
 · simp only [e]
end
end Su
end
section
namespace Su
open Go Fly
set_option linter.unusedVariables false
noncomputable section
abbrev qdn:=((List Tm)×(Int×(Int×((List T)×(Bool×(Int×(Nat×(Int×(Bool×(Int×(Nat×(Int×((List T)×Unit)))))))))))))
def qcH:qdn→Option (qdn ⊕ qdn):=fun p1=>(bif (decide ((p1.2.2.1<p1.2.1))) then
 ((idx p1.1 p1.2.2.1)).bind fun x2 =>
 (bif ((true&&(Nat.beq p1.2.2.2.2.2.2.2.2.2.2.1 (List.length p1.2.2.2.2.2.2.2.2.2.2.2.2.1)))&&(Nat.ble ((List.length p1.2.2.2.2.2.2.2.2.2.2.2.2.1)+(List.length [(T.agg [(T.s (.int .i64 (Tm.id x2))),(T.s (.int .u64 (((jU (Int.toNat (Tm.c x2))):Nat):Int)))])])) 549755813888)) then
 some (.inl (p1.1,(p1.2.1,((IntKind.wrap .i64 (p1.2.2.1+1)),(p1.2.2.2.1,(p1.2.2.2.2.1,(p1.2.2.2.2.2.1,(p1.2.2.2.2.2.2.1,(p1.2.2.2.2.2.2.2.1,(p1.2.2.2.2.2.2.2.2.1,(p1.2.2.2.2.2.2.2.2.2.1,((List.length (p1.2.2.2.2.2.2.2.2.2.2.2.2.1++[(T.agg [(T.s (.int .i64 (Tm.id x2))),(T.s (.int .u64 (((jU (Int.toNat (Tm.c x2))):Nat):Int)))])])),(p1.2.2.2.2.2.2.2.2.2.2.2.1,((p1.2.2.2.2.2.2.2.2.2.2.2.2.1++[(T.agg [(T.s (.int .i64 (Tm.id x2))),(T.s (.int .u64 (((jU (Int.toNat (Tm.c x2))):Nat):Int)))])]),()))))))))))))))
 else
  none)
 else
  some (.inr (p1.1,(p1.2.1,(p1.2.2.1,(p1.2.2.2.1,(p1.2.2.2.2.1,(p1.2.2.2.2.2.1,(p1.2.2.2.2.2.2.1,(p1.2.2.2.2.2.2.2.1,(p1.2.2.2.2.2.2.2.2.1,(p1.2.2.2.2.2.2.2.2.2.1,(p1.2.2.2.2.2.2.2.2.2.2.1,(p1.2.2.2.2.2.2.2.2.2.2.2.1,(p1.2.2.2.2.2.2.2.2.2.2.2.2.1,())))))))))))))))
def qDm  (fu:Nat) (a:Fm):Option Fm :=
 (bif (List.any [(a.1,(a.2.1,(a.2.2.1,a.2.2.2)))] (fun z0=>(z0.1||(!(yU z0))))) then
 some (true,((0:Int),([],(0:Int))))
 else
  (itP fu (qcH) (a.2.2.1,((((List.length a.2.2.1):Nat):Int),((0:Int),([],(false,((0:Int),(0,((0:Int),(false,((((jU (Int.toNat a.2.1)):Nat):Int),(0,(a.2.2.2,([],())))))))))))))).bind fun x3 =>
  (bif (true&&(Nat.beq x3.2.2.2.2.2.2.2.2.2.2.1 (List.length x3.2.2.2.2.2.2.2.2.2.2.2.2.1))) then
  ((((((yt x3.2.2.2.2.2.2.2.2.2.2.2.2.1)).bind fun x4 =>
  some (x4,x3.2.2.2.2.2.2.2.2.2.2.2.1)).bind fun x5 =>
  some (x3.2.2.2.2.2.2.2.2.2.1,x5)).bind fun x6 =>
  some (x3.2.2.2.2.2.2.2.2.1,x6)).bind fun x7 =>
  some (qH x7)).bind fun x8 =>
  some (x8.1,(x8.2.1,(x8.2.2.1,x8.2.2.2)))
 else
  none))
def qt0  (f:Int):Option Fm :=
 some ((qH (false,(f,([],(0:Int))))).1,((qH (false,(f,([],(0:Int))))).2.1,((qH (false,(f,([],(0:Int))))).2.2.1,(qH (false,(f,([],(0:Int))))).2.2.2)))
def QW (f:Int):Int:=((jU f.toNat:Nat):Int)
def qgD (t:Tm):Tm:=⟨t.id,QW t.c⟩
def okF (a:Fm):Bool:=!(a.1||!yU a)
def Jv (l:List Tm):Bool:=Nat.ble l.length 549755813888
def qlp (a:Fm):Fm:=bif okF a then qH (false,(QW a.2.1,(a.2.2.1.map qgD,a.2.2.2))) else qbK
def qlq (f:Int):Option Fm:=some (qH (false,(f,([],0))))
theorem qqG (f:Int) (y:Fm) (hg:(d1 (cI .u64)).good f) (h:qlq f=some y):qt0 f=some y:=h
def qjf (a:Fm):Option Fm:=bif Jv a.2.2.1 then some (qlp a) else none
theorem qlr (l:List Tm) (hl:l.length≤549755813888) (r0:List T) (b0 b1:Bool) (m0 e0 m1 e1:Int) (n0:Nat):∀ (rest A:List Tm),A++rest=l →
 ∃ n,itP n qcH (l,((l.length:Int),((A.length:Int),(r0,(b0,(m0,(n0,(e0,(b1,(m1,(A.length,(e1,((A.map qgD).map vT,()))))))))))))) =
  some (l,((l.length:Int),((l.length:Int),(r0,(b0,(m0,(n0,(e0,(b1,(m1,(l.length,(e1,((l.map qgD).map vT,())))))))))))))
 | [],A,hA=>by
  rw [List.append_nil] at hA;subst hA
  refine ⟨1,?_⟩
  rw [qA]
  simp only [qcH]
  rw [decide_eq_false (by omega),cond_false];rfl
 | t::rest,A,hA=>by
  have hNl:A.length+(rest.length+1)=l.length:=by rw [← hA];simp
  have hg:idx l (A.length:Int)=some t:=by
   rw [jJ,← hA,List.getElem?_append_right (by omega),Nat.sub_self];rfl
  obtain ⟨n,q⟩:=qlr l hl r0 b0 b1 m0 e0 m1 e1 n0 rest (A++[t]) (by rw [← hA];simp)
  refine ⟨n+1,?_⟩
  rw [qA]
  simp only [qcH]
  have hR:((A.map qgD).map vT).length=A.length:=by simp
  have e:(A.map qgD).map vT++[T.agg [T.s (.int .i64 (Tm.id t)),T.s (.int .u64 (((jU (Int.toNat (Tm.c t))):Nat):Int))]]=((A++[t]).map qgD).map vT:=by simp [qgD,QW];rfl
  rw [decide_eq_true (show (A.length:Int)<(l.length:Int) by omega),cond_true,hg,Option.bind_some,hR,qy,List.length_singleton,Nat.ble_eq_true_of_le (by omega),w64 (by omega) (by omega),e]
  simp only [Bool.and_true,cond_true,Option.bind_some,List.length_map]
  rw [show ((A.length:Int)+1)=(((A++[t]).length:Nat):Int) by simp]
  exact q
theorem qyy (a y:Fm) (hg:(d1 qu).good a) (h:qjf a=some y):∃ n,qDm n a=some y:=by
 obtain ⟨b,m,l,e⟩:=a
 obtain ⟨h1,h2⟩:=qj h
 have:=soi h2;subst this
 have hl:l.length≤549755813888:=Nat.le_of_ble_eq_true h1
 have ha:List.any [((b,(m,(l,e))):Fm)] (fun z0=>(z0.1||(!(yU z0)))) = !okF (b,(m,(l,e))):=by simp [okF]
 obtain ⟨n,q⟩:=qlr l hl [] false false 0 0 (QW m) e 0 l [] rfl
 refine ⟨n,?_⟩
 unfold qDm qlp
 simp only []
 rw [ha]
 cases okF (b,(m,(l,e))) with
 | false=>rfl
 | true =>
  rw [Bool.not_true,cond_false,cond_true]
  have q':itP n qcH (l,((l.length:Int),((0:Int),(([]:List T),(false,((0:Int),(0,((0:Int),(false,(((jU (Int.toNat m):Nat):Int),(0,(e,(([]:List T),())))))))))))))=some (l,((l.length:Int),((l.length:Int),(([]:List T),(false,((0:Int),(0,((0:Int),(false,(((jU (Int.toNat m):Nat):Int),(l.length,(e,((l.map qgD).map vT,()))))))))))))):=q
  rw [q',Option.bind_some]
  have hR:((l.map qgD).map vT).length=l.length:=by simp
  simp only [hR,qy,Bool.and_true,cond_true]
  exact obs (obs (obs (obs (obs (jR (l.map qgD)) rfl) rfl) rfl) rfl) rfl
end
end Su
end
section
namespace Su
open Go Fly
set_option linter.unusedVariables false
noncomputable section
def Qq (a b m:Int):Int:=((jL a.toNat b.toNat m:Nat):Int)
def yF (a b m:Int):Int:=((qqD a.toNat b.toNat m:Nat):Int)
def upI (l:List Int):Int:=((upS 0 l:Nat):Int)
end
end Su
end
