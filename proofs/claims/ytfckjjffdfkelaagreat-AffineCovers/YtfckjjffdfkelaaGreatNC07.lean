/-
  What functions of the program compute, in plain Lean, and that the evaluator finds it.
-/
import Derived.Test.YtfckjjffdfkelaaGreatSuSd
import Derived.Test.YtfckjjffdfkelaaGreatNB10
set_option maxRecDepth 10000
section
namespace Su
open Go Fly
set_option linter.unusedVariables false
noncomputable section
def yv:ByteArray:=⟨⟨[0,1,2,2,3,3,3,3,4,4,4,4,4,4,4,4,5,5,5,5,5,5,5,5,5,5,5,5,5,5,5,5,6,6,6,6,6,6,6,6,6,6,6,6,6,6,6,6,6,6,6,6,6,6,6,6,6,6,6,6,6,6,6,6,7,7,7,7,7,7,7,7,7,7,7,7,7,7,7,7,7,7,7,7,7,7,7,7,7,7,7,7,7,7,7,7,7,7,7,7,7,7,7,7,7,7,7,7,7,7,7,7,7,7,7,7,7,7,7,7,7,7,7,7,7,7,7,7,8,8,8,8,8,8,8,8,8,8,8,8,8,8,8,8,8,8,8,8,8,8,8,8,8,8,8,8,8,8,8,8,8,8,8,8,8,8,8,8,8,8,8,8,8,8,8,8,8,8,8,8,8,8,8,8,8,8,8,8,8,8,8,8,8,8,8,8,8,8,8,8,8,8,8,8,8,8,8,8,8,8,8,8,8,8,8,8,8,8,8,8,8,8,8,8,8,8,8,8,8,8,8,8,8,8,8,8,8,8,8,8,8,8,8,8,8,8,8,8,8,8,8,8,8,8,8,8]⟩⟩
def qtA  (x:Int):Option Int :=
 (bif (decide ((4294967296≤x))) then
 (bif (decide ((65536≤(Int.fdiv x (2^32))))) then
 (bif (decide ((256≤(Int.fdiv (Int.fdiv x (2^32)) (2^16))))) then
 (bif (decide ((0≤(IntKind.wrap .u8 (Int.fdiv (Int.fdiv (Int.fdiv x (2^32)) (2^16)) (2^8)))))) then
 ((yv)[(Int.toNat (IntKind.wrap .u8 (Int.fdiv (Int.fdiv (Int.fdiv x (2^32)) (2^16)) (2^8))))]?).bind fun x0 =>
 some (IntKind.wrap .i64 ((IntKind.wrap .i64 ((IntKind.wrap .i64 (32+16))+8))+(IntKind.wrap .i64 (((UInt8.toNat x0):Nat):Int))))
 else
  none)
 else
  (bif (decide ((0≤(IntKind.wrap .u8 (Int.fdiv (Int.fdiv x (2^32)) (2^16)))))) then
  ((yv)[(Int.toNat (IntKind.wrap .u8 (Int.fdiv (Int.fdiv x (2^32)) (2^16))))]?).bind fun x1 =>
  some (IntKind.wrap .i64 ((IntKind.wrap .i64 (32+16))+(IntKind.wrap .i64 (((UInt8.toNat x1):Nat):Int))))
 else
  none))
 else
  (bif (decide ((256≤(Int.fdiv x (2^32))))) then
  (bif (decide ((0≤(IntKind.wrap .u8 (Int.fdiv (Int.fdiv x (2^32)) (2^8)))))) then
  ((yv)[(Int.toNat (IntKind.wrap .u8 (Int.fdiv (Int.fdiv x (2^32)) (2^8))))]?).bind fun x2 =>
  some (IntKind.wrap .i64 ((IntKind.wrap .i64 (32+8))+(IntKind.wrap .i64 (((UInt8.toNat x2):Nat):Int))))
 else
  none)
 else
  (bif (decide ((0≤(IntKind.wrap .u8 (Int.fdiv x (2^32)))))) then
  ((yv)[(Int.toNat (IntKind.wrap .u8 (Int.fdiv x (2^32))))]?).bind fun x3 =>
  some (IntKind.wrap .i64 (32+(IntKind.wrap .i64 (((UInt8.toNat x3):Nat):Int))))
 else
  none)))
 else
  (bif (decide ((65536≤x))) then
  (bif (decide ((256≤(Int.fdiv x (2^16))))) then
  (bif (decide ((0≤(IntKind.wrap .u8 (Int.fdiv (Int.fdiv x (2^16)) (2^8)))))) then
  ((yv)[(Int.toNat (IntKind.wrap .u8 (Int.fdiv (Int.fdiv x (2^16)) (2^8))))]?).bind fun x4 =>
  some (IntKind.wrap .i64 ((IntKind.wrap .i64 ((IntKind.wrap .i64 (0+16))+8))+(IntKind.wrap .i64 (((UInt8.toNat x4):Nat):Int))))
 else
  none)
 else
  (bif (decide ((0≤(IntKind.wrap .u8 (Int.fdiv x (2^16)))))) then
  ((yv)[(Int.toNat (IntKind.wrap .u8 (Int.fdiv x (2^16))))]?).bind fun x5 =>
  some (IntKind.wrap .i64 ((IntKind.wrap .i64 (0+16))+(IntKind.wrap .i64 (((UInt8.toNat x5):Nat):Int))))
 else
  none))
 else
  (bif (decide ((256≤x))) then
  (bif (decide ((0≤(IntKind.wrap .u8 (Int.fdiv x (2^8)))))) then
  ((yv)[(Int.toNat (IntKind.wrap .u8 (Int.fdiv x (2^8))))]?).bind fun x6 =>
  some (IntKind.wrap .i64 ((IntKind.wrap .i64 (0+8))+(IntKind.wrap .i64 (((UInt8.toNat x6):Nat):Int))))
 else
  none)
 else
  (bif (decide ((0≤(IntKind.wrap .u8 x)))) then
  ((yv)[(Int.toNat (IntKind.wrap .u8 x))]?).bind fun x7 =>
  some (IntKind.wrap .i64 (0+(IntKind.wrap .i64 (((UInt8.toNat x7):Nat):Int))))
 else
  none))))
def qC7  (a:Int) (b:Int):Option (Int×Int) :=
 some ((IntKind.wrap .u64 ((IntKind.wrap .u64 ((IntKind.wrap .u64 ((Int.fdiv a (2^32))*(Int.fdiv b (2^32))))+(Int.fdiv (IntKind.wrap .u64 ((IntKind.wrap .u64 ((Int.fdiv a (2^32))*(Fly.qB Go.BinOp.and .u64 b 4294967295)))+(Int.fdiv (IntKind.wrap .u64 ((Fly.qB Go.BinOp.and .u64 a 4294967295)*(Fly.qB Go.BinOp.and .u64 b 4294967295))) (2^32)))) (2^32))))+(Int.fdiv (IntKind.wrap .u64 ((Fly.qB Go.BinOp.and .u64 (IntKind.wrap .u64 ((IntKind.wrap .u64 ((Int.fdiv a (2^32))*(Fly.qB Go.BinOp.and .u64 b 4294967295)))+(Int.fdiv (IntKind.wrap .u64 ((Fly.qB Go.BinOp.and .u64 a 4294967295)*(Fly.qB Go.BinOp.and .u64 b 4294967295))) (2^32)))) 4294967295)+(IntKind.wrap .u64 ((Fly.qB Go.BinOp.and .u64 a 4294967295)*(Int.fdiv b (2^32)))))) (2^32)))),(IntKind.wrap .u64 (a*b)))
def qC8  (a:(Int×Int)) (b:(Int×Int)):Option ((Int×Int)×Int) :=
 (bif (decide (((ZC 0 a.2 b.2 0)≤1))) then
 some (((qbv 0 a.1 b.1 (ZC 0 a.2 b.2 0)),(qbv 0 a.2 b.2 0)),(ZC 0 a.1 b.1 (ZC 0 a.2 b.2 0)))
 else
  none)
def qC9  (a:(Int×Int)) (b:(Int×Int)):Option ((Int×Int)×Int) :=
 (bif (decide (((ZC 1 a.2 b.2 0)≤1))) then
 some (((qbv 1 a.1 b.1 (ZC 1 a.2 b.2 0)),(qbv 1 a.2 b.2 0)),(ZC 1 a.1 b.1 (ZC 1 a.2 b.2 0)))
 else
  none)
def qoH (x:Int):Option Int:=some (qn x.toNat:Int)
theorem qFB:((List.range 256).all fun i=>decide ((yv[i]?).map UInt8.toNat=some (qn i)))=true:=by decide +kernel
theorem qtB {i:Nat} (h:i<256):∃ b:UInt8,yv[i]?=some b∧b.toNat=qn i:=by
 have:=List.all_eq_true.1 qFB i (List.mem_range.2 h)
 have h2:=of_decide_eq_true this
 cases hb:yv[i]? with
 | none=>rw [hb] at h2;cases h2
 | some b=>rw [hb] at h2;exact ⟨b,rfl,by simpa using h2⟩
theorem qay {y base:Nat} (hy:y<256) (hb:base≤64):(bif decide (0≤IntKind.u8.wrap (y:Int)) then (yv[(IntKind.u8.wrap (y:Int)).toNat]?).bind fun x0=>some (IntKind.i64.wrap ((base:Int)+IntKind.i64.wrap ((x0.toNat:Nat):Int))) else none)=some (((base+qn y:Nat)):Int):=by
 obtain ⟨b,h1,h2⟩:=qtB hy
 have h8:qn y≤8:=j0.2 (by simpa using hy)
 rw [wu8 (by omega) (by omega),decide_eq_true (by omega),cond_true,Int.toNat_natCast,h1,Option.bind_some,h2]
 have e:IntKind.i64.wrap ((qn y:Nat):Int)=((qn y:Nat):Int):=w64 (by omega) (by omega)
 rw [e,w64 (by omega) (by omega)]
 rfl
theorem dge (a b:Nat):decide ((a:Int)≤(b:Int))=Nat.ble a b:=by
 rw [qcs]
 by_cases h:a≤b
 · rw [decide_eq_true h,decide_eq_true];omega
 · rw [decide_eq_false h,decide_eq_false];omega
theorem qtC (x y:Int) (hg:(d1 (cI .u64)).good x) (h:qoH x=some y):qtA x=some y:=by
 obtain ⟨n,rfl,hn⟩:=jf hg
 have:=soi h;subst this
 unfold qtA
 rw [Int.toNat_natCast]
 have hs:∀ {k:Nat},2^k≤n→qn n=k+qn (n / 2^k):=fun h=>Yx h
 have e48:IntKind.i64.wrap (IntKind.i64.wrap (32+16)+8)=((56:Nat):Int):=by decide
 have e32:IntKind.i64.wrap (32+16)=((48:Nat):Int):=by decide
 have e40:IntKind.i64.wrap (32+8)=((40:Nat):Int):=by decide
 have e24:IntKind.i64.wrap (IntKind.i64.wrap (0+16)+8)=((24:Nat):Int):=by decide
 have e16:IntKind.i64.wrap (0+16)=((16:Nat):Int):=by decide
 have e8:IntKind.i64.wrap (0+8)=((8:Nat):Int):=by decide
 have c32:(32:Int)=((32:Nat):Int):=rfl
 have c0:(0:Int)=((0:Nat):Int):=rfl
 have d1:decide ((4294967296:Int)≤(n:Int))=Nat.ble 4294967296 n:=dge 4294967296 n
 have d2:∀ m:Nat,decide ((65536:Int)≤(m:Int))=Nat.ble 65536 m:=fun m=>dge 65536 m
 have d3:∀ m:Nat,decide ((256:Int)≤(m:Int))=Nat.ble 256 m:=fun m=>dge 256 m
 simp only [JE,d1,d2,d3,e48,e40,e24,e8]
 simp only [e32,e16]
 cases h1:Nat.ble 4294967296 n with
 | true =>
  have b1:=Nat.le_of_ble_eq_true h1
  rw [cond_true]
  cases h2:Nat.ble 65536 (n / 2^32) with
  | true =>
   have b2:=Nat.le_of_ble_eq_true h2
   rw [cond_true]
   cases h3:Nat.ble 256 (n / 2^32 / 2^16) with
   | true =>
    have b3:=Nat.le_of_ble_eq_true h3
    rw [cond_true,qay (by omega) (by omega),hs (k:=56) (by omega)]
    congr 3;rw [Nat.div_div_eq_div_mul,Nat.div_div_eq_div_mul]
   | false =>
    have b3:n / 2^32 / 2^16<256:=Nat.lt_of_not_le fun e=>by rw [Nat.ble_eq_true_of_le e] at h3;cases h3
    rw [cond_false,qay b3 (by omega),hs (k:=48) (by omega)]
    congr 3;rw [Nat.div_div_eq_div_mul]
  | false =>
   have b2:n / 2^32<65536:=Nat.lt_of_not_le fun e=>by rw [Nat.ble_eq_true_of_le e] at h2;cases h2
   rw [cond_false]
   cases h3:Nat.ble 256 (n / 2^32) with
   | true =>
    have b3:=Nat.le_of_ble_eq_true h3
    rw [cond_true,qay (by omega) (by omega),hs (k:=40) (by omega)]
    congr 3;rw [Nat.div_div_eq_div_mul]
   | false =>
    have b3:n / 2^32<256:=Nat.lt_of_not_le fun e=>by rw [Nat.ble_eq_true_of_le e] at h3;cases h3
    rw [cond_false,c32,qay b3 (by omega),hs (k:=32) (by omega)]
 | false =>
  have b1:n<4294967296:=Nat.lt_of_not_le fun e=>by rw [Nat.ble_eq_true_of_le e] at h1;cases h1
  rw [cond_false]
  cases h2:Nat.ble 65536 n with
  | true =>
   have b2:=Nat.le_of_ble_eq_true h2
   rw [cond_true]
   cases h3:Nat.ble 256 (n / 2^16) with
   | true =>
    have b3:=Nat.le_of_ble_eq_true h3
    rw [cond_true,qay (by omega) (by omega),hs (k:=24) (by omega)]
    congr 3;rw [Nat.div_div_eq_div_mul]
   | false =>
    have b3:n / 2^16<256:=Nat.lt_of_not_le fun e=>by rw [Nat.ble_eq_true_of_le e] at h3;cases h3
    rw [cond_false,qay b3 (by omega),hs (k:=16) (by omega)]
  | false =>
   have b2:n<65536:=Nat.lt_of_not_le fun e=>by rw [Nat.ble_eq_true_of_le e] at h2;cases h2
   rw [cond_false]
   cases h3:Nat.ble 256 n with
   | true =>
    have b3:=Nat.le_of_ble_eq_true h3
    rw [cond_true,qay (by omega) (by omega),hs (k:=8) (by omega)]
   | false =>
    have b3:n<256:=Nat.lt_of_not_le fun e=>by rw [Nat.ble_eq_true_of_le e] at h3;cases h3
    rw [cond_false]
    have:=qay (base:=0) b3 (by omega)
    rw [Nat.zero_add] at this
    exact this
def qtD (p:Int×Int):Option (Int×Int):=some (hiW (p.1.toNat*p.2.toNat),loW (p.1.toNat*p.2.toNat))
theorem qyk (p:Int×Int) (y:Int×Int) (hg:(dc (cI .u64) (d1 (cI .u64))).good p) (h:qtD p=some y):qC7 p.1 p.2=some y:=by
 obtain ⟨a,b⟩:=p
 obtain ⟨A,rfl,hA⟩:=jf hg.1
 obtain ⟨B,rfl,hB⟩:=jf hg.2
 have:=soi h;subst this
 unfold qC7
 simp only [Int.toNat_natCast]
 have m1:∀ X:Nat,X<18446744073709551616→qB .and .u64 (X:Int) 4294967295=((X % 4294967296:Nat):Int):=fun X hX=>qcr X 4294967295 32 rfl hX (by omega)
 have hc:=qtz A B hA hB
 simp only [] at hc
 obtain ⟨c1,c2,c3,c4,c5,c6,c7,c8,c9⟩:=hc
 have wn:∀ X:Nat,X<18446744073709551616→IntKind.u64.wrap (X:Int)=(X:Int):=fun X hX=>jZ (by omega) (by omega)
 have p32:∀ X:Nat,X / 2^32=X / 4294967296:=fun X=>rfl
 simp only [m1 A hA,m1 B hB,JE,p32,← Int.natCast_mul]
 rw [wn _ c2,wn _ c6,wn _ c7,wn _ c9]
 simp only [JE,p32,← Int.natCast_add]
 rw [wn _ c3]
 simp only [m1 _ c3,JE,p32,← Int.natCast_add]
 rw [wn _ c4,wn _ c8]
 simp only [JE,p32,← Int.natCast_add]
 rw [wn _ c5,c1]
 unfold hiW loW
 have h1:A*B / 18446744073709551616<18446744073709551616:=by rw [← c1];exact c5
 rw [Nat.mod_eq_of_lt h1,wrap_u64]
 congr 2
def qtE (p:(Int×Int)×(Int×Int)):Option ((Int×Int)×Int):=some ((hiW (qe p.1+qe p.2),loW (qe p.1+qe p.2)),(((qe p.1+qe p.2) / 340282366920938463463374607431768211456:Nat):Int))
theorem qyl (p:(Int×Int)×(Int×Int)) (y:(Int×Int)×Int) (hg:(dc cW (d1 cW)).good p) (h:qtE p=some y):qC8 p.1 p.2=some y:=by
 obtain ⟨⟨a,b⟩,c,d⟩:=p
 obtain ⟨⟨ha,hb⟩,hc,hd⟩:=hg
 obtain ⟨A,rfl,hA⟩:=jf ha
 obtain ⟨B,rfl,hB⟩:=jf hb
 obtain ⟨C,rfl,hC⟩:=jf hc
 obtain ⟨D,rfl,hD⟩:=jf hd
 have:=soi h;subst this
 unfold qC8
 have a0:∀ x y c:Int,qbv 0 x y c=(((x.toNat+y.toNat+c.toNat) % 18446744073709551616:Nat):Int):=fun _ _ _=>rfl
 have b0:∀ x y c:Int,ZC 0 x y c=(((x.toNat+y.toNat+c.toNat) / 18446744073709551616:Nat):Int):=fun _ _ _=>rfl
 simp only [a0,b0,QU,hiW,loW,Int.toNat_natCast,Int.toNat_zero]
 rw [decide_eq_true (by omega),cond_true]
 congr 2
 · congr 1 <;> congr 1 <;> omega
 · congr 1;omega
noncomputable def qtF (p:(Int×Int)×(Int×Int)):Option ((Int×Int)×Int):=some ((hiW (JH (qe p.1) (qe p.2)),loW (JH (qe p.1) (qe p.2))),bif Nat.blt (qe p.1) (qe p.2) then 1 else 0)
theorem qym (a b:Nat):Nat.blt a b=decide (a<b):=by
 cases h:Nat.blt a b with
 | true =>
  have:a<b:=by rw [Nat.blt_eq] at h;exact h
  simp [this]
 | false=>symm;simp;refine Nat.le_of_not_lt fun e=>?_;rw [show Nat.blt a b=true by rw [Nat.blt_eq];exact e] at h;cases h
theorem qyn (p:(Int×Int)×(Int×Int)) (y:(Int×Int)×Int) (hg:(dc cW (d1 cW)).good p) (h:qtF p=some y):qC9 p.1 p.2=some y:=by
 obtain ⟨⟨a,b⟩,c,d⟩:=p
 obtain ⟨⟨ha,hb⟩,hc,hd⟩:=hg
 obtain ⟨A,rfl,hA⟩:=jf ha
 obtain ⟨B,rfl,hB⟩:=jf hb
 obtain ⟨C,rfl,hC⟩:=jf hc
 obtain ⟨D,rfl,hD⟩:=jf hd
 have:=soi h;subst this
 unfold qC9
 have a1:∀ x y c:Int,qbv 1 x y c=(((x.toNat+18446744073709551616-y.toNat-c.toNat) % 18446744073709551616:Nat):Int):=fun _ _ _=>rfl
 have b1:∀ x y c:Int,ZC 1 x y c=(bif Nat.blt x.toNat (y.toNat+c.toNat) then 1 else 0):=fun _ _ _=>rfl
 simp only [a1,b1,qeQ,QU,hiW,loW,Int.toNat_natCast,Int.toNat_zero,Nat.add_zero,qym,qct]
 by_cases h1:B<D
 · rw [if_pos h1]
   simp only [Int.toNat_one]
   rw [if_pos (by decide)]
   by_cases h2:A<C+1
   · rw [if_pos h2,if_pos (by omega)]
     congr 2
     congr 1 <;> congr 1 <;> omega
   · rw [if_neg h2,if_neg (by omega)]
     congr 2
     congr 1 <;> congr 1 <;> omega
 · rw [if_neg h1]
   simp only [Int.toNat_zero,Nat.add_zero,Nat.sub_zero]
   rw [if_pos (by decide)]
   by_cases h2:A<C
   · rw [if_pos h2,if_pos (by omega)]
     congr 2
     congr 1 <;> congr 1 <;> omega
   · rw [if_neg h2,if_neg (by omega)]
     congr 2
     congr 1 <;> congr 1 <;> omega
end
end Su
end
section
namespace Su
open Go Fly
set_option linter.unusedVariables false
noncomputable section
def qDa  (a:(Int×Int)):Option Int :=
 (bif (decide ((0<a.1))) then
 some (IntKind.wrap .i64 (64+(((qn (Int.toNat a.1)):Nat):Int)))
 else
  some (((qn (Int.toNat a.2)):Nat):Int))
def qa2:(Int×(Int×(Int×(Int×(Int×Unit)))))→Option ((Int×(Int×(Int×(Int×(Int×Unit))))) ⊕ (Lp (Int×(Int×(Int×(Int×(Int×Unit))))) (Int×Int))):=fun p0=>(bif (decide ((64≤p0.1))) then
 (bif ((decide ((p0.2.2.1=0)))&&true) then
 some (.inr (.ret (p0.2.2.1,(0:Int))))
 else
  some (.inl ((IntKind.wrap .i64 (p0.1-64)),(p0.2.2.1,((0:Int),(p0.2.2.2.1,(p0.2.2.2.2.1,())))))))
 else
  some (.inr (.exit 0 (p0.1,(p0.2.1,(p0.2.2.1,(p0.2.2.2.1,(p0.2.2.2.2.1,()))))))))
def qDb  (fu:Nat) (a:(Int×Int)) (n:Int):Option (Int×Int) :=
 (itP fu (qa2) (n,(a.1,(a.2,((0:Int),((0:Int),())))))).bind fun x1 =>
 (match x1 with
 | .exit i2 p3=>(bif (Nat.beq i2 0) then
  (bif (decide ((p3.1≤0))) then
  some (p3.2.1,p3.2.2.1)
 else
  (bif (decide ((0≤p3.1))) then
  (bif (decide ((0≤(IntKind.wrap .i64 (64-p3.1))))) then
  (bif (decide ((0≤p3.1))) then
  some ((Fly.qB Go.BinOp.or .u64 (IntKind.wrap .u64 (p3.2.1*(2^(min (Int.toNat p3.1) 64)))) (Int.fdiv p3.2.2.1 (2^(min (Int.toNat (IntKind.wrap .i64 (64-p3.1))) 64)))),(IntKind.wrap .u64 (p3.2.2.1*(2^(min (Int.toNat p3.1) 64)))))
 else
  none)
 else
  none)
 else
  none))
 else
  none)
 | .ret o4=>some o4)
def qcB:(Int×(Bool×(Int×(Int×(Int×(Int×Unit))))))→Option ((Int×(Bool×(Int×(Int×(Int×(Int×Unit)))))) ⊕ (Lp (Int×(Bool×(Int×(Int×(Int×(Int×Unit)))))) ((Int×Int)×Bool))):=fun p0=>(bif (decide ((64≤p0.1))) then
 (bif p0.2.1 then
 (bif (true&&((decide ((p0.2.2.1=0)))&&true)) then
 some (.inr (.ret (((0:Int),p0.2.2.1),true)))
 else
  some (.inl ((IntKind.wrap .i64 (p0.1-64)),(true,((0:Int),(p0.2.2.1,(p0.2.2.2.2.1,(p0.2.2.2.2.2.1,()))))))))
 else
  (bif (true&&((decide ((p0.2.2.1=0)))&&true)) then
  some (.inr (.ret (((0:Int),p0.2.2.1),(!(decide ((p0.2.2.2.1=0)))))))
 else
  some (.inl ((IntKind.wrap .i64 (p0.1-64)),((!(decide ((p0.2.2.2.1=0)))),((0:Int),(p0.2.2.1,(p0.2.2.2.2.1,(p0.2.2.2.2.2.1,())))))))))
 else
  some (.inr (.exit 0 (p0.1,(p0.2.1,(p0.2.2.1,(p0.2.2.2.1,(p0.2.2.2.2.1,(p0.2.2.2.2.2.1,())))))))))
def qDc  (fu:Nat) (a:(Int×Int)) (n:Int):Option ((Int×Int)×Bool) :=
 (itP fu (qcB) (n,(false,(a.1,(a.2,((0:Int),((0:Int),()))))))).bind fun x1 =>
 (match x1 with
 | .exit i2 p3=>(bif (Nat.beq i2 0) then
  (bif (decide ((p3.1≤0))) then
  some ((p3.2.2.1,p3.2.2.2.1),p3.2.1)
 else
  (bif (decide ((0≤p3.1))) then
  (bif (decide ((0≤p3.1))) then
  (bif (decide ((0≤(IntKind.wrap .i64 (64-p3.1))))) then
  (bif p3.2.1 then
  some (((Int.fdiv p3.2.2.1 (2^(min (Int.toNat p3.1) 64))),(Fly.qB Go.BinOp.or .u64 (Int.fdiv p3.2.2.2.1 (2^(min (Int.toNat p3.1) 64))) (IntKind.wrap .u64 (p3.2.2.1*(2^(min (Int.toNat (IntKind.wrap .i64 (64-p3.1))) 64)))))),true)
 else
  (bif (decide ((0≤(IntKind.wrap .i64 (64-p3.1))))) then
  some (((Int.fdiv p3.2.2.1 (2^(min (Int.toNat p3.1) 64))),(Fly.qB Go.BinOp.or .u64 (Int.fdiv p3.2.2.2.1 (2^(min (Int.toNat p3.1) 64))) (IntKind.wrap .u64 (p3.2.2.1*(2^(min (Int.toNat (IntKind.wrap .i64 (64-p3.1))) 64)))))),(!(decide (((IntKind.wrap .u64 (p3.2.2.2.1*(2^(min (Int.toNat (IntKind.wrap .i64 (64-p3.1))) 64))))=0)))))
 else
  none))
 else
  none)
 else
  none)
 else
  none))
 else
  none)
 | .ret o4=>some o4)
def qtG (a:Int×Int):Option Int:=some (qn (qe a):Int)
theorem qyo (a:Int×Int) (y:Int) (hg:(d1 cW).good a) (h:qtG a=some y):qDa a=some y:=by
 obtain ⟨a,b⟩:=a
 obtain ⟨ha,hb⟩:=hg
 obtain ⟨A,rfl,hA⟩:=jf ha
 obtain ⟨B,rfl,hB⟩:=jf hb
 have:=soi h;subst this
 unfold qDa
 rw [QU]
 simp only [Int.toNat_natCast]
 have hbA:qn A≤64:=j0.2 (by simpa using hA)
 by_cases h0:0<A
 · rw [decide_eq_true (show (0:Int)<(A:Int) by omega),cond_true,w64 (by omega) (by omega)]
   have:=Yx (n:=A*18446744073709551616+B) (k:=64) (by omega)
   rw [this,show (A*18446744073709551616+B) / 2^64=A by omega];rfl
 · have:A=0:=by omega
   subst this
   rw [decide_eq_false (by decide),cond_false,Nat.zero_mul,Nat.zero_add]
def qtH (p:(Int×Int)×Int):Option (Int×Int):=some (hiW (2^p.2.toNat*qe p.1),loW (2^p.2.toNat*qe p.1))
def qtI (p:(Int×Int)×Int):Option ((Int×Int)×Bool):=some ((hiW (qe p.1 / 2^p.2.toNat),loW (qe p.1 / 2^p.2.toNat)),!Nat.beq (qe p.1 % 2^p.2.toNat) 0)
theorem qtJ (n:Nat) (h0:64≤n) (h:n<9223372036854775808):IntKind.i64.wrap ((n:Int)-64)=((n-64:Nat):Int):=by rw [w64 (by omega) (by omega)];omega
theorem qoI (H L r:Nat) (hr:r<64) (hH:H<18446744073709551616) (hL:L<18446744073709551616) :
 (bif decide ((r:Int)≤0) then some ((H:Int),(L:Int)) else bif decide ((0:Int)≤(r:Int)) then bif decide ((0:Int)≤IntKind.i64.wrap (64-(r:Int))) then bif decide ((0:Int)≤(r:Int)) then
   some ((qB .or .u64 (IntKind.u64.wrap ((H:Int)*2^(min (r:Int).toNat 64))) (Int.fdiv (L:Int) (2^(min (IntKind.i64.wrap (64-(r:Int))).toNat 64)))),IntKind.u64.wrap ((L:Int)*2^(min (r:Int).toNat 64))) else none else none else none)
 = some (hiW ((H*18446744073709551616+L)*2^r),loW ((H*18446744073709551616+L)*2^r)):=by
 obtain ⟨c1,c2⟩:=qtx H L r (by omega) hL
 by_cases h0:r=0
 · subst h0
   rw [decide_eq_true (by decide),cond_true]
   unfold hiW loW
   rw [Nat.pow_zero,Nat.mul_one]
   congr 2 <;> congr 1 <;> omega
 · have e1:IntKind.i64.wrap (64-(r:Int))=((64-r:Nat):Int):=by rw [w64 (by omega) (by omega)];omega
   have e2:∀ x:Nat,IntKind.u64.wrap ((x:Int)*2^r)=((x*2^r % 18446744073709551616:Nat):Int):=fun x=>by
    rw [wrap_u64,show ((2:Int)^r)=((2^r:Nat):Int) by simp,← Int.natCast_mul];rfl
   rw [decide_eq_false (by omega),cond_false,decide_eq_true (by omega),cond_true,e1,decide_eq_true (by omega),cond_true,cond_true]
   simp only [Int.toNat_natCast,Nat.min_eq_left (show r≤64 by omega),Nat.min_eq_left (show 64-r≤64 by omega),e2,JE]
   have l1:L / 2^(64-r)<18446744073709551616:=Nat.lt_of_le_of_lt (Nat.div_le_self _ _) hL
   rw [qcq _ _ (Nat.mod_lt _ (by decide)) l1,c1,c2]
   rfl
theorem qoJ {X Y:Nat} (h:X % 340282366920938463463374607431768211456=0):hiW (X+Y)=hiW Y:=by unfold hiW;congr 1;omega
theorem qoK {X Y:Nat} (h:X % 340282366920938463463374607431768211456=0):loW (X+Y)=loW Y:=by unfold loW;congr 1;omega
theorem qyp (p:(Int×Int)×Int) (y:Int×Int) (hg:(dc cW (d1 (cI .i64))).good p) (h:qtH p=some y):∃ n,qDb n p.1 p.2=some y:=by
 obtain ⟨⟨a,b⟩,n⟩:=p
 obtain ⟨⟨ha,hb⟩,hn⟩:=hg
 obtain ⟨A,rfl,hA⟩:=jf ha
 obtain ⟨B,rfl,hB⟩:=jf hb
 have hn:=YP.1 hn
 have:=soi h;subst this
 refine ⟨3,?_⟩
 unfold qDb
 rw [Nat.mul_comm (2^_)]
 rw [QU]
 simp only [Int.toNat_natCast]
 by_cases hneg:n<64
 · -- no round
   simp only [qA,qa2]
   rw [decide_eq_false (by omega)]
   simp only [cond_false,Option.bind_some]
   rw [show Nat.beq 0 0=true from rfl,cond_true]
   by_cases h0:n≤0
   · rw [decide_eq_true h0,cond_true]
     have:n.toNat=0:=by omega
     rw [this,Nat.pow_zero,Nat.mul_one]
     unfold hiW loW
     congr 2 <;> congr 1 <;> omega
   · obtain ⟨r,rfl⟩:∃ r:Nat,n=(r:Int):=⟨n.toNat,by omega⟩
     rw [Int.toNat_natCast]
     exact qoI A B r (by omega) hA hB
 · obtain ⟨N,rfl⟩:∃ N:Nat,n=(N:Int):=⟨n.toNat,by omega⟩
   have hN:64≤N:=by omega
   rw [Int.toNat_natCast]
   have d0:decide ((64:Int)≤(N:Int))=true:=decide_eq_true (by omega)
   obtain ⟨X,hX0,hv⟩:∃ X,X % 340282366920938463463374607431768211456=0∧(A*18446744073709551616+B)*2^N=X+(B*18446744073709551616)*2^(N-64):=by
    refine ⟨A*2^(N-64)*340282366920938463463374607431768211456,Nat.mul_mod_left _ _,?_⟩
    rw [show N=(N-64)+64 by omega,Nat.pow_add,show (2^64:Nat)=18446744073709551616 from rfl,Nat.add_sub_cancel]
    generalize 2^(N-64)=z
    rw [Nat.add_mul,← Nat.mul_assoc,← Nat.mul_assoc]
    rw [Nat.mul_right_comm A,Nat.mul_assoc (A*z),Nat.mul_right_comm B]
   rw [hv,qoJ hX0,qoK hX0]
   by_cases hB0:B=0
   · subst hB0
     rw [qA]
     simp only [qa2,d0,cond_true,Option.bind_some,show decide (((0:Nat):Int)=0)=true from rfl,Bool.and_self]
     simp only [Nat.zero_mul];rfl
   · have db:decide ((B:Int)=0)=false:=decide_eq_false (by omega)
     have es:=qtJ N hN (by omega)
     rw [qA]
     simp only [qa2,d0,cond_true,db,Bool.false_and,cond_false,Option.bind_some,es]
     by_cases h2:N<128
     · have d1:decide ((64:Int)≤((N-64:Nat):Int))=false:=decide_eq_false (by omega)
       rw [qA]
       simp only [qa2,d1,cond_false,Option.bind_some]
       rw [show Nat.beq 0 0=true from rfl,cond_true]
       have:=qoI B 0 (N-64) (by omega) hB (by omega)
       rw [Nat.add_zero] at this
       exact this
     · have d1:decide ((64:Int)≤((N-64:Nat):Int))=true:=decide_eq_true (by omega)
       rw [qA]
       simp only [qa2,d1,cond_true,Option.bind_some]
       obtain ⟨Z,hZ0,hz⟩:∃ Z,Z % 340282366920938463463374607431768211456=0∧B*18446744073709551616*2^(N-64)=Z+0:=by
        obtain ⟨M,hM⟩:∃ M,N-64=M+64:=⟨N-64-64,by omega⟩
        refine ⟨B*2^M*340282366920938463463374607431768211456,Nat.mul_mod_left _ _,?_⟩
        rw [hM,Nat.pow_add,show (2^64:Nat)=18446744073709551616 from rfl,Nat.add_zero]
        rw [Nat.mul_mul_mul_comm]
       rw [hz,qoJ hZ0,qoK hZ0];rfl
theorem qoL (H L r:Nat) (lost:Bool) (hr:r<64) (hH:H<18446744073709551616) (hL:L<18446744073709551616) :
 (bif decide ((r:Int)≤0) then some (((H:Int),(L:Int)),lost) else bif decide ((0:Int)≤(r:Int)) then bif decide ((0:Int)≤(r:Int)) then bif decide ((0:Int)≤IntKind.i64.wrap (64-(r:Int))) then bif lost then
   some (((Int.fdiv (H:Int) (2^(min (r:Int).toNat 64))),(qB .or .u64 (Int.fdiv (L:Int) (2^(min (r:Int).toNat 64))) (IntKind.u64.wrap ((H:Int)*2^(min (IntKind.i64.wrap (64-(r:Int))).toNat 64))))),true)
   else bif decide ((0:Int)≤IntKind.i64.wrap (64-(r:Int))) then
   some (((Int.fdiv (H:Int) (2^(min (r:Int).toNat 64))),(qB .or .u64 (Int.fdiv (L:Int) (2^(min (r:Int).toNat 64))) (IntKind.u64.wrap ((H:Int)*2^(min (IntKind.i64.wrap (64-(r:Int))).toNat 64))))),(!(decide (IntKind.u64.wrap ((L:Int)*2^(min (IntKind.i64.wrap (64-(r:Int))).toNat 64))=0)))) else none else none else none else none)
 = some ((hiW ((H*18446744073709551616+L) / 2^r),loW ((H*18446744073709551616+L) / 2^r)),lost||!Nat.beq ((H*18446744073709551616+L) % 2^r) 0):=by
 obtain ⟨c1,c2,c3⟩:=qty H L r (by omega) hH hL
 by_cases h0:r=0
 · subst h0
   rw [decide_eq_true (by decide),cond_true]
   rw [Nat.pow_zero,Nat.div_one,Nat.mod_one]
   unfold hiW loW
   have q1:(H*18446744073709551616+L) / 18446744073709551616 % 18446744073709551616=H:=by omega
   have q2:(H*18446744073709551616+L) % 18446744073709551616=L:=by omega
   rw [show (!Nat.beq 0 0)=false from rfl,Bool.or_false,q1,q2]
 · have e1:IntKind.i64.wrap (64-(r:Int))=((64-r:Nat):Int):=by rw [w64 (by omega) (by omega)];omega
   have e2:∀ x k:Nat,IntKind.u64.wrap ((x:Int)*2^k)=((x*2^k % 18446744073709551616:Nat):Int):=fun x k=>by
    rw [wrap_u64,show ((2:Int)^k)=((2^k:Nat):Int) by simp,← Int.natCast_mul];rfl
   rw [decide_eq_false (by omega),cond_false,decide_eq_true (by omega),cond_true,cond_true,e1,decide_eq_true (by omega),cond_true,cond_true]
   simp only [Int.toNat_natCast,Nat.min_eq_left (show r≤64 by omega),Nat.min_eq_left (show 64-r≤64 by omega),e2,JE]
   have l1:L / 2^r<18446744073709551616:=Nat.lt_of_le_of_lt (Nat.div_le_self _ _) hL
   rw [qcq _ _ l1 (Nat.mod_lt _ (by decide)),c1,c2]
   have e3:decide (((L*2^(64-r) % 18446744073709551616:Nat):Int)=0)=Nat.beq ((H*18446744073709551616+L) % 2^r) 0:=by
    rw [beq_dec]
    by_cases hz:(H*18446744073709551616+L) % 2^r=0
    · rw [decide_eq_true hz,c3.2 hz];rfl
    · rw [decide_eq_false hz,decide_eq_false]
      intro e;exact hz (c3.1 (by omega))
   rw [e3]
   unfold hiW loW
   cases lost with
   | true=>rw [cond_true,Bool.true_or]
   | false=>rw [cond_false,Bool.false_or]
theorem qDd (B z c:Nat) (hc:0<c):(!Nat.beq B 0||!Nat.beq z 0) = !Nat.beq (B+c*z) 0:=by
 by_cases hb:B=0
 · by_cases hz:z=0
   · subst hb hz;rw [Nat.mul_zero];rfl
   · have:B+c*z≠0:=by have:=Nat.mul_pos hc (show 0<z by omega);omega
     rw [qbD hz,qbD this,Bool.not_false,Bool.or_true]
 · have:B+c*z≠0:=by omega
   rw [qbD hb,qbD this,Bool.not_false,Bool.true_or]
theorem qyq (p:(Int×Int)×Int) (y:(Int×Int)×Bool) (hg:(dc cW (d1 (cI .i64))).good p) (h:qtI p=some y):∃ n,qDc n p.1 p.2=some y:=by
 obtain ⟨⟨a,b⟩,n⟩:=p
 obtain ⟨⟨ha,hb⟩,hn⟩:=hg
 obtain ⟨A,rfl,hA⟩:=jf ha
 obtain ⟨B,rfl,hB⟩:=jf hb
 have hn:=YP.1 hn
 have:=soi h;subst this
 refine ⟨3,?_⟩
 unfold qDc
 rw [QU]
 simp only [Int.toNat_natCast]
 by_cases hneg:n<64
 · rw [qA]
   simp only [qcB]
   rw [decide_eq_false (by omega)]
   simp only [cond_false,Option.bind_some]
   rw [show Nat.beq 0 0=true from rfl,cond_true]
   by_cases h0:n≤0
   · rw [decide_eq_true h0,cond_true]
     have:n.toNat=0:=by omega
     rw [this,Nat.pow_zero,Nat.div_one,Nat.mod_one]
     unfold hiW loW
     have q1:(A*18446744073709551616+B) / 18446744073709551616 % 18446744073709551616=A:=by omega
     have q2:(A*18446744073709551616+B) % 18446744073709551616=B:=by omega
     rw [show (!Nat.beq 0 0)=false from rfl,q1,q2]
   · obtain ⟨r,rfl⟩:∃ r:Nat,n=(r:Int):=⟨n.toNat,by omega⟩
     rw [Int.toNat_natCast]
     have h:=qoL A B r false (by omega) hA hB
     rw [Bool.false_or] at h
     exact h
 · obtain ⟨N,rfl⟩:∃ N:Nat,n=(N:Int):=⟨n.toNat,by omega⟩
   have hN:64≤N:=by omega
   rw [Int.toNat_natCast]
   have d0:decide ((64:Int)≤(N:Int))=true:=decide_eq_true (by omega)
   have hpow:2^N=18446744073709551616*2^(N-64):=by
    have:N=64+(N-64):=by omega
    conv=>lhs;rw [this]
    rw [Nat.pow_add]
   have hdiv:(A*18446744073709551616+B) / 2^N=A / 2^(N-64):=by
    rw [hpow,← Nat.div_div_eq_div_mul,show (A*18446744073709551616+B) / 18446744073709551616=A by omega]
   have hmod:(A*18446744073709551616+B) % 2^N=B+18446744073709551616*(A % 2^(N-64)):=by
    rw [hpow,Nat.mod_mul,show (A*18446744073709551616+B) / 18446744073709551616=A by omega,show (A*18446744073709551616+B) % 18446744073709551616=B by omega]
   rw [hdiv,hmod]
   have es:=qtJ N hN (by omega)
   have dB:decide ((B:Int)=0)=Nat.beq B 0:=by rw [beq_dec];by_cases h:B=0 <;> simp [h]
   have dA:decide ((A:Int)=0)=Nat.beq A 0:=by rw [beq_dec];by_cases h:A=0 <;> simp [h]
   rw [qA]
   simp only [qcB,d0,cond_true,cond_false,es,dA,dB,Bool.true_and,Bool.and_true]
   by_cases hA0:A=0
   · subst hA0
     rw [show Nat.beq 0 0=true from rfl,cond_true,Nat.zero_div,Nat.zero_mod,Nat.mul_zero,Nat.add_zero]
     rfl
   · rw [qbD hA0,cond_false]
     simp only [Option.bind_some]
     by_cases h2:N<128
     · have d1:decide ((64:Int)≤((N-64:Nat):Int))=false:=decide_eq_false (by omega)
       rw [qA]
       simp only [qcB,d1,cond_false,Option.bind_some]
       rw [show Nat.beq 0 0=true from rfl,cond_true]
       have:=qoL 0 A (N-64) (!Nat.beq B 0) (by omega) (by omega) hA
       rw [Nat.zero_mul,Nat.zero_add] at this
       refine Eq.trans this ?_
       rw [qDd B (A % 2^(N-64)) 18446744073709551616 (by decide)]
     · have d1:decide ((64:Int)≤((N-64:Nat):Int))=true:=decide_eq_true (by omega)
       have hlt:A<2^(N-64):=Nat.lt_of_lt_of_le hA (Nat.pow_le_pow_right (n:=2) (by omega) (show 64≤N-64 by omega))
       rw [qA,Nat.div_eq_of_lt hlt,Nat.mod_eq_of_lt hlt]
       simp only [qcB,d1,cond_true,dA,qbD hA0,show decide ((0:Int)=0)=true from rfl,Bool.and_self,Bool.not_false]
       have hz:Nat.beq (B+18446744073709551616*A) 0=false:=qbD (by omega)
       have h1:hiW 0=0:=rfl
       have h2:loW 0=0:=rfl
       rw [hz,h1,h2]
       cases Nat.beq B 0 with
       | true=>simp only [Bool.not_true,Bool.not_false,decide_true,Bool.and_self,cond_false,cond_true,Option.bind_some]
       | false=>simp only [Bool.not_false,decide_true,Bool.and_self,cond_true,Option.bind_some]
end
end Su
end
section
namespace Su
open Go Fly
set_option linter.unusedVariables false
noncomputable section
def rUp  (x:(Bool×(Int×(Int×(Int×Bool))))) (mode:Int) (odd:Bool) (half:Bool) (rest:Bool):Option Bool :=
 (bif (decide ((mode=1))) then
 (bif (!x.1) then
 (bif half then
 some true
 else
  some rest)
 else
  (bif (decide ((mode=2))) then
  (bif x.1 then
  (bif half then
  some true
 else
  some rest)
 else
  (bif (decide ((mode=1))) then
  (bif x.1 then
  some false
 else
  (bif (decide ((mode=2))) then
  (bif (!x.1) then
  some false
 else
  (bif half then
  (bif rest then
  some true
 else
  some odd)
 else
  some false))
 else
  (bif half then
  (bif rest then
  some true
 else
  some odd)
 else
  some false)))
 else
  (bif (decide ((mode=2))) then
  (bif (!x.1) then
  some false
 else
  (bif half then
  (bif rest then
  some true
 else
  some odd)
 else
  some false))
 else
  (bif half then
  (bif rest then
  some true
 else
  some odd)
 else
  some false))))
 else
  (bif (decide ((mode=1))) then
  (bif x.1 then
  some false
 else
  (bif (decide ((mode=2))) then
  (bif (!x.1) then
  some false
 else
  (bif half then
  (bif rest then
  some true
 else
  some odd)
 else
  some false))
 else
  (bif half then
  (bif rest then
  some true
 else
  some odd)
 else
  some false)))
 else
  (bif (decide ((mode=2))) then
  (bif (!x.1) then
  some false
 else
  (bif half then
  (bif rest then
  some true
 else
  some odd)
 else
  some false))
 else
  (bif half then
  (bif rest then
  some true
 else
  some odd)
 else
  some false)))))
 else
  (bif (decide ((mode=2))) then
  (bif x.1 then
  (bif half then
  some true
 else
  some rest)
 else
  (bif (decide ((mode=1))) then
  (bif x.1 then
  some false
 else
  (bif (decide ((mode=2))) then
  (bif (!x.1) then
  some false
 else
  (bif half then
  (bif rest then
  some true
 else
  some odd)
 else
  some false))
 else
  (bif half then
  (bif rest then
  some true
 else
  some odd)
 else
  some false)))
 else
  (bif (decide ((mode=2))) then
  (bif (!x.1) then
  some false
 else
  (bif half then
  (bif rest then
  some true
 else
  some odd)
 else
  some false))
 else
  (bif half then
  (bif rest then
  some true
 else
  some odd)
 else
  some false))))
 else
  (bif (decide ((mode=1))) then
  (bif x.1 then
  some false
 else
  (bif (decide ((mode=2))) then
  (bif (!x.1) then
  some false
 else
  (bif half then
  (bif rest then
  some true
 else
  some odd)
 else
  some false))
 else
  (bif half then
  (bif rest then
  some true
 else
  some odd)
 else
  some false)))
 else
  (bif (decide ((mode=2))) then
  (bif (!x.1) then
  some false
 else
  (bif half then
  (bif rest then
  some true
 else
  some odd)
 else
  some false))
 else
  (bif half then
  (bif rest then
  some true
 else
  some odd)
 else
  some false)))))
def qtK  (x:(Bool×(Int×(Int×(Int×Bool))))) (mode:Int):Option (Int×Int) :=
 (bif (decide ((mode=1))) then
 (bif x.1 then
 some ((IntKind.wrap .u64 (((((sgN x.1)+9218868437227405312):Nat):Int)-1)),(5:Int))
 else
  (bif (decide ((mode=2))) then
  (bif (!x.1) then
  some ((IntKind.wrap .u64 (((((sgN x.1)+9218868437227405312):Nat):Int)-1)),(5:Int))
 else
  some (((((sgN x.1)+9218868437227405312):Nat):Int),(5:Int)))
 else
  some (((((sgN x.1)+9218868437227405312):Nat):Int),(5:Int))))
 else
  (bif (decide ((mode=2))) then
  (bif (!x.1) then
  some ((IntKind.wrap .u64 (((((sgN x.1)+9218868437227405312):Nat):Int)-1)),(5:Int))
 else
  some (((((sgN x.1)+9218868437227405312):Nat):Int),(5:Int)))
 else
  some (((((sgN x.1)+9218868437227405312):Nat):Int),(5:Int))))
abbrev qqx:=Bool×(Int×(Int×(Int×Bool)))
def qA5 (p:qqx×(Int×(Bool×(Bool×Bool)))):Option Bool:=some (upN p.1.1 p.2.1 p.2.2.1 p.2.2.2.1 p.2.2.2.2)
theorem qDe (p:qqx×(Int×(Bool×(Bool×Bool)))) (y:Bool) (hg:(dc qiO (dc (cI .u8) (dc cB (dc cB (d1 cB))))).good p) (h:qA5 p=some y):rUp p.1 p.2.1 p.2.2.1 p.2.2.2.1 p.2.2.2.2=some y:=by
 obtain ⟨⟨neg,x⟩,mode,odd,half,rest⟩:=p
 have:=soi h;subst this
 unfold rUp upN awN twN
 simp only []
 by_cases h1:mode=1
 · subst h1
   cases neg <;> cases half <;> cases rest <;> cases odd <;> rfl
 · by_cases h2:mode=2
   · subst h2
     cases neg <;> cases half <;> cases rest <;> cases odd <;> rfl
   · rw [decide_eq_false h1,decide_eq_false h2]
     cases neg <;> cases half <;> cases rest <;> cases odd <;> rfl
def ovN (neg:Bool) (mode:Int):Nat:=sgN neg+bif twN neg mode then 9218868437227405311 else 9218868437227405312
def qoM (p:qqx×Int):Option (Int×Int):=some ((ovN p.1.1 p.2:Int),5)
theorem qtL (p:qqx×Int) (y:Int×Int) (hg:(dc qiO (d1 (cI .u8))).good p) (h:qoM p=some y):qtK p.1 p.2=some y:=by
 obtain ⟨⟨neg,x⟩,mode⟩:=p
 have:=soi h;subst this
 have e:IntKind.u64.wrap (((sgN neg+9218868437227405312:Nat):Int)-1)=((sgN neg+9218868437227405311:Nat):Int):=by
  have:sgN neg≤9223372036854775808:=by unfold sgN;cases neg <;> simp
  rw [jZ (by omega) (by omega)];omega
 unfold qtK ovN twN
 simp only [e]
 generalize sgN neg=z
 have d11:decide ((1:Int)=1)=true:=rfl
 have d12:decide ((1:Int)=2)=false:=rfl
 have d21:decide ((2:Int)=1)=false:=rfl
 have d22:decide ((2:Int)=2)=true:=rfl
 by_cases h1:mode=1
 · subst h1
   rw [d11,d12]
   cases neg <;> simp only [cond_true,cond_false]
 · by_cases h2:mode=2
   · subst h2
     rw [d21,d22]
     cases neg <;> simp only [cond_true,cond_false,Bool.not_true,Bool.not_false]
   · rw [decide_eq_false h1,decide_eq_false h2]
     cases neg <;> simp only [cond_true,cond_false]
end
end Su
end
