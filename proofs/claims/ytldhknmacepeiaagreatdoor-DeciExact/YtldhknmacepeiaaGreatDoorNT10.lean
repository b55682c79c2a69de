/-
  What functions of the program compute, in plain Lean, and that the evaluator finds it.
-/
import Derived.Test.YtldhknmacepeiaaGreatDoorSuXl
import Derived.Test.YtldhknmacepeiaaGreatDoorRfc
set_option linter.unusedVariables false
set_option linter.unusedSimpArgs false
set_option maxRecDepth 10000
section
namespace Su
open Go Fly
noncomputable section
def dDig_l1:Stp (Int×(List Int)×(List Int)×Unit):=fun p3=>(dTen_s (IntKind.wrap .i64 (p3.1+1))).bind fun x4=>
 (Mul_s (x4,p3.2.2.1)).bind fun x5=>
 (dTen_s (IntKind.wrap .i64 ((IntKind.wrap .i64 (0-p3.1))-1))).bind fun x6=>
 (Mul_s (p3.2.1,x6)).bind fun x7=>
 (bif(decide ((cmpI (valN x5) (valN x7))≤0))then
 some (.inl ((IntKind.wrap .i64 (p3.1+1)),p3.2.1,p3.2.2.1,()))
 else
  some (.inr (p3.1,p3.2.1,p3.2.2.1,())))
abbrev dDig_l3_S:=(Int×(List Int)×(List Int)×Int×Int×(List Int)×(List Int)×Unit)
def dDig_l3:dDig_l3_S→Option (dDig_l3_S ⊕ (Lp dDig_l3_S ((Int×Int×(List Int)×(List Int)×Unit) ⊕ (Lp (Int×Int×(List Int)×(List Int)×Unit) (ByteArray×Int))))):=fun p11=>(bif(decide (p11.2.2.2.1<2))then
 (bif((decide (0≤p11.2.2.2.1))&&(decide (p11.2.2.2.1<2)))then
 (bif(decide (p11.2.2.2.1=0))then
 (dTen_s p11.1).bind fun x12=>
 (Mul_s (p11.2.1,x12)).bind fun x13=>
 (dTen_s (IntKind.wrap .i64 (0-p11.1))).bind fun x14=>
 (rFrac_s (false,x13,x14,(0:Int))).bind fun x15=>
 (bif(decide (x15.1=p11.2.2.2.2.1))then
 (nText_s p11.2.1).bind fun x16=>
 (dTr_s (x16,p11.1)).bind fun x17=>
 some (.inr (.ret (.inr (.ret x17))))
 else
  some (.inl (p11.1,p11.2.1,p11.2.2.1,(IntKind.wrap .i64 (p11.2.2.2.1+1)),p11.2.2.2.2.1,p11.2.2.2.2.2.1,p11.2.2.2.2.2.2.1,())))
 else
  (bif(decide (p11.2.2.2.1=((1:Nat):Int)))then
  (dTen_s p11.1).bind fun x18=>
  (Mul_s (p11.2.2.1,x18)).bind fun x19=>
  (dTen_s (IntKind.wrap .i64 (0-p11.1))).bind fun x20=>
  (rFrac_s (false,x19,x20,(0:Int))).bind fun x21=>
  (bif(decide (x21.1=p11.2.2.2.2.1))then
  (nText_s p11.2.2.1).bind fun x22=>
  (dTr_s (x22,p11.1)).bind fun x23=>
  some (.inr (.ret (.inr (.ret x23))))
 else
  some (.inl (p11.1,p11.2.1,p11.2.2.1,(IntKind.wrap .i64 (p11.2.2.2.1+1)),p11.2.2.2.2.1,p11.2.2.2.2.2.1,p11.2.2.2.2.2.2.1,())))
 else none))
 else none)
 else
  some (.inr (.exit 2 (p11.1,p11.2.1,p11.2.2.1,p11.2.2.2.1,p11.2.2.2.2.1,p11.2.2.2.2.2.1,p11.2.2.2.2.2.2.1,()))))
def dDig_l2(fu:Nat):(Int×Int×(List Int)×(List Int)×Unit)→Option ((Int×Int×(List Int)×(List Int)×Unit) ⊕ (Lp (Int×Int×(List Int)×(List Int)×Unit) (ByteArray×Int))):=fun p9=>(dNear (p9.2.2.1,p9.2.2.2.1) p9.1).bind fun x10=>
 (itP fu (dDig_l3) (p9.1,x10.1,x10.2,(0:Int),p9.2.1,p9.2.2.1,p9.2.2.2.1,())).bind fun x24=>
 (match x24 with
 | .exit i25 p26=>(bif(Nat.beq i25 2)then
  some (.inl ((IntKind.wrap .i64 (p26.1-1)),p26.2.2.2.2.1,p26.2.2.2.2.2.1,p26.2.2.2.2.2.2.1,()))
 else
  (bif(Nat.beq i25 1)then
  some (.inl ((IntKind.wrap .i64 (p26.1-1)),p26.2.2.2.2.1,p26.2.2.2.2.2.1,p26.2.2.2.2.2.2.1,()))
 else
  some (.inr (.exit i25 (p26.1,p26.2.2.2.2.1,p26.2.2.2.2.2.1,p26.2.2.2.2.2.2.1,())))))
 | .ret o27=>some o27)
def dDig  (fu:Nat)(f:Int):Option (ByteArray×Int) :=
 (bif(!(decide ((((clsK (bK (Int.toNat (absF f.toNat:Int)))):Nat):Int)=2)))then
 (bif(!(decide ((((clsK (bK (Int.toNat (absF f.toNat:Int)))):Nat):Int)=1)))then
 some ((ByteArray.mk (List.toArray [])),(0:Int))
 else
  (dOf (absF f.toNat:Int)).bind fun x0=>
  (Len x0.1).bind fun x1=>
  (Len x0.2).bind fun x2=>
  (itP fu (dDig_l1) ((IntKind.wrap .i64 ((IntKind.wrap .i64 (Int.tdiv (IntKind.wrap .i64 ((IntKind.wrap .i64 (x1-x2))*30103)) 100000))-2)),x0.1,x0.2,())).bind fun x8=>
  (itP fu (dDig_l2 fu) (x8.1,(absF f.toNat:Int),x0.1,x0.2,())).bind fun x28=>
  (match x28 with
 | .exit i29 p30=>(bif(Nat.beq i29 0)then
  none
 else none)
 | .ret o31=>some o31))
 else
  (dOf (absF f.toNat:Int)).bind fun x32=>
  (Len x32.1).bind fun x33=>
  (Len x32.2).bind fun x34=>
  (itP fu (dDig_l1) ((IntKind.wrap .i64 ((IntKind.wrap .i64 (Int.tdiv (IntKind.wrap .i64 ((IntKind.wrap .i64 (x33-x34))*30103)) 100000))-2)),x32.1,x32.2,())).bind fun x40=>
  (itP fu (dDig_l2 fu) (x40.1,(absF f.toNat:Int),x32.1,x32.2,())).bind fun x60=>
  (match x60 with
 | .exit i61 p62=>(bif(Nat.beq i61 0)then
  none
 else none)
 | .ret o63=>some o63))
theorem ten_v{q:Int}(h:q≤2000):dTen_s q=some (ofN (pT q)):=by unfold dTen_s;rw[qc (by omega)];rfl
theorem ten_u{q:Int}(h : -2000≤q):dTen_s (-q)=some (ofN (pU q)):=by unfold dTen_s;rw[qc (by omega)];rfl
set_option exponentiation.threshold 1200 in
abbrev InS:=Int×((List Int)×(List Int)×Int×Int×(List Int)×(List Int)×Unit)
abbrev inS(N D k n0 n1:Nat)(q j:Int):InS:=(q,ofN n0,ofN n1,j,(k:Int),ofN N,ofN D,())
theorem len_ofN(v:Nat)(h:blen v≤40000):Nat.ble (ofN v).length 100000=true:=qo (by have:=len_b v;omega)
theorem bl_n{n:Nat}(h:n≤10^18):blen n≤60:=blen_le.2 (jz h (by decide))
theorem bl_t{q:Int}(h:q≤420):blen (pT q)≤1681:=by have:=blen_ten q.toNat;unfold pT;omega
theorem bl_u{q:Int}(h : -420≤q):blen (pU q)≤1681:=by have:=blen_ten (-q).toNat;unfold pU;omega
theorem dg_len18{n:Nat}(h:n≤10^18):(dg n).length≤20:=by
 have key:∀(j n:Nat),n<10^(j+1)→(dg n).length≤j+1:=fun j=>by
  induction j with
  | zero=>intro n h;rw[dg_lt (by omega)];simp
  | succ j ih=>
   intro n h;by_cases h1:n<10
   · rw[dg_lt h1];simp
   · rw[dg_ge (by omega),qq]
     have:=ih (n / 10) (by rw[qQ]at h;omega)
     simp only[yx];omega
 exact je (key 18 n (jz h (by decide))) (by decide)
theorem tx_v{n:Nat}(h:n≤10^18):nText_s (ofN n)=some (bs (dg n)):=by
 unfold nText_s;rw[valN_ofN,qo (by have:=bl_n h;omega)];rfl
def DgP(f:Int)(y:ByteArray×Int):Prop :=
 (clsK (bK f.toNat)≠2∧clsK (bK f.toNat)≠1∧y=(bs [],0)) ∨
 ((clsK (bK f.toNat)=2∨clsK (bK f.toNat)=1)∧∃n q,IsD (bK f.toNat) n q∧y=ansD n q)
open Classical in
noncomputable def dDig_s(f:Int):Option (ByteArray×Int):=if h:∃y,(∃m,dDig m f=some y)∧DgP f y then some (choose h)else none
theorem dDig_ok(f:Int)(y:ByteArray×Int)(hg:(d1 (cI .u64)).good f)(h:dDig_s f=some y):∃n,dDig n f=some y:=by
 unfold dDig_s at h;split at h
 · rename_i hx
   have:=soi h;subst this
   exact(Classical.choose_spec hx).1
 · cases h
end
end Su
end
section
namespace Su
open Go Fly
noncomputable section
def qParts  (f:Int):Option (Bool×Int×Int) :=
 some ((decide ((IntKind.wrap .u64 (Int.tdiv f 9223372036854775808))=1)),(IntKind.wrap .i64 (Int.tmod (IntKind.wrap .u64 (Int.tdiv f 4503599627370496)) 2048)),(Int.tmod f 4503599627370496))
def qClass  (f:Int):Option Int :=
 (bif(decide ((IntKind.wrap .i64 (Int.tmod (IntKind.wrap .u64 (Int.tdiv f 4503599627370496)) 2048))=2047))then
 (bif(decide ((Int.tmod f 4503599627370496)=0))then
 some 3
 else
  (bif(decide ((IntKind.wrap .i64 (Int.tmod (IntKind.wrap .u64 (Int.tdiv f 4503599627370496)) 2048))=2047))then
  some 4
 else
  (bif(decide ((IntKind.wrap .i64 (Int.tmod (IntKind.wrap .u64 (Int.tdiv f 4503599627370496)) 2048))=0))then
  (bif(decide ((Int.tmod f 4503599627370496)=0))then
  some 0
 else
  (bif(decide ((IntKind.wrap .i64 (Int.tmod (IntKind.wrap .u64 (Int.tdiv f 4503599627370496)) 2048))=0))then
  some 1
 else
  some 2))
 else
  (bif(decide ((IntKind.wrap .i64 (Int.tmod (IntKind.wrap .u64 (Int.tdiv f 4503599627370496)) 2048))=0))then
  some 1
 else
  some 2))))
 else
  (bif(decide ((IntKind.wrap .i64 (Int.tmod (IntKind.wrap .u64 (Int.tdiv f 4503599627370496)) 2048))=2047))then
  some 4
 else
  (bif(decide ((IntKind.wrap .i64 (Int.tmod (IntKind.wrap .u64 (Int.tdiv f 4503599627370496)) 2048))=0))then
  (bif(decide ((Int.tmod f 4503599627370496)=0))then
  some 0
 else
  (bif(decide ((IntKind.wrap .i64 (Int.tmod (IntKind.wrap .u64 (Int.tdiv f 4503599627370496)) 2048))=0))then
  some 1
 else
  some 2))
 else
  (bif(decide ((IntKind.wrap .i64 (Int.tmod (IntKind.wrap .u64 (Int.tdiv f 4503599627370496)) 2048))=0))then
  some 1
 else
  some 2))))
theorem td_nat(m n:Nat):Int.tdiv (m:Int) (n:Int)=((m / n:Nat):Int):=rfl
theorem tm_nat(m n:Nat):Int.tmod (m:Int) (n:Int)=((m % n:Nat):Int):=rfl
theorem td63{f:Nat}(h:f<18446744073709551616):decide (IntKind.u64.wrap (Int.tdiv (f:Int) 9223372036854775808)=1)=bS f:=by
 rw[show(9223372036854775808:Int)=((9223372036854775808:Nat):Int) from rfl,td_nat,wu64 (by omega) (by omega)];refine bB ?_
 rw[bS_iff];constructor
 · intro h;have:f / 9223372036854775808=1:=by omega
   rw[this];rfl
 · intro h;omega
theorem tdE{f:Nat}(h:f<18446744073709551616):IntKind.i64.wrap (Int.tmod (IntKind.u64.wrap (Int.tdiv (f:Int) 4503599627370496)) 2048)=((bK f / 4503599627370496:Nat):Int):=by
 rw[show(4503599627370496:Int)=((4503599627370496:Nat):Int) from rfl,td_nat,wu64 (by omega) (by omega),show(2048:Int)=((2048:Nat):Int) from rfl,tm_nat,w64 (by omega) (by omega)]
 congr 1
 unfold bK;omega
theorem tmF(f:Nat):Int.tmod (f:Int) 4503599627370496=((bK f % 4503599627370496:Nat):Int):=by
 rw[show(4503599627370496:Int)=((4503599627370496:Nat):Int) from rfl,tm_nat]
 congr 1
 unfold bK;omega
def qParts_s(f:Int):Option (Bool×Int×Int):=some (bS f.toNat,((bK f.toNat / 4503599627370496:Nat):Int),((bK f.toNat % 4503599627370496:Nat):Int))
theorem qParts_ok(f:Int)(y:Bool×Int×Int)(hg:(d1 (cI .u64)).good f)(h:qParts_s f=some y):qParts f=some y:=by
 obtain⟨n,rfl,hn⟩:=asN64 hg;have:=soi h;subst this
 unfold qParts;rw[td63 hn,tdE hn,tmF,qb]
def qClass_s(f:Int):Option Int:=some ((clsK (bK f.toNat):Nat):Int)
theorem qClass_ok(f:Int)(y:Int)(hg:(d1 (cI .u64)).good f)(h:qClass_s f=some y):qClass f=some y:=by
 obtain⟨n,rfl,hn⟩:=asN64 hg;have:=soi h;subst this
 unfold qClass;rw[tdE hn,tmF,qb];have hk:=bK_lt n;generalize bK n=k at *
 have e:k=k / 4503599627370496*4503599627370496+k % 4503599627370496:=by omega
 have he:k / 4503599627370496≤2047:=by omega
 have hf:k % 4503599627370496<4503599627370496:=by omega
 have hc:=clsK_eq he hf;rw[← e]at hc;rw[hc];generalize k / 4503599627370496=E at *
 generalize k % 4503599627370496=F at *
 rw[show(2047:Int)=((2047:Nat):Int) from rfl,show(0:Int)=((0:Nat):Int) from rfl,nat_eq,nat_eq,nat_eq];by_cases h1:E=2047
 · subst h1
   by_cases h2:F=0
   · subst h2;rfl
   · simp[h2]
 · by_cases h2:E=0
   · subst h2
     by_cases h3:F=0
     · subst h3;rfl
     · simp[h3]
   · simp[h1,h2]
end
end Su
end
section
namespace Su
open Go Fly
noncomputable section
def dForm_c2(d:ByteArray)(q:Int) :=
 bif(true&&(decide (1≤(ByteArray.size d:Int))))then
 (bif(decide (1<(ByteArray.size d:Int)))then
 (bif((true&&(decide (1≤(ByteArray.size d:Int))))&&(decide ((ByteArray.size d:Int)≤(ByteArray.size d:Int))))then
 (bif(Nat.ble (1+(ByteArray.size (ByteArray.extract d 1 (Int.toNat (ByteArray.size d:Int))))) 549755813888)then
 (bif(Nat.ble ((ByteArray.size (ByteArray.extract d 0 1))+(ByteArray.size ((ByteArray.mk (List.toArray [46]))++(ByteArray.extract d 1 (Int.toNat (ByteArray.size d:Int)))))) 549755813888)then
 (bif(Nat.ble ((ByteArray.size ((ByteArray.extract d 0 1)++((ByteArray.mk (List.toArray [46]))++(ByteArray.extract d 1 (Int.toNat (ByteArray.size d:Int))))))+1) 549755813888)then
 (tIt_s (IntKind.wrap .i64 ((IntKind.wrap .i64 ((ByteArray.size d:Int)+q))-1))).bind fun x2=>
 (bif(Nat.ble ((ByteArray.size (((ByteArray.extract d 0 1)++((ByteArray.mk (List.toArray [46]))++(ByteArray.extract d 1 (Int.toNat (ByteArray.size d:Int)))))++(ByteArray.mk (List.toArray [101]))))+(ByteArray.size x2)) 549755813888)then
 some ((((ByteArray.extract d 0 1)++((ByteArray.mk (List.toArray [46]))++(ByteArray.extract d 1 (Int.toNat (ByteArray.size d:Int)))))++(ByteArray.mk (List.toArray [101])))++x2)
 else none)
 else none)
 else none)
 else none)
 else none)
 else
  (bif(Nat.ble ((ByteArray.size (ByteArray.extract d 0 1))+1) 549755813888)then
  (tIt_s (IntKind.wrap .i64 ((IntKind.wrap .i64 ((ByteArray.size d:Int)+q))-1))).bind fun x3=>
  (bif(Nat.ble ((ByteArray.size ((ByteArray.extract d 0 1)++(ByteArray.mk (List.toArray [101]))))+(ByteArray.size x3)) 549755813888)then
  some (((ByteArray.extract d 0 1)++(ByteArray.mk (List.toArray [101])))++x3)
 else none)
 else none))
 else
  none
def dForm_c1(d:ByteArray)(q:Int) :=
 bif(decide ((-5)≤(IntKind.wrap .i64 ((ByteArray.size d:Int)+q))))then
 (bif(decide ((IntKind.wrap .i64 ((ByteArray.size d:Int)+q))≤0))then
 (tRep_s ((),(IntKind.wrap .i64 (0-(IntKind.wrap .i64 ((ByteArray.size d:Int)+q)))))).bind fun x1=>
 (bif(Nat.ble (2+(ByteArray.size x1)) 549755813888)then
 (bif(Nat.ble ((ByteArray.size ((ByteArray.mk (List.toArray [48,46]))++x1))+(ByteArray.size d)) 549755813888)then
 some (((ByteArray.mk (List.toArray [48,46]))++x1)++d)
 else none)
 else none)
 else
  (dForm_c2 d q))
 else
  (dForm_c2 d q)
def dForm_c3(d:ByteArray)(q:Int) :=
 bif(decide (q<0))then
 (bif(decide (0<(IntKind.wrap .i64 ((ByteArray.size d:Int)+q))))then
 (bif((true&&(decide (0≤(IntKind.wrap .i64 ((ByteArray.size d:Int)+q)))))&&(decide ((IntKind.wrap .i64 ((ByteArray.size d:Int)+q))≤(ByteArray.size d:Int))))then
 (bif(Nat.ble ((ByteArray.size (ByteArray.extract d 0 (Int.toNat (IntKind.wrap .i64 ((ByteArray.size d:Int)+q)))))+1) 549755813888)then
 (bif(((decide (0≤(IntKind.wrap .i64 ((ByteArray.size d:Int)+q))))&&(decide ((IntKind.wrap .i64 ((ByteArray.size d:Int)+q))≤(ByteArray.size d:Int))))&&(decide ((ByteArray.size d:Int)≤(ByteArray.size d:Int))))then
 (bif(Nat.ble ((ByteArray.size ((ByteArray.extract d 0 (Int.toNat (IntKind.wrap .i64 ((ByteArray.size d:Int)+q))))++(ByteArray.mk (List.toArray [46]))))+(ByteArray.size (ByteArray.extract d (Int.toNat (IntKind.wrap .i64 ((ByteArray.size d:Int)+q))) (Int.toNat (ByteArray.size d:Int))))) 549755813888)then
 some (((ByteArray.extract d 0 (Int.toNat (IntKind.wrap .i64 ((ByteArray.size d:Int)+q))))++(ByteArray.mk (List.toArray [46])))++(ByteArray.extract d (Int.toNat (IntKind.wrap .i64 ((ByteArray.size d:Int)+q))) (Int.toNat (ByteArray.size d:Int))))
 else none)
 else none)
 else none)
 else none)
 else
  (dForm_c1 d q))
 else
  (dForm_c1 d q)
def dForm  (d:ByteArray)(q:Int):Option ByteArray :=
 (bif(decide (0≤q))then
 (bif(decide ((IntKind.wrap .i64 ((ByteArray.size d:Int)+q))≤21))then
 (tRep_s ((),q)).bind fun x0=>
 (bif(Nat.ble ((ByteArray.size d)+(ByteArray.size x0)) 549755813888)then
 (bif(Nat.ble ((ByteArray.size (d++x0))+2) 549755813888)then
 some ((d++x0)++(ByteArray.mk (List.toArray [46,48])))
 else none)
 else none)
 else
  (dForm_c3 d q))
 else
  (dForm_c3 d q))
theorem bdT{α:Type}{p:Prop}[Decidable p](h:p)(a b:α):(bif decide p then a else b)=a:=by rw[qc h];rfl
theorem bdF{α:Type}{p:Prop}[Decidable p](h : ¬p)(a b:α):(bif decide p then a else b)=b:=by rw[qm h];rfl
theorem bdA{α:Type}(x y:Bool)(a b:α):(bif x&&y then a else b)=bif x then(bif y then a else b)else b:=by cases x <;> rfl
theorem bdB{α:Type}{n m:Nat}(h:n≤m)(a b:α):(bif Nat.ble n m then a else b)=a:=by rw[qo h];rfl
def formL(d:List UInt8)(q:Int):List UInt8 :=
 if 0≤q∧(d.length:Int)+q≤21 then d++zs q.toNat++[46,48]else
 if q<0∧0<(d.length:Int)+q then d.take ((d.length:Int)+q).toNat++[46]++d.drop ((d.length:Int)+q).toNat else
 if(d.length:Int)+q≤0∧-5≤(d.length:Int)+q then[48,46]++zs (-((d.length:Int)+q)).toNat++d else
 d.take 1++(if 1<d.length then 46::d.drop 1 else[])++101::itT ((d.length:Int)+q-1)
def okF(d:List UInt8)(q:Int):Bool:=decide (1≤d.length)&&(decide (d.length≤1000)&&(decide (-1000≤q)&&decide (q≤1000)))
theorem okF_iff{d:List UInt8}{q:Int}:okF d q=true↔1≤d.length∧d.length≤1000∧-1000≤q∧q≤1000:=by
 unfold okF;simp only[qk,qE]
def dForm_s(p:ByteArray×Int):Option ByteArray:=bif okF (lb p.1) p.2 then some (bs (formL (lb p.1) p.2))else none
theorem rep_v{n:Int}(h1:0≤n)(h2:n≤40):tRep_s ((),n)=some (bs (zs n.toNat)):=by unfold tRep_s;rw[qc h1,qc h2];rfl
theorem it_v{n:Int}(h1 : -10000≤n)(h2:n≤10000):tIt_s n=some (bs (itT n)):=by unfold tIt_s;rw[qc (by omega),qc (by omega)];rfl
theorem zs_len(n:Nat):(zs n).length=n:=zp
theorem dForm_ok(p:ByteArray×Int)(y:ByteArray)(hg:(dc cS (d1 (cI .i64))).good p)(h:dForm_s p=some y):dForm p.1 p.2=some y:=by
 obtain⟨d,q⟩:=p;revert h;refine onB (P:=fun d=>dForm_s (d,q)=some y→dForm d q=some y) (fun l h=>?_) d
 obtain⟨h1,h2⟩:=bif_some h;have:=soi h2;subst this
 simp only[lb_bs]at h1 ⊢;obtain⟨a1,a2,a3,a4⟩:=okF_iff.1 h1;clear hg h h1 h2;have w1:IntKind.i64.wrap (((l.length:Nat):Int)+q)=((l.length:Nat):Int)+q:=w64 (by omega) (by omega)
 have w2:IntKind.i64.wrap (0-(((l.length:Nat):Int)+q)) = -(((l.length:Nat):Int)+q):=by rw[w64 (by omega) (by omega)];omega
 have w3:IntKind.i64.wrap (((l.length:Nat):Int)+q-1)=((l.length:Nat):Int)+q-1:=w64 (by omega) (by omega)
 have il:=itT_len (n:=((l.length:Nat):Int)+q-1) (by omega) (by omega)
 unfold dForm dForm_c3 dForm_c1 dForm_c2;simp only[bs_size,w1,w2,w3,mk_bs,bs_ext,bs_app];unfold formL;by_cases c1:0≤q∧((l.length:Nat):Int)+q≤21
 · rw[qU c1]
   have r:=rep_v (n:=q) (by omega) (by omega)
   have zl:=zs_len q.toNat;simp (disch:=omega) only[↓bdT,↓bdF,r,qf]
   simp (disch:=((try simp only[bs_size,qq,zl]);omega)) only[bdB,bs_app]
 · rw[qM c1]
   by_cases c2:q<0∧0<((l.length:Nat):Int)+q
   · rw[qU c2]
     simp (disch:=omega) only[↓bdT,↓bdF,↓bdA,↓qe]
     simp (disch:=(simp only[qq,qK,jf,qy,jc];omega)) only[bdB,bs_app,qb,jA,jT]
     rw[qC (l:=List.drop _ l) (by simp)]
   · rw[qM c2]
     by_cases c3:((l.length:Nat):Int)+q≤0∧-5≤((l.length:Nat):Int)+q
     · rw[qU c3]
       have r:=rep_v (n:=-(((l.length:Nat):Int)+q)) (by omega) (by omega)
       have zl:=zs_len (-(((l.length:Nat):Int)+q)).toNat
       simp (disch:=omega) only[↓bdT,↓bdF,↓bdA,↓qe,r,qf]
       simp (disch:=((try simp only[bs_size,qq,qy,jc,zl]);omega)) only[bdB,bs_app]
     · rw[qM c3]
       have r:=it_v (n:=((l.length:Nat):Int)+q-1) (by omega) (by omega)
       generalize itT (((l.length:Nat):Int)+q-1)=T at *
       have hq:0≤q∧21<((l.length:Nat):Int)+q∨q<0∧((l.length:Nat):Int)+q < -5:=by omega
       by_cases c4:1<l.length
       · rw[qU c4]
         have ht:List.take (l.length-1) (l.drop 1)=l.drop 1:=qC (by simp)
         rcases hq with hq | hq
         · simp (disch:=omega) only[↓bdT,↓bdF,↓bdA,↓qe,r,qf]
           simp (disch:=((try simp only[bs_size,qq,qy,jc,qK,jf]);omega)) only[bdB,bs_app,qb,jA,jT,ht]
           simp
         · simp (disch:=omega) only[↓bdT,↓bdF,↓bdA,↓qe,r,qf]
           simp (disch:=((try simp only[bs_size,qq,qy,jc,qK,jf]);omega)) only[bdB,bs_app,qb,jA,jT,ht]
           simp
       · rw[qM c4]
         rcases hq with hq | hq
         · simp (disch:=omega) only[↓bdT,↓bdF,↓bdA,↓qe,r,qf]
           simp (disch:=((try simp only[bs_size,qq,qy,jc,qK,jf]);omega)) only[bdB,bs_app,qb,jA,jT]
           simp
         · simp (disch:=omega) only[↓bdT,↓bdF,↓bdA,↓qe,r,qf]
           simp (disch:=((try simp only[bs_size,qq,qy,jc,qK,jf]);omega)) only[bdB,bs_app,qb,jA,jT]
           simp
end
end Su
end
