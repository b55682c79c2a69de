/-
  What functions of the program compute, in plain Lean, and that the evaluator finds it.
-/
import Derived.Test.YtldhknmacepeiaaGreatDoorSuXl
import Derived.Test.YtldhknmacepeiaaGreatDoorNC10
import Derived.Test.YtldhknmacepeiaaGreatDoorSuSd
set_option linter.unusedVariables false
set_option linter.unusedSimpArgs false
set_option maxRecDepth 10000
section
namespace Su
open Go Fly
noncomputable section
def rFrac_c1(neg:Bool)(mode:Int) :=
 fun x5001 x5002=>
 bif(decide (0<(IntKind.wrap .i64 (63-(IntKind.wrap .i64 (x5001-x5002))))))then
 some ((((RN neg mode (valW ((0:Int),(9223372036854775808:Int))) (Int.toNat ((-5000)+6000)) true):Nat):Int),(flN neg mode (valW ((0:Int),(9223372036854775808:Int))) (Int.toNat ((-5000)+6000)) true (decide (((((blen (valW ((0:Int),(9223372036854775808:Int)))):Nat):Int)+(-5000))≤(-1022)))))
 else
  some ((((RN neg mode (valW ((0:Int),(9223372036854775808:Int))) (Int.toNat (5000+6000)) true):Nat):Int),(flN neg mode (valW ((0:Int),(9223372036854775808:Int))) (Int.toNat (5000+6000)) true (decide (((((blen (valW ((0:Int),(9223372036854775808:Int)))):Nat):Int)+5000)≤(-1022)))))
def rFrac  (neg:Bool)(num:(List Int))(den:(List Int))(mode:Int):Option (Int×Int) :=
 (Len num).bind fun x0=>
 (bif(decide (x0=0))then
 some ((0:Int),(0:Int))
 else
  (Len den).bind fun x1=>
  (bif(decide (x1=0))then
  some ((0:Int),(0:Int))
 else
  (Len num).bind fun x2=>
  (Len den).bind fun x3=>
  (bif(decide ((IntKind.wrap .i64 (63-(IntKind.wrap .i64 (x2-x3))))<(-5000)))then
  (rFrac_c1 neg mode x2 x3)
 else
  (bif(decide (5000<(IntKind.wrap .i64 (63-(IntKind.wrap .i64 (x2-x3))))))then
  (rFrac_c1 neg mode x2 x3)
 else
  (rTwo_s (IntKind.wrap .i64 (63-(IntKind.wrap .i64 (x2-x3))))).bind fun x4=>
  (Mul_s (num,x4)).bind fun x5=>
  (rTwo_s (IntKind.wrap .i64 (0-(IntKind.wrap .i64 (63-(IntKind.wrap .i64 (x2-x3))))))).bind fun x6=>
  (Mul_s (den,x6)).bind fun x7=>
  (Div_s (x5,x7)).bind fun x8=>
  (Uint x8.1).bind fun x9=>
  (Len x8.2.1).bind fun x10=>
  (rFloat_s ((neg,(0:Int),x9.1,(IntKind.wrap .i64 (0-(IntKind.wrap .i64 (63-(IntKind.wrap .i64 (x2-x3)))))),(decide (0<x10))),mode)).bind fun x11=>
  some x11))))
theorem Uint_b{M:Nat}(h:M<18446744073709551616):Uint (ofN M)=some ((M:Int),true):=by
 have hb:blen M≤64:=blen_le.2 h
 have hw:=Wd_ofN M;have a0:=At_eq' hw 0
 have a1:=At_eq' hw 1
 obtain⟨p1,p2⟩:=nth_wd hw 0
 obtain⟨p3,p4⟩:=nth_wd hw 1
 have v0:=valN_head (ofN M) 0
 have v1:=valN_head (ofN M) 1
 rw[jA,valN_ofN]at v0;simp only[qF,Nat.reduceAdd]at v0 v1;obtain⟨X,hX⟩:=yi p1;obtain⟨Y,hY⟩:=yi p3;rw[hX]at a0 p2 v0;rw[hY]at a1 p4 v1;rw[qb]at v0 v1;have hz:valN ((ofN M).drop 2)=0:=by omega
 have hM:M=X+Y*2^32:=by omega
 unfold Uint;have d0:decide ((64:Int)<((blen M:Nat):Int))=false:=qm (by omega)
 have a0':At (ofN M) 0=some (X:Int):=a0
 have a1':At (ofN M) 1=some (Y:Int):=a1
 have w1:IntKind.u64.wrap ((Y:Int)*(2^32))=((Y*2^32:Nat):Int):=by
  rw[wu64 (by omega) (by omega)];omega
 rw[Len_b (by omega),qf,d0,qh,a0',qf,a1',qf,w1,bitv_or _ _ (by omega) (by omega),or_shl (by omega),← hM]
def fracE(N D:Nat):Int:=((blen N:Nat):Int)-((blen D:Nat):Int)-63
def fracA(N D:Nat):Nat:=N*2^(-fracE N D).toNat
def fracB(N D:Nat):Nat:=D*2^(fracE N D).toNat
def fracM(N D:Nat):Nat:=fracA N D / fracB N D
def fracR(N D:Nat):Bool:=decide (0<((blen (fracA N D % fracB N D):Nat):Int))
def fracL:{f:Bool→Int→Nat→Nat→Nat // ∀neg mode N D,f neg mode N D=RN neg mode (fracM N D) (fracE N D+6000).toNat (fracR N D)}:=Classical.choice ⟨⟨_,fun _ _ _ _=>rfl⟩⟩
def fracV(neg:Bool)(mode:Int)(N D:Nat):Nat:=fracL.1 neg mode N D
theorem fracV_eq(neg:Bool)(mode:Int)(N D:Nat):fracV neg mode N D=RN neg mode (fracM N D) (fracE N D+6000).toNat (fracR N D):=fracL.2 neg mode N D
def fracF(neg:Bool)(mode:Int)(N D:Nat):Int:=flN neg mode (fracM N D) (fracE N D+6000).toNat (fracR N D) (decide ((blen (fracM N D):Int)+fracE N D≤-1022))
theorem fracB_pos{N D:Nat}(hD:D≠0):0<fracB N D:=Nat.mul_pos (Nat.pos_of_ne_zero hD) (qG _)
theorem fracM_lt{N D:Nat}(hD:D≠0):fracM N D<18446744073709551616:=by
 unfold fracM;rw[ju (fracB_pos hD)];have h1:=blen_lt N;have h2:=blen_ge hD;have h3:=blen_pos hD;unfold fracA fracB;refine jg (qR h1 (qG _)) ?_
 refine je ?_ (qI _ (qw _ h2))
 rw[← qH,← qH,show(18446744073709551616:Nat)=2^64 from rfl,← qH];refine qT (by omega) ?_
 unfold fracE;omega
theorem fracM_ge{N D:Nat}(hN:N≠0)(hD:D≠0):4611686018427387904≤fracM N D:=by
 unfold fracM;rw[zk (fracB_pos hD)];have h1:=blen_ge hN;have h2:=blen_lt D;have h3:=blen_pos hN;unfold fracA fracB;refine je ?_ (qw _ h1)
 refine je (qI _ (qw _ (yu h2))) ?_
 rw[← qH,← qH,show(4611686018427387904:Nat)=2^62 from rfl,← qH];refine qT (by omega) ?_
 unfold fracE;omega
def rFrac_s(p:Bool×List Int×List Int×Int):Option (Int×Int) :=
 bif Nat.beq (valN p.2.1) 0||Nat.beq (valN p.2.2.1) 0 then(bif Nat.ble (blen (valN p.2.1)) 100000&&Nat.ble (blen (valN p.2.2.1)) 100000 then some (0,0)else none)else
 bif((Nat.ble p.2.1.length 100000&&Nat.ble p.2.2.1.length 100000)&&(Nat.ble (blen (valN p.2.1)) 40000&&Nat.ble (blen (valN p.2.2.1)) 40000))&&(decide (-4000≤fracE (valN p.2.1) (valN p.2.2.1))&&decide (fracE (valN p.2.1) (valN p.2.2.1)≤4000))then
  some (((fracV p.1 p.2.2.2 (valN p.2.1) (valN p.2.2.1):Nat):Int),fracF p.1 p.2.2.2 (valN p.2.1) (valN p.2.2.1))
 else none
theorem blen_mono{a b:Nat}(h:a≤b):blen a≤blen b:=blen_le.2 (jz h (blen_lt b))
theorem Len_v{a:List Int}(h:blen (valN a)≤100000):Len a=some ((blen (valN a):Nat):Int):=Len_eq' a (by omega)
theorem mul_v{a:List Int}{v:Nat}(hl:a.length≤1000000)(h2:blen v≤100000):Mul_s (a,ofN v)=some (ofN (valN a*v)):=by
 unfold Mul_s;have l2:=len_b v;simp only[valN_ofN];rw[qo (by omega)];rfl
theorem rFrac_ok(p:Bool×List Int×List Int×Int)(y:Int×Int)(hg:(dc cB (dc (cQ 1 1) (dc (cQ 1 1) (d1 (cI .u8))))).good p)(h:rFrac_s p=some y):rFrac p.1 p.2.1 p.2.2.1 p.2.2.2=some y:=by
 obtain⟨neg,num,den,mode⟩:=p;simp only[];have ln:num.length≤maxLen:=hg.2.1.2
 have ld:den.length≤maxLen:=hg.2.2.1.2
 unfold rFrac_s at h;simp only[]at h;generalize hN:valN num=N at *
 generalize hD:valN den=D at *
 cases hz:Nat.beq N 0||Nat.beq D 0 with
 | true=>
  rw[hz,qe]at h;obtain⟨h1,h2⟩:=bif_some h;have:=soi h2;subst this
  rw[qk]at h1;have b1:=qn h1.1;have b2:=qn h1.2;have L1:=Len_v (a:=num) (by rw[hN];exact b1)
  have L2:=Len_v (a:=den) (by rw[hD];exact b2)
  rw[hN]at L1;rw[hD]at L2;unfold rFrac rFrac_c1;rw[L1,qf];by_cases h0:N=0
  · subst h0;rfl
  · have hd:D=0:=by
     rw[beq0 h0,zx]at hz;exact qd hz
    subst hd;have:=blen_pos h0
    rw[qm (show¬((blen N:Nat):Int)=0 by omega),qh,L2];rfl
 | false=>
  rw[hz,qh]at h;obtain⟨h1,h2⟩:=bif_some h;have:=soi h2;subst this
  simp only[qk,qE]at h1;obtain⟨⟨⟨l1,l2⟩,b1,b2⟩,e1,e2⟩:=h1;have l1:=qn l1;have l2:=qn l2;have b1:=qn b1;have b2:=qn b2;rw[Bool.or_eq_false_iff]at hz;have hN0:N≠0:=fun e=>by rw[e]at hz;exact absurd hz.1 (by decide)
  have hD0:D≠0:=fun e=>by rw[e]at hz;exact absurd hz.2 (by decide)
  have L1:=Len_v (a:=num) (by rw[hN];omega)
  have L2:=Len_v (a:=den) (by rw[hD];omega)
  rw[hN]at L1;rw[hD]at L2;have p1:=blen_pos hN0;have p2:=blen_pos hD0;have w1:IntKind.i64.wrap (63-IntKind.i64.wrap (((blen N:Nat):Int)-((blen D:Nat):Int))) = -fracE N D:=by
   unfold fracE;rw[w64 (n:=((blen N:Nat):Int)-((blen D:Nat):Int)) (by omega) (by omega),w64 (by omega) (by omega)];omega
  have w2:IntKind.i64.wrap (0 - -fracE N D)=fracE N D:=by rw[w64 (by omega) (by omega)];omega
  have e11:blen 1=1:=by decide
  have s1:rTwo_s (-fracE N D)=some (ofN (2^(-fracE N D).toNat)):=by unfold rTwo_s;rw[qc (by omega)];rfl
  have s2:rTwo_s (fracE N D)=some (ofN (2^(fracE N D).toNat)):=by unfold rTwo_s;rw[qc (by omega)];rfl
  have bA:blen (fracA N D)≤100000:=by
   have:=blen_mul N (2^(-fracE N D).toNat)
   rw[blen_pow2]at this;unfold fracA;omega
  have bB:blen (fracB N D)≤100000:=by
   have:=blen_mul D (2^(fracE N D).toNat)
   rw[blen_pow2]at this;unfold fracB;omega
  have m1:Mul_s (num,ofN (2^(-fracE N D).toNat))=some (ofN (fracA N D)):=by
   rw[mul_v (by omega) (by rw[blen_pow2];omega),hN];rfl
  have m2:Mul_s (den,ofN (2^(fracE N D).toNat))=some (ofN (fracB N D)):=by
   rw[mul_v (by omega) (by rw[blen_pow2];omega),hD];rfl
  have hB:=fracB_pos (N:=N) hD0
  have dv:=div_b bA bB (by omega)
  have u:=Uint_b (fracM_lt (N:=N) hD0)
  have hM:=fracM_ge hN0 hD0;have bR:blen (fracA N D % fracB N D)≤100000:=je (blen_mono (Nat.mod_le _ _)) bA
  have lR:=Len_b bR;have d1:decide (((blen N:Nat):Int)=0)=false:=qm (by omega)
  have d2:decide (((blen D:Nat):Int)=0)=false:=qm (by omega)
  have d3:decide (-fracE N D < -5000)=false:=qm (by omega)
  have d4:decide ((5000:Int) < -fracE N D)=false:=qm (by omega)
  have vw:valW ((0:Int),((fracM N D:Nat):Int))=fracM N D:=by rw[valW_def];simp
  have rf:rFloat_s ((neg,(0:Int),((fracM N D:Nat):Int),fracE N D,fracR N D),mode)=some (((fracV neg mode N D:Nat):Int),fracF neg mode N D):=by
   unfold rFloat_s;simp only[vw];rw[beq0 (by omega),qc (show -5000≤fracE N D by omega),qc (show fracE N D≤5000 by omega),fracV_eq];rfl
  unfold rFrac rFrac_c1;refine obs L1 ?_
  rw[d1,qh];refine obs L2 ?_
  rw[d2,qh];refine obs L1 (obs L2 ?_)
  rw[w1,d3,qh,d4,qh,w2];exact obs s1 (obs m1 (obs s2 (obs m2 (obs dv (obs u (obs lR (obs rf rfl)))))))
end
end Su
end
section
namespace Su
open Go Fly
noncomputable section
abbrev nParse_l1_S:=(ByteArray×(List Int)×Int×Int×Int×Int×Unit)
def nParse_l1:nParse_l1_S→Option (nParse_l1_S ⊕ (Lp nParse_l1_S ((List Int)×Int))):=fun p0=>(bif(decide (p0.2.2.2.2.2.1<p0.2.2.2.2.1))then
 (bif(decide (0≤p0.2.2.2.2.2.1))then
 ((p0.1)[p0.2.2.2.2.2.1.toNat]?).bind fun x1=>
 (bif(decide ((UInt8.toNat x1:Int)<48))then
 some (.inr (.ret ([],(22:Int))))
 else
  (bif(decide (0≤p0.2.2.2.2.2.1))then
  ((p0.1)[p0.2.2.2.2.2.1.toNat]?).bind fun x2=>
  (bif(decide (57<(UInt8.toNat x2:Int)))then
  some (.inr (.ret ([],(22:Int))))
 else
  (bif(decide (0≤p0.2.2.2.2.2.1))then
  ((p0.1)[p0.2.2.2.2.2.1.toNat]?).bind fun x3=>
  (bif(decide ((IntKind.wrap .u64 (p0.2.2.2.1*10))=1000000000))then
  (Mul_s (p0.2.1,(ofN (valN [(IntKind.wrap .u32 (IntKind.wrap .u64 (p0.2.2.2.1*10))),(IntKind.wrap .u32 (Int.fdiv (IntKind.wrap .u64 (p0.2.2.2.1*10)) (2^32)))])))).bind fun x4=>
  (Add_s (x4,(ofN (valN [(IntKind.wrap .u32 (IntKind.wrap .u64 ((IntKind.wrap .u64 (p0.2.2.1*10))+(IntKind.wrap .u64 (IntKind.wrap .u8 ((UInt8.toNat x3:Int)-48)))))),(IntKind.wrap .u32 (Int.fdiv (IntKind.wrap .u64 ((IntKind.wrap .u64 (p0.2.2.1*10))+(IntKind.wrap .u64 (IntKind.wrap .u8 ((UInt8.toNat x3:Int)-48))))) (2^32)))])))).bind fun x5=>
  some (.inl (p0.1,x5,(0:Int),(1:Int),p0.2.2.2.2.1,(IntKind.wrap .i64 (p0.2.2.2.2.2.1+1)),()))
 else
  (bif(decide (p0.2.2.2.2.2.1=(IntKind.wrap .i64 ((ByteArray.size p0.1:Int)-1))))then
  (Mul_s (p0.2.1,(ofN (valN [(IntKind.wrap .u32 (IntKind.wrap .u64 (p0.2.2.2.1*10))),(IntKind.wrap .u32 (Int.fdiv (IntKind.wrap .u64 (p0.2.2.2.1*10)) (2^32)))])))).bind fun x6=>
  (Add_s (x6,(ofN (valN [(IntKind.wrap .u32 (IntKind.wrap .u64 ((IntKind.wrap .u64 (p0.2.2.1*10))+(IntKind.wrap .u64 (IntKind.wrap .u8 ((UInt8.toNat x3:Int)-48)))))),(IntKind.wrap .u32 (Int.fdiv (IntKind.wrap .u64 ((IntKind.wrap .u64 (p0.2.2.1*10))+(IntKind.wrap .u64 (IntKind.wrap .u8 ((UInt8.toNat x3:Int)-48))))) (2^32)))])))).bind fun x7=>
  some (.inl (p0.1,x7,(0:Int),(1:Int),p0.2.2.2.2.1,(IntKind.wrap .i64 (p0.2.2.2.2.2.1+1)),()))
 else
  some (.inl (p0.1,p0.2.1,(IntKind.wrap .u64 ((IntKind.wrap .u64 (p0.2.2.1*10))+(IntKind.wrap .u64 (IntKind.wrap .u8 ((UInt8.toNat x3:Int)-48))))),(IntKind.wrap .u64 (p0.2.2.2.1*10)),p0.2.2.2.2.1,(IntKind.wrap .i64 (p0.2.2.2.2.2.1+1)),()))))
 else none))
 else none))
 else none)
 else
  some (.inr (.exit 1 (p0.1,p0.2.1,p0.2.2.1,p0.2.2.2.1,p0.2.2.2.2.1,p0.2.2.2.2.2.1,()))))
def nParse  (fu:Nat)(s:ByteArray):Option ((List Int)×Int) :=
 (bif(decide (20000<(ByteArray.size s:Int)))then
 some ([],(20:Int))
 else
  (bif(decide (s=(ByteArray.mk (List.toArray []))))then
  some ([],(22:Int))
 else
  (itP fu (nParse_l1) (s,[],(0:Int),(1:Int),(ByteArray.size s:Int),(0:Int),())).bind fun x8=>
  (match x8 with
 | .exit i9 p10=>(bif(Nat.beq i9 1)then
  some (p10.2.1,(0:Int))
 else none)
 | .ret o11=>some o11)))
theorem new_v{x:Nat}(h:x<18446744073709551616):ofN (valN [IntKind.u32.wrap (x:Int),IntKind.u32.wrap (Int.fdiv (x:Int) (2^32))])=ofN x:=by
 have e1:IntKind.u32.wrap (x:Int)=((x % 4294967296:Nat):Int):=by rw[wrap_u32];omega
 have e2:IntKind.u32.wrap (Int.fdiv (x:Int) (2^32))=((x / 4294967296:Nat):Int):=by
  rw[fd_nat,show x / 2^32=x / 4294967296 from rfl];exact wu32 (by omega) (by omega)
 rw[e1,e2]
 congr 1
 simp only[valN,qb];omega
theorem blen_lt10{v k:Nat}(h:v<10^k):blen v≤4*k+1:=je (blen_mono (yu h)) (blen_ten k)
theorem pow10_le8{r:Nat}(h:r≤8):10^r≤100000000:=qT (by omega) h
theorem one_le10(k:Nat):1≤10^k:=Nat.one_le_pow _ _ (by decide)
abbrev PaS:=ByteArray×((List Int)×Int×Int×Int×Int×Unit)
abbrev paS(l:List UInt8)(V S B i:Nat):PaS:=(bs l,ofN V,(S:Int),(B:Int),((l.length:Nat):Int),(i:Int),())
theorem parse_run(l:List UInt8)(hl:l.length≤20000):∀(rest A:List UInt8) (V S r:Nat),A++rest=l→(∀c∈A,isD c=true)→r≤8→S<10^r→dv A=V*10^r+S→(rest=[]→r=0) →
 ∃n,itP n nParse_l1 (paS l V S (10^r) A.length)=some (bif rest.all isD then .exit 1 (paS l (dv l) 0 1 l.length)else .ret ([],22))
 | [],A,V,S,r,hA,hD,hr,hS,hV,h0=>by
  rw[jw]at hA;have hr:=h0 rfl;subst hr hA
  rw[jL]at hS hV;have:S=0:=by omega
  subst this;rw[j8,jx]at hV;subst hV;refine⟨1,?_⟩
  rw[itP_s];simp only[nParse_l1,paS,Int.lt_irrefl,decide_false,qh,List.all_nil,qe,jL];rfl
 | c::rest,A,V,S,r,hA,hD,hr,hS,hV,h0=>by
  have hNl:A.length+(rest.length+1)=l.length:=by rw[← hA];simp
  have d0:decide (((A.length:Nat):Int)<((l.length:Nat):Int))=true:=qc (by omega)
  have d1:decide ((0:Int)≤((A.length:Nat):Int))=true:=qc (by omega)
  have g:(bs l)[Int.toNat ((A.length:Nat):Int)]?=some c:=by
   rw[qb,bs_get,← hA,qP (qB _),yF];rfl
  have hw:IntKind.i64.wrap (((A.length:Nat):Int)+1)=(((A++[c]).length:Nat):Int):=by rw[w64 (by omega) (by omega)];simp
  have ec:List.all (c::rest) isD=(isD c&&rest.all isD):=rfl
  by_cases hc1:c.toNat<48
  · have d2:decide (((c.toNat:Nat):Int)<48)=true:=qc (by omega)
    have hd:isD c=false:=by
     cases h:isD c with
     | false=>rfl
     | true=>have:=isD_iff.1 h;omega
    refine⟨1,?_⟩
    rw[itP_s,ec,hd];simp only[nParse_l1,paS,d0,d1,g,d2,qe,qf,zu,qh]
  · have d2:decide (((c.toNat:Nat):Int)<48)=false:=qm (by omega)
    by_cases hc2:57<c.toNat
    · have d3:decide ((57:Int)<((c.toNat:Nat):Int))=true:=qc (by omega)
      have hd:isD c=false:=by
       cases h:isD c with
       | false=>rfl
       | true=>have:=isD_iff.1 h;omega
      refine⟨1,?_⟩
      rw[itP_s,ec,hd];simp only[nParse_l1,paS,d0,d1,g,d2,d3,qe,qf,zu,qh]
    · have d3:decide ((57:Int)<((c.toNat:Nat):Int))=false:=qm (by omega)
      have hd:isD c=true:=isD_iff.2 ⟨by omega,by omega⟩
      have p8:=pow10_le8 hr;have hB:10^r*10=10^(r+1):=(qQ ..).symm
      have wB:IntKind.u64.wrap (((10^r:Nat):Int)*10)=((10^(r+1):Nat):Int):=by rw[wu64 (by omega) (by omega)];omega
      have wc:IntKind.u8.wrap (((c.toNat:Nat):Int)-48)=((c.toNat-48:Nat):Int):=by
       rw[show(((c.toNat:Nat):Int)-48)=((c.toNat-48:Nat):Int) by omega];exact wrap_id (by unfold inR;simp;exact⟨by show(0:Int)≤_;omega,by show _≤(255:Int);omega⟩)
      have wc2:IntKind.u64.wrap ((c.toNat-48:Nat):Int)=((c.toNat-48:Nat):Int):=wu64 (by omega) (by omega)
      have wS:IntKind.u64.wrap ((S:Int)*10)=((S*10:Nat):Int):=by rw[wu64 (by omega) (by omega)];omega
      have wS2:IntKind.u64.wrap (((S*10:Nat):Int)+((c.toNat-48:Nat):Int))=((S*10+(c.toNat-48):Nat):Int):=by rw[wu64 (by omega) (by omega)];omega
      have hD':∀d∈A++[c],isD d=true:=fun d h=>by
       rcases qZ.1 h with h | h
       · exact hD d h
       · rw[zf.1 h];exact hd
      have hdv:dv (A++[c])=V*10^(r+1)+(S*10+(c.toNat-48)):=by
       rw[dv_snoc,hV,qL,qx,hB];omega
      have hS':S*10+(c.toNat-48)<10^(r+1):=by omega
      have hdl:=dv_lt (A++[c]) hD'
      have hV':V≤dv (A++[c]):=by
       rw[hdv];have:V*1≤V*10^(r+1):=qI _ (one_le10 _)
       omega
      have hlA:(A++[c]).length≤20000:=by simp;omega
      have hbd:=blen_lt10 hdl;have hbV:=je (blen_mono hV') hbd
      have hbX:∀x:Nat,x<10^10→blen x≤41:=fun x h=>blen_lt10 h
      have n1:=new_v (x:=10^(r+1)) (by omega)
      have n2:=new_v (x:=S*10+(c.toNat-48)) (by omega)
      have hb1:=hbX (10^(r+1)) (by omega)
      have hb2:=hbX (S*10+(c.toNat-48)) (by omega)
      have hb3:=blen_mul V (10^(r+1))
      have m1:=mul_b (u:=V) (v:=10^(r+1)) (by omega) (by omega)
      have m2:=add_b (u:=V*10^(r+1)) (v:=S*10+(c.toNat-48)) (by omega) (by omega)
      rw[← hdv]at m2;have full:rest=[]∨r=8→∃n,itP n nParse_l1 (paS l (dv (A++[c])) 0 (10^0) (A++[c]).length)=some (bif rest.all isD then .exit 1 (paS l (dv l) 0 1 l.length)else .ret ([],22)):=fun _=>
       parse_run l hl rest (A++[c]) (dv (A++[c])) 0 0 (by rw[← hA];simp) hD' (by omega) (by decide) (by simp) (fun _=>rfl)
      rw[ec,hd,j7];by_cases h8:r=8
      · obtain⟨n,q⟩:=full (.inr h8)
        have d4:decide (((10^(r+1):Nat):Int)=1000000000)=true:=qc (by rw[h8];rfl)
        refine⟨n+1,?_⟩
        rw[itP_s];simp only[nParse_l1,paS,d0,d1,g,d2,d3,wB,d4,wc,wc2,wS,wS2,n1,n2,m1,m2,hw,qe,qh,qf];exact q
      · have d4:decide (((10^(r+1):Nat):Int)=1000000000)=false:=qm fun e=>by
         have:10^(r+1)≤10^8:=qT (by omega) (by omega)
         omega
        have hsz:IntKind.i64.wrap ((((bs l).size:Nat):Int)-1)=((l.length-1:Nat):Int):=by rw[bs_size,w64 (by omega) (by omega)];omega
        by_cases he:rest=[]
        · obtain⟨n,q⟩:=full (.inl he)
          have d5:decide (((A.length:Nat):Int)=((l.length-1:Nat):Int))=true:=qc (by rw[he]at hNl;simp at hNl;omega)
          refine⟨n+1,?_⟩
          rw[itP_s];simp only[nParse_l1,paS,d0,d1,g,d2,d3,wB,d4,hsz,d5,wc,wc2,wS,wS2,n1,n2,m1,m2,hw,qe,qh,qf];exact q
        · have hr1:0<rest.length:=List.length_pos_iff.2 he
          have d5:decide (((A.length:Nat):Int)=((l.length-1:Nat):Int))=false:=qm (by omega)
          obtain⟨n,q⟩:=parse_run l hl rest (A++[c]) V (S*10+(c.toNat-48)) (r+1) (by rw[← hA];simp) hD' (by omega) hS' hdv (fun h=>absurd h he)
          refine⟨n+1,?_⟩
          rw[itP_s];simp only[nParse_l1,paS,d0,d1,g,d2,d3,wB,d4,hsz,d5,wc,wc2,wS,wS2,hw,qe,qh,qf];exact q
def nParse_s(s:ByteArray):Option (List Int×Int):=some (bif Nat.ble (lb s).length 20000 then(bif(lb s).isEmpty then([],22)else bif(lb s).all isD then(ofN (dv (lb s)),0)else([],22))else([],20))
theorem nParse_ok(s:ByteArray)(y:List Int×Int)(hg:(d1 cS).good s)(h:nParse_s s=some y):∃n,nParse n s=some y:=by
 revert h;refine onB (P:=fun s=>nParse_s s=some y→∃n,nParse n s=some y) (fun l h=>?_) s
 have:=soi h;subst this
 rw[lb_bs];cases hb:Nat.ble l.length 20000 with
 | false=>
  have : ¬l.length≤20000:=fun e=>by rw[qo e]at hb;cases hb
  refine⟨0,?_⟩
  unfold nParse;rw[qc (show(20000:Int)<(((bs l).size:Nat):Int) by rw[bs_size];omega)];rfl
 | true=>
  have hl:=qn hb;have d0:decide ((20000:Int)<(((bs l).size:Nat):Int))=false:=qm (by rw[bs_size];omega)
  cases l with
  | nil=>exact⟨0,rfl⟩
  | cons c l=>
   obtain⟨n,q⟩:=parse_run (c::l) hl (c::l) [] 0 0 0 rfl (by simp) (by omega) (by decide) (by decide) (fun _=>rfl)
   refine⟨n,?_⟩
   have de:decide (bs (c::l)=ByteArray.mk (List.toArray []))=false:=by rw[mk_bs,bs_dec];exact qm (by simp)
   unfold nParse;rw[d0,qh,de,qh,bs_size];refine obs q ?_
   cases h:List.all (c::l) isD <;> rfl
end
end Su
end
section
namespace Su
open Go Fly
noncomputable section
def nText_l2:Stp ((List Int)×Nat×Int×Int×(List T)×Unit):=fun p3=>(bif(decide (p3.2.2.2.1<9))then
 (bif((true&&(Nat.beq p3.2.1 p3.2.2.2.2.1.length))&&(Nat.ble (p3.2.2.2.2.1.length+(List.length [(T.s (.int .u8 (IntKind.wrap .u8 (IntKind.wrap .u64 (48+(Int.tmod p3.2.2.1 10))))))])) 549755813888))then
 some (.inl (p3.1,(List.length (p3.2.2.2.2.1++[(T.s (.int .u8 (IntKind.wrap .u8 (IntKind.wrap .u64 (48+(Int.tmod p3.2.2.1 10))))))])),(IntKind.wrap .u64 (Int.tdiv p3.2.2.1 10)),(IntKind.wrap .i64 (p3.2.2.2.1+1)),(p3.2.2.2.2.1++[(T.s (.int .u8 (IntKind.wrap .u8 (IntKind.wrap .u64 (48+(Int.tmod p3.2.2.1 10))))))]),()))
 else none)
 else
  some (.inr (p3.1,p3.2.1,p3.2.2.1,p3.2.2.2.1,p3.2.2.2.2.1,())))
def nText_l1(fu:Nat):Stp ((List Int)×Nat×(List T)×Unit):=fun p0=>(bif(decide (0<(List.length p0.1:Int)))then
 (Short_s (p0.1,(1000000000:Int))).bind fun x1=>
 (At x1.2 0).bind fun x2=>
 (itP fu (nText_l2) (x1.1,p0.2.1,x2,(0:Int),p0.2.2.1,())).bind fun x4=>
 some (.inl (x4.1,x4.2.1,x4.2.2.2.2.1,()))
 else
  some (.inr (p0.1,p0.2.1,p0.2.2.1,())))
def nText_l3:Stp ((List Int)×Nat×(List T)×Unit):=fun p6=>(bif(decide (0<(p6.2.1:Int)))then
 (bif((true&&(decide (0≤(IntKind.wrap .i64 ((p6.2.1:Int)-1)))))&&(decide ((IntKind.wrap .i64 ((p6.2.1:Int)-1))<(p6.2.1:Int))))then
 ((p6.2.2.1)[(0+(Int.toNat (IntKind.wrap .i64 ((p6.2.1:Int)-1))))]?).bind fun x7=>
 (ldT x7 0 false 1).bind fun x8=>
 (asI .u8 (.t x8)).bind fun x9=>
 (bif(decide (x9=48))then
 (bif((true&&(decide (0≤(IntKind.wrap .i64 ((p6.2.1:Int)-1)))))&&(decide ((IntKind.wrap .i64 ((p6.2.1:Int)-1))≤(p6.2.1:Int))))then
 some (.inl (p6.1,(Int.toNat ((IntKind.wrap .i64 ((p6.2.1:Int)-1))-0)),p6.2.2.1,()))
 else none)
 else
  some (.inr (p6.1,p6.2.1,p6.2.2.1,())))
 else none)
 else
  some (.inr (p6.1,p6.2.1,p6.2.2.1,())))
def nText_l4:Stp (Nat×Int×Int×(List T)×Unit):=fun p11=>(bif(decide (p11.2.1<p11.2.2.1))then
 (bif((true&&(decide (0≤p11.2.2.1)))&&(decide (p11.2.2.1<(p11.1:Int))))then
 ((p11.2.2.2.1)[(0+p11.2.2.1.toNat)]?).bind fun x12=>
 (ldT x12 0 false 1).bind fun x13=>
 (asI .u8 (.t x13)).bind fun x14=>
 (bif((true&&(decide (0≤p11.2.1)))&&(decide (p11.2.1<(p11.1:Int))))then
 ((p11.2.2.2.1)[(0+p11.2.1.toNat)]?).bind fun x15=>
 (ldT x15 0 false 1).bind fun x16=>
 (asI .u8 (.t x16)).bind fun x17=>
 (bif((true&&(decide (0≤p11.2.1)))&&(decide (p11.2.1<(p11.1:Int))))then
 (bif((true&&(decide (0≤p11.2.2.1)))&&(decide (p11.2.2.1<(p11.1:Int))))then
 ((p11.2.2.2.1)[(0+p11.2.1.toNat)]?).bind fun x18=>
 (asI .u8 (.t x18)).bind fun x19=>
 ((List.set p11.2.2.2.1 (0+p11.2.1.toNat) (T.s (.int .u8 x14)))[(0+p11.2.2.1.toNat)]?).bind fun x20=>
 (asI .u8 (.t x20)).bind fun x21=>
 some (.inl (p11.1,(IntKind.wrap .i64 (p11.2.1+1)),(IntKind.wrap .i64 (p11.2.2.1-1)),(List.set (List.set p11.2.2.2.1 (0+p11.2.1.toNat) (T.s (.int .u8 x14))) (0+p11.2.2.1.toNat) (T.s (.int .u8 x17))),()))
 else none)
 else none)
 else none)
 else none)
 else
  some (.inr (p11.1,p11.2.1,p11.2.2.1,p11.2.2.2.1,())))
def nText  (fu:Nat)(a:(List Int)):Option ByteArray :=
 (itP fu (nText_l1 fu) ((ofN (valN a)),0,[],())).bind fun x5=>
 (itP fu (nText_l3) (x5.1,x5.2.1,x5.2.2.1,())).bind fun x10=>
 (bif(decide ((x10.2.1:Int)=0))then
 some (ByteArray.mk (List.toArray [48]))
 else
  (itP fu (nText_l4) (x10.2.1,(0:Int),(IntKind.wrap .i64 ((x10.2.1:Int)-1)),x10.2.2.1,())).bind fun x22=>
  (Su.sub x22.2.2.2.1 0 x10.2.1).bind fun x23=>
  (asBys x23).bind fun x24=>
  (bif(Nat.ble x24.length 549755813888)then
  some (byI x24)
 else none))
def eb(c:UInt8):T:=T.s (.int .u8 ((c.toNat:Nat):Int))
theorem eb_as(c:UInt8):asI .u8 (.t (eb c))=some ((c.toNat:Nat):Int):=by simp[asI,eb]
theorem eb_ld(c:UInt8):ldT (eb c) 0 false 1=some (eb c):=rfl
theorem eb_bys:∀l:List UInt8,asBys (l.map eb)=some (l.map fun c=>((c.toNat:Nat):Int))
 | []=>rfl
 | c::l=>by
  simp only[j4,asBys,eb_as,qf,eb_bys l]
theorem eb_byI(l:List UInt8):byI (l.map fun c=>((c.toNat:Nat):Int))=bs l:=by
 rw[byI_bs,List.map_map]
 congr 1
 conv=>rhs;rw[← List.map_id l]
 apply List.map_congr_left
 intro c _;show UInt8.ofNat (Int.toNat ((c.toNat:Nat):Int))=c
 rw[qb,qr]
def le:Nat→Nat→List UInt8
 | 0,_=>[]
 | k+1,n=>UInt8.ofNat (48+n % 10)::le k (n / 10)
theorem le_len:∀k n,(le k n).length=k
 | 0,_=>rfl
 | k+1,n=>by unfold le;rw[qy,le_len k]
theorem le_s(k n:Nat):le (k+1) n=UInt8.ofNat (48+n % 10)::le k (n / 10):=rfl
theorem le_app:∀(j k n:Nat),le (j+k) n=le j n++le k (n / 10^j)
 | 0,k,n=>by simp[le]
 | j+1,k,n=>by
  rw[show j+1+k=j+k+1 by omega,le_s,le_s,le_app j k (n / 10),jb,qQ,qA 10];rfl
theorem trimR_nil(c:UInt8):trimR c []=[]:=rfl
theorem trimR_cons(c x:UInt8):∀(l:List UInt8),trimR c (x::l)=if trimR c l=[]then(if x == c then[]else[x])else x::trimR c l:=by
 intro l;obtain⟨r,hr⟩:∃r,r=l.length:=⟨_,rfl⟩
 induction r generalizing l with
 | zero=>
  have:l=[]:=jt.1 hr.symm
  subst this;have:=trimR_snoc c x []
  rw[jp]at this;rw[this,trimR_nil,qU rfl];cases x == c <;> rfl
 | succ r ih=>
  rcases yU l with h0 | ⟨A,y,h0⟩
  · rw[h0]at hr;cases hr
  · rw[yV]at h0
    subst h0;rw[← jX,trimR_snoc,trimR_snoc];cases hy:y == c with
    | true=>rw[qe,qe];exact ih A (by simp at hr;omega)
    | false=>rw[qh,qh,qM (by simp)];rfl
theorem trim_zero:∀k,trimR 48 (le k 0)=[]
 | 0=>rfl
 | k+1=>by
  unfold le;rw[trimR_cons,trim_zero k,qU rfl];rfl
theorem d48{n:Nat}(h0:n≠0)(h:n<10):(UInt8.ofNat (48+n % 10) == 48)=false:=by
 have:(UInt8.ofNat (48+n % 10)).toNat=48+n % 10:=dig_nat (by omega)
 have ne:UInt8.ofNat (48+n % 10)≠48:=fun e=>by
  rw[e]at this;have e48:(48:UInt8).toNat=48:=rfl
  omega
 simpa using ne
theorem trim_le:∀(k n:Nat),n≠0→n<10^k→(trimR 48 (le k n)).reverse=dg n
 | 0,n,h0,h=>by rw[jL]at h;omega
 | k+1,n,h0,h=>by
  unfold le;rw[trimR_cons];by_cases h1:n<10
  · rw[show n / 10=0 by omega,trim_zero,qU rfl,d48 h0 h1,dg_lt h1,show n % 10=n by omega];rfl
  · have ih:=trim_le k (n / 10) (by omega) (by rw[qQ]at h;omega)
    have hne:trimR 48 (le k (n / 10))≠[]:=fun e=>by
     rw[e]at ih;exact dg_ne _ ih.symm
    rw[qM hne,List.reverse_cons,ih,← dg_ge (by omega)]
theorem le_mod:∀(k n:Nat),le k (n % 10^k)=le k n
 | 0,_=>rfl
 | k+1,n=>by
  have e1:n % 10^(k+1) % 10=n % 10:=by
   rw[qQ];exact Nat.mod_mul_left_mod ..
  have e2:n % 10^(k+1) / 10=n / 10 % 10^k:=by
   rw[qQ,qA];exact Nat.mod_mul_right_div_self ..
  rw[le_s,le_s,e1,e2,le_mod k (n / 10)]
theorem it_mono{α β:Type}{f:α→Option (α ⊕ β)}:∀ {n:Nat} {s:α} {y:β},itP n f s=some y→∀ {m:Nat},n≤m→itP m f s=some y
 | 0,s,y,h,m,_=>by cases h
 | n+1,s,y,h,m,hm=>by
  obtain⟨m',rfl⟩:∃m',m=m'+1:=⟨m-1,by omega⟩
  rw[itP_s]at h ⊢;cases hf:f s with
  | none=>rw[hf]at h;cases h
  | some r=>
   rw[hf]at h;cases r with
   | inl s'=>exact it_mono (n:=n) h (by omega)
   | inr r=>exact h
theorem trimR_pre(c:UInt8)(l:List UInt8):∃Y,l=trimR c l++Y:=by
 refine⟨(l.reverse.takeWhile (· == c)).reverse,?_⟩
 unfold trimR;rw[← List.reverse_append,List.takeWhile_append_dropWhile,List.reverse_reverse]
theorem tx_in(q:List Int):∀(d i x:Nat) (R:List UInt8),i+d=9→x<18446744073709551616→R.length+d≤500000 →
 ∃y:Int,∀m,d+1≤m→itP m nText_l2 (q,R.length,((x:Nat):Int),(i:Int),R.map eb,())=some (q,(R++le d x).length,y,(9:Int),(R++le d x).map eb,())
 | 0,i,x,R,hi,_,_=>by
  have:i=9:=by omega
  subst this;refine⟨((x:Nat):Int),fun m hm=>?_⟩
  obtain⟨m',rfl⟩:∃m',m=m'+1:=⟨m-1,by omega⟩
  rw[itP_s];have d0:decide (((9:Nat):Int)<9)=false:=by decide
  simp only[nText_l2,d0,qh,le,jw];rfl
 | d+1,i,x,R,hi,hx,hR=>by
  have d0:decide ((i:Int)<9)=true:=qc (by omega)
  have w1:IntKind.u64.wrap (48+((x % 10:Nat):Int))=((48+x % 10:Nat):Int):=by rw[wu64 (n:=48+((x % 10:Nat):Int)) (by omega) (by omega)];omega
  have w2:IntKind.u8.wrap ((48+x % 10:Nat):Int)=(((UInt8.ofNat (48+x % 10)).toNat:Nat):Int):=by
   rw[dig_nat (by omega)];exact wrap_id (by unfold inR;simp;exact⟨by show(0:Int)≤_;omega,by show _≤(255:Int);omega⟩)
  have w3:IntKind.u64.wrap ((x / 10:Nat):Int)=((x / 10:Nat):Int):=wu64 (by omega) (by omega)
  have w4:IntKind.i64.wrap ((i:Int)+1)=((i+1:Nat):Int):=by rw[w64 (n:=(i:Int)+1) (by omega) (by omega)];omega
  have em:R.map eb++[T.s (.int .u8 (((UInt8.ofNat (48+x % 10)).toNat:Nat):Int))]=(R++[UInt8.ofNat (48+x % 10)]).map eb:=by rw[jr];rfl
  have lm:(R.map eb).length=R.length:=qD ..
  have lm2:((R++[UInt8.ofNat (48+x % 10)]).map eb).length=(R++[UInt8.ofNat (48+x % 10)]).length:=qD ..
  have hb:Nat.ble (R.length+1) 549755813888=true:=qo (by omega)
  have hq:=yg R.length;obtain⟨y,h⟩:=tx_in q d (i+1) (x / 10) (R++[UInt8.ofNat (48+x % 10)]) (by omega) (by omega) (by simp;omega)
  refine⟨y,fun m hm=>?_⟩
  obtain⟨m',rfl⟩:∃m',m=m'+1:=⟨m-1,by omega⟩
  have h:=h m' (by omega)
  rw[itP_s];have ea:R++le (d+1) x=R++[UInt8.ofNat (48+x % 10)]++le d (x / 10):=by rw[qO];rfl
  rw[ea];simp only[nText_l2,d0,tmN,tdN,w1,w2,w3,w4,em,lm,lm2,yx,hq,hb,j7,qY,qe];exact h
theorem At_0{r:Nat}(h:r<4294967296):At (ofN r) 0=some (r:Int):=by
 have hw:=Wd_ofN r;have a0:=At_eq' hw 0
 obtain⟨p1,p2⟩:=nth_wd hw 0
 have v0:=valN_head (ofN r) 0
 rw[jA,valN_ofN]at v0;have:nth (ofN r) 0=(r:Int):=by omega
 rw[this]at a0;exact a0
theorem ofN_pos{V:Nat}(h:V≠0):0<(ofN V).length:=by rw[ofN_step h];simp
theorem tx_out:∀(k V:Nat) (R:List UInt8),V<10^(9*k)→R.length+9*k≤400000 →
 ∃g,g≤k∧V<10^(9*g)∧∀fu m,10≤fu→k+1≤m→itP m (nText_l1 fu) (ofN V,R.length,R.map eb,())=some (ofN 0,(R++le (9*g) V).length,(R++le (9*g) V).map eb,())
 | k,V,R,hV,hR=>by
  by_cases h0:V=0
  · subst h0
    refine⟨0,by omega,by decide,fun fu m _ hm=>?_⟩
    obtain⟨m',rfl⟩:∃m',m=m'+1:=⟨m-1,by omega⟩
    rw[itP_s];have d0:decide ((0:Int)<(((ofN 0).length:Nat):Int))=false:=by decide
    simp only[nText_l1,d0,qh,yh,le,jw];rfl
  · cases k with
    | zero=>rw[yh,jL]at hV;omega
    | succ k=>
     have e9:10^(9*(k+1))=10^(9*k)*10^9:=by rw[← qH];rfl
     have hq:V / 10^9<10^(9*k):=yI (by rw[qA,← e9];exact hV)
     obtain⟨g,g1,g2,g3⟩:=tx_out k (V / 10^9) (R++le 9 (V % 10^9)) hq (by rw[qq,le_len];omega)
     obtain⟨y,hin⟩:=tx_in (ofN (V / 10^9)) 9 0 (V % 10^9) R rfl (by have:=jM V (show 0<10^9 by decide);omega) (by omega)
     have eg:le (9*(g+1)) V=le 9 (V % 10^9)++le (9*g) (V / 10^9):=by
      rw[show 9*(g+1)=9+9*g by omega,le_app,le_mod]
     refine⟨g+1,by omega,?_,fun fu m hf hm=>?_⟩
     · have e9:10^(9*(g+1))=10^(9*g)*10^9:=by rw[← qH];rfl
       rw[e9];exact(ju (by decide)).1 g2
     · obtain⟨m',rfl⟩:∃m',m=m'+1:=⟨m-1,by omega⟩
       have h3:=g3 fu m' hf (by omega)
       have h4:=hin fu (by omega)
       have d0:decide ((0:Int)<(((ofN V).length:Nat):Int))=true:=qc (by have:=ofN_pos h0;omega)
       have hb:=blen_lt10 hV;have hl:=len_b V;have sh:Short_s (ofN V,(1000000000:Int))=some (ofN (V / 10^9),ofN (V % 10^9)):=by
        unfold Short_s lenN;simp only[valN_ofN];rw[qo (by omega)];rfl
       have a0:=At_0 (r:=V % 10^9) (by have:=jM V (show 0<10^9 by decide);omega)
       have h4':itP fu nText_l2 (ofN (V / 10^9),R.length,((V % 10^9:Nat):Int),(0:Int),R.map eb,())=_:=h4
       rw[itP_s,eg,← qO];simp only[nText_l1,d0,sh,a0,h4',qf,qe];exact h3
theorem tx_tr(q:List Int)(X:List UInt8):∀(k:Nat) (Q:List UInt8) (Y:List UInt8),Q.length=k→k≤500000 →
 ∃n,itP n nText_l3 (q,Q.length,(Q++Y).map eb,())=some (q,(trimR 48 Q).length,(Q++Y).map eb,())
 | 0,Q,Y,h,_=>by
  have:Q=[]:=jt.1 h
  subst this;exact⟨1,rfl⟩
 | k+1,Q,Y,h,hk=>by
  rcases yU Q with h0 | ⟨A,x,h0⟩
  · rw[h0]at h;cases h
  · rw[yV]at h0
    subst h0;have hA:A.length=k:=by simpa using h
    have hw:IntKind.i64.wrap ((((A++[x]).length:Nat):Int)-1)=((k:Nat):Int):=by rw[h,w64 (by omega) (by omega)];omega
    have d0:decide ((0:Int)<(((A++[x]).length:Nat):Int))=true:=qc (by omega)
    have d1:decide ((0:Int)≤((k:Nat):Int))=true:=qc (by omega)
    have d2:decide (((k:Nat):Int)<(((A++[x]).length:Nat):Int))=true:=qc (by omega)
    have d3:decide (((k:Nat):Int)≤(((A++[x]).length:Nat):Int))=true:=qc (by omega)
    have g:((A++[x]++Y).map eb)[0+Int.toNat ((k:Nat):Int)]?=some (eb x):=by
     rw[qF,qb,jh,qO,qP (by omega),hA,yF];rfl
    have e48:decide (((x.toNat:Nat):Int)=48)=(x == 48):=u8_eq x 48
    have ek:Int.toNat (((k:Nat):Int)-0)=A.length:=by omega
    cases hx:x == 48 with
    | true=>
     obtain⟨n,h2⟩:=tx_tr q X k A ([x]++Y) hA (by omega)
     rw[hx]at e48;refine⟨n+1,?_⟩
     rw[itP_s,trimR_snoc,hx,qe,qO];rw[qO]at g;simp only[nText_l3,hw,d0,d1,d2,d3,g,eb_ld,eb_as,e48,ek,j7,qY,qe,qf];exact h2
    | false=>
     rw[hx]at e48;refine⟨1,?_⟩
     rw[itP_s,trimR_snoc,hx,qh];simp only[nText_l3,hw,d0,d1,d2,g,eb_ld,eb_as,e48,j7,qY,qe,qh,qf]
theorem tx_rev(Q:List UInt8)(hQ:Q.length≤500000)(N:Nat)(hN:Q.length≤N):∀(d i j:Nat) (Z:List UInt8),i+j+1=Q.length→j+1-i≤d→Z.length=N→(∀k,k<Q.length→Z[k]?=if k<i∨j<k then Q[Q.length-1-k]? else Q[k]?) →
 ∃(n:Nat) (a b:Int) (Z':List UInt8),itP n nText_l4 (Q.length,(i:Int),(j:Int),Z.map eb,())=some (Q.length,a,b,Z'.map eb,())∧Z'.length=N∧∀k,k<Q.length→Z'[k]?=Q[Q.length-1-k]?
 | d,i,j,Z,hij,hd,hZ,hI=>by
  by_cases hlt:i<j
  · cases d with
    | zero=>omega
    | succ d=>
     have zi:∃x,Z[i]?=some x:=⟨Z[i]'(by omega),qu _⟩
     have zj:∃y,Z[j]?=some y:=⟨Z[j]'(by omega),qu _⟩
     obtain⟨x,hx⟩:=zi;obtain⟨y,hy⟩:=zj;have d0:decide ((i:Int)<(j:Int))=true:=qc (by omega)
     have d1:decide ((0:Int)≤(j:Int))=true:=qc (by omega)
     have d2:decide ((j:Int)<((Q.length:Nat):Int))=true:=qc (by omega)
     have d3:decide ((0:Int)≤(i:Int))=true:=qc (by omega)
     have d4:decide ((i:Int)<((Q.length:Nat):Int))=true:=qc (by omega)
     have gi:(Z.map eb)[0+Int.toNat (i:Int)]?=some (eb x):=by rw[qF,qb,jh,hx];rfl
     have gj:(Z.map eb)[0+Int.toNat (j:Int)]?=some (eb y):=by rw[qF,qb,jh,hy];rfl
     have es:List.set (Z.map eb) (0+Int.toNat (i:Int)) (T.s (.int .u8 ((y.toNat:Nat):Int)))=(Z.set i y).map eb:=by rw[qF,qb,zd];rfl
     have gj2:((Z.set i y).map eb)[0+Int.toNat (j:Int)]?=some (eb y):=by rw[qF,qb,jh,qS (by omega),hy];rfl
     have es2:List.set ((Z.set i y).map eb) (0+Int.toNat (j:Int)) (T.s (.int .u8 ((x.toNat:Nat):Int)))=((Z.set i y).set j x).map eb:=by rw[qF,qb];exact(zd ..).symm
     have w1:IntKind.i64.wrap ((i:Int)+1)=((i+1:Nat):Int):=by rw[w64 (n:=(i:Int)+1) (by omega) (by omega)];omega
     have w2:IntKind.i64.wrap ((j:Int)-1)=((j-1:Nat):Int):=by rw[w64 (n:=(j:Int)-1) (by omega) (by omega)];omega
     have qi:Z[i]?=Q[i]?:=by rw[hI i (by omega),qM (by omega)]
     have qj:Z[j]?=Q[j]?:=by rw[hI j (by omega),qM (by omega)]
     obtain⟨n,a,b,Z',h1,h2,h3⟩:=tx_rev Q hQ N hN d (i+1) (j-1) ((Z.set i y).set j x) (by omega) (by omega) (by simp[hZ]) (fun k hk=>by
      by_cases k1:k=j
      · subst k1
        rw[yc (by simp;omega),qU (by omega),← hx,qi]
        congr 1;omega
      · rw[qS (by omega)]
        by_cases k2:k=i
        · subst k2
          rw[yc (by omega),qU (by omega),← hy,qj]
          congr 1;omega
        · rw[qS (by omega),hI k hk]
          by_cases k3:k<i∨j<k
          · rw[qU k3,qU (by omega)]
          · rw[qM k3,qM (by omega)])
     refine⟨n+1,a,b,Z',?_,h2,h3⟩
     rw[itP_s];simp only[nText_l4,d0,d1,d2,d3,d4,gi,gj,gj2,es,es2,eb_ld,eb_as,w1,w2,j7,qY,qe,qf];exact h1
  · have d0:decide ((i:Int)<(j:Int))=false:=qm (by omega)
    refine⟨1,(i:Int),(j:Int),Z,?_,hZ,fun k hk=>?_⟩
    · rw[itP_s]
      simp only[nText_l4,d0,qh];rfl
    · rw[hI k hk]
      by_cases k3:k<i∨j<k
      · rw[qU k3]
      · rw[qM k3];congr 1;omega
theorem take_rev{Q Z:List UInt8}(h:Q.length≤Z.length)(hk:∀k,k<Q.length→Z[k]?=Q[Q.length-1-k]?):Z.take Q.length=Q.reverse:=by
 refine List.ext_getElem? fun k=>?_
 by_cases hlt:k<Q.length
 · rw[List.getElem?_take_of_lt hlt,hk k hlt,List.getElem?_reverse hlt]
 · rw[ja (by simp;omega),ja (by simp;omega)]
def nText_s(a:List Int):Option ByteArray:=bif Nat.ble (blen (valN a)) 40000 then some (bs (dg (valN a)))else none
theorem nText_ok(a:List Int)(y:ByteArray)(hg:(d1 (cQ 1 1)).good a)(h:nText_s a=some y):∃n,nText n a=some y:=by
 obtain⟨h1,h2⟩:=bif_some h;have:=soi h2;subst this
 have hb:=qn h1;generalize hV:valN a=V at *
 obtain⟨k,hk⟩:∃k,k=blen V / 29+1:=⟨_,rfl⟩
 have hVk:V<10^(9*k):=by
  refine jg (blen_lt V) ?_
  refine je (qT (by omega) (show blen V≤29*k by omega)) ?_
  rw[Nat.pow_mul,Nat.pow_mul];exact Nat.pow_le_pow_left (by decide) k
 obtain⟨g,g1,g2,g3⟩:=tx_out k V [] hVk (by simp;omega)
 rw[jp]at g3;have hll:=le_len (9*g) V
 obtain⟨n3,h3⟩:=tx_tr (ofN 0) [] (9*g) (le (9*g) V) [] hll (by omega)
 rw[jw]at h3;have trl:(trimR 48 (le (9*g) V)).length≤(le (9*g) V).length:=by
  unfold trimR;rw[y7];refine je (List.Sublist.length_le (yq _)) ?_
  rw[y7];exact qB _
 by_cases h0:V=0
 · subst h0
   rw[trim_zero]at h3;refine⟨max 10 (max (k+1) n3),?_⟩
   unfold nText;rw[hV];refine obs (g3 _ _ (by omega) (by omega)) ?_
   refine obs (it_mono h3 (by omega)) ?_
   rfl
 · have ht:=trim_le (9*g) V h0 g2
   generalize hQ:trimR 48 (le (9*g) V)=Q at *
   have hQ0:0<Q.length:=by
    rw[← y7,ht];exact List.length_pos_iff.2 (dg_ne V)
   have hpre:∀k,k<Q.length→(le (9*g) V)[k]?=Q[k]?:=fun k hk=>by
    obtain⟨Y,hY⟩:=trimR_pre 48 (le (9*g) V)
    rw[hQ]at hY;rw[hY,q9 hk]
   obtain⟨n4,a4,b4,Z',h4,h5,h6⟩:=tx_rev Q (by omega) (le (9*g) V).length (by omega) (Q.length) 0 (Q.length-1) (le (9*g) V) (by omega) (by omega) rfl (fun k hk=>by
    rw[qM (by omega)];exact hpre k hk)
   refine⟨max 10 (max (k+1) (max n3 n4)),?_⟩
   unfold nText;rw[hV];refine obs (g3 _ _ (by omega) (by omega)) ?_
   refine obs (it_mono h3 (by omega)) ?_
   have w1:IntKind.i64.wrap (((Q.length:Nat):Int)-1)=((Q.length-1:Nat):Int):=by rw[w64 (n:=((Q.length:Nat):Int)-1) (by omega) (by omega)];omega
   simp only[];rw[qm (show¬((Q.length:Nat):Int)=0 by omega),qh,w1];refine obs (it_mono h4 (by omega)) ?_
   have hs:Su.sub (Z'.map eb) 0 Q.length=some (Q.reverse.map eb):=by
    unfold Su.sub;rw[qo (by simp;omega),qe,jA,← List.map_take,take_rev (by omega) h6]
   refine obs hs (obs (eb_bys _) ?_)
   rw[qo (by simp;omega),qe,eb_byI,ht]
end
end Su
end
section
namespace Su
open Go Fly
def cK(b:ByteArray):Cod Unit where
 enc _:=.s (.string b)
 dec x:=(asS (.t x)).bind fun s=>bif decide (s=b)then some ()else none
 good _:=True
 rep {x a} h V v hr:=by
  obtain⟨s,h1,h2⟩:=osm h;have:=asS_t h1
  simp only[SV.t.injEq]at this;subst this;obtain⟨h3,_⟩:=bif_some h2;have:=ym h3;subst this
  exact hr
 de _:=by show(bif decide (b=b)then some ()else none)=_;rw[qc rfl];rfl
 rng _:=trivial
end Su
end
section
namespace Su
open Go Fly
noncomputable section
def tRep_s(p:Unit×Int):Option ByteArray:=bif decide (0≤p.2)&&decide (p.2≤40)then some (bs (zs p.2.toNat))else none
end
end Su
end
section
namespace Su
open Go Fly
noncomputable section
def dTen  (n:Int):Option (List Int) :=
 (nPow_s ((10:Int),n)).bind fun x0=>
 some x0.1
def dTr  (d:ByteArray)(q:Int):Option (ByteArray×Int) :=
 (bif(decide (d=(ByteArray.mk (List.toArray []))))then
 some (d,(IntKind.wrap .i64 ((IntKind.wrap .i64 (q+(ByteArray.size d:Int)))-(ByteArray.size d:Int))))
 else
  (tRB_s (d,((48:Nat):Int))).bind fun x0=>
  some (x0,(IntKind.wrap .i64 ((IntKind.wrap .i64 (q+(ByteArray.size d:Int)))-(ByteArray.size x0:Int)))))
def dTen_s(n:Int):Option (List Int):=bif decide (n≤10000)then some (ofN (10^n.toNat))else none
theorem dTen_ok(n:Int)(y:List Int)(hg:(d1 (cI .i64)).good n)(h:dTen_s n=some y):dTen n=some y:=by
 obtain⟨h1,h2⟩:=bif_some h;have:=soi h2;subst this
 unfold dTen nPow_s;simp only[h1,zD,qY,qe,qf]
def dTr_s(p:ByteArray×Int):Option (ByteArray×Int):=bif Nat.ble (lb p.1).length 1000000&&(decide (-1000000≤p.2)&&decide (p.2≤1000000))then some (bs (trimR 48 (lb p.1)),p.2+((lb p.1).length:Int)-((trimR 48 (lb p.1)).length:Int))else none
theorem trimR_len(c:UInt8)(l:List UInt8):(trimR c l).length≤l.length:=by
 unfold trimR;rw[y7];refine je (List.Sublist.length_le (yq _)) ?_
 rw[y7];exact qB _
theorem dTr_ok(p:ByteArray×Int)(y:ByteArray×Int)(hg:(dc cS (d1 (cI .i64))).good p)(h:dTr_s p=some y):dTr p.1 p.2=some y:=by
 obtain⟨d,q⟩:=p;revert h;refine onB (P:=fun d=>dTr_s (d,q)=some y→dTr d q=some y) (fun l h=>?_) d
 obtain⟨h1,h2⟩:=bif_some h;have:=soi h2;subst this
 simp only[lb_bs,qk,qE]at h1 ⊢;have hl:=qn h1.1;have ht:=trimR_len 48 l
 unfold dTr;rw[mk_bs,bs_dec];have w1:IntKind.i64.wrap (q+((l.length:Nat):Int))=q+((l.length:Nat):Int):=w64 (by omega) (by omega)
 by_cases h0:l=[]
 · subst h0
   rw[qc rfl,qe,bs_size,w1,w64 (by omega) (by omega)];rfl
 · rw[qm h0,qh]
   have r:tRB_s (bs l,48)=some (bs (trimR 48 l)):=by
    unfold tRB_s;simp only[lb_bs];rw[qo (by omega)];rfl
   refine obs r ?_
   rw[bs_size,bs_size,w1,w64 (by omega) (by omega)]
end
end Su
end
