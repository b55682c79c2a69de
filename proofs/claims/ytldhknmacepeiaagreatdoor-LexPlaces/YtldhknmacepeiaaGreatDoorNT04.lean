/-
  What functions of the program compute, in plain Lean, and that the evaluator finds it.
-/
import Derived.Test.YtldhknmacepeiaaGreatDoorSuXl
import Derived.Test.YtldhknmacepeiaaGreatDoorNC10
import Derived.Test.YtldhknmacepeiaaGreatDoorSuSd
set_option linter.unusedVariables false
set_option linter.unusedSimpArgs false
set_option maxRecDepth 10000
section
namespace Su
open Go Fly
noncomputable section
def qaQ(neg:Bool)(mode:Int) :=
 fun x5001 x5002=>
 bif(decide (0<(IntKind.wrap .i64 (63-(IntKind.wrap .i64 (x5001-x5002))))))then
 some ((((RN neg mode (jB ((0:Int),(9223372036854775808:Int))) (Int.toNat ((-5000)+6000)) true):Nat):Int),(flN neg mode (jB ((0:Int),(9223372036854775808:Int))) (Int.toNat ((-5000)+6000)) true (decide (((((qm (jB ((0:Int),(9223372036854775808:Int)))):Nat):Int)+(-5000))≤(-1022)))))
 else
  some ((((RN neg mode (jB ((0:Int),(9223372036854775808:Int))) (Int.toNat (5000+6000)) true):Nat):Int),(flN neg mode (jB ((0:Int),(9223372036854775808:Int))) (Int.toNat (5000+6000)) true (decide (((((qm (jB ((0:Int),(9223372036854775808:Int)))):Nat):Int)+5000)≤(-1022)))))
def qkK  (neg:Bool)(num:(List Int))(den:(List Int))(mode:Int):Option (Int×Int) :=
 (Len num).bind fun x0=>
 (bif(decide (x0=0))then
 some ((0:Int),(0:Int))
 else
  (Len den).bind fun x1=>
  (bif(decide (x1=0))then
  some ((0:Int),(0:Int))
 else
  (Len num).bind fun x2=>
  (Len den).bind fun x3=>
  (bif(decide ((IntKind.wrap .i64 (63-(IntKind.wrap .i64 (x2-x3))))<(-5000)))then
  (qaQ neg mode x2 x3)
 else
  (bif(decide (5000<(IntKind.wrap .i64 (63-(IntKind.wrap .i64 (x2-x3))))))then
  (qaQ neg mode x2 x3)
 else
  (YZ (IntKind.wrap .i64 (63-(IntKind.wrap .i64 (x2-x3))))).bind fun x4=>
  (ye (num,x4)).bind fun x5=>
  (YZ (IntKind.wrap .i64 (0-(IntKind.wrap .i64 (63-(IntKind.wrap .i64 (x2-x3))))))).bind fun x6=>
  (ye (den,x6)).bind fun x7=>
  (qb7 (x5,x7)).bind fun x8=>
  (qsv x8.1).bind fun x9=>
  (Len x8.2.1).bind fun x10=>
  (YW ((neg,(0:Int),x9.1,(IntKind.wrap .i64 (0-(IntKind.wrap .i64 (63-(IntKind.wrap .i64 (x2-x3)))))),(decide (0<x10))),mode)).bind fun x11=>
  some x11))))
theorem qv5{M:Nat}(h:M<18446744073709551616):qsv (ofN M)=some ((M:Int),true):=by
 have hb:qm M≤64:=yp.2 h
 have hw:=qdF M;have a0:=Qq hw 0
 have a1:=Qq hw 1
 obtain⟨p1,p2⟩:=j7 hw 0
 obtain⟨p3,p4⟩:=j7 hw 1
 have v0:=JV (ofN M) 0
 have v1:=JV (ofN M) 1
 rw[Kh,valN_ofN]at v0;simp only[zD,Nat.reduceAdd]at v0 v1;obtain⟨X,hX⟩:=z8 p1;obtain⟨Y,hY⟩:=z8 p3;rw[hX]at a0 p2 v0;rw[hY]at a1 p4 v1;rw[zd]at v0 v1;have hz:qc ((ofN M).drop 2)=0:=by omega
 have hM:M=X+Y*2^32:=by omega
 unfold qsv;have d0:decide ((64:Int)<((qm M:Nat):Int))=false:=zk (by omega)
 have a0':At (ofN M) 0=some (X:Int):=a0
 have a1':At (ofN M) 1=some (Y:Int):=a1
 have w1:IntKind.u64.wrap ((Y:Int)*(2^32))=((Y*2^32:Nat):Int):=by
  rw[jR (by omega) (by omega)];omega
 rw[qhT (by omega),zh,d0,zm,a0',zh,a1',zh,w1,Zr _ _ (by omega) (by omega),qdJ (by omega),← hM]
def jL(N D:Nat):Int:=((qm N:Nat):Int)-((qm D:Nat):Int)-63
def qb9(N D:Nat):Nat:=N*2^(-jL N D).toNat
def qaR(N D:Nat):Nat:=D*2^(jL N D).toNat
def JX(N D:Nat):Nat:=qb9 N D / qaR N D
def qe4(N D:Nat):Bool:=decide (0<((qm (qb9 N D % qaR N D):Nat):Int))
def que:{f:Bool→Int→Nat→Nat→Nat // ∀neg mode N D,f neg mode N D=RN neg mode (JX N D) (jL N D+6000).toNat (qe4 N D)}:=Classical.choice ⟨⟨_,fun _ _ _ _=>rfl⟩⟩
def qca(neg:Bool)(mode:Int)(N D:Nat):Nat:=que.1 neg mode N D
theorem qdN(neg:Bool)(mode:Int)(N D:Nat):qca neg mode N D=RN neg mode (JX N D) (jL N D+6000).toNat (qe4 N D):=que.2 neg mode N D
def qkL(neg:Bool)(mode:Int)(N D:Nat):Int:=flN neg mode (JX N D) (jL N D+6000).toNat (qe4 N D) (decide ((qm (JX N D):Int)+jL N D≤-1022))
theorem qbw{N D:Nat}(hD:D≠0):0<qaR N D:=Nat.mul_pos (Nat.pos_of_ne_zero hD) (Kg _)
theorem qoU{N D:Nat}(hD:D≠0):JX N D<18446744073709551616:=by
 unfold JX;rw[KC (qbw hD)];have h1:=y5 N;have h2:=Zq hD;have h3:=yj hD;unfold qb9 qaR;refine Kt (Vz h1 (Kg _)) ?_
 refine Kx ?_ (Kk _ (zG _ h2))
 rw[← Ks,← Ks,show(18446744073709551616:Nat)=2^64 from rfl,← Ks];refine Kf (by omega) ?_
 unfold jL;omega
theorem qoV{N D:Nat}(hN:N≠0)(hD:D≠0):4611686018427387904≤JX N D:=by
 unfold JX;rw[Wr (qbw hD)];have h1:=Zq hN;have h2:=y5 D;have h3:=yj hN;unfold qb9 qaR;refine Kx ?_ (zG _ h1)
 refine Kx (Kk _ (zG _ (Vt h2))) ?_
 rw[← Ks,← Ks,show(4611686018427387904:Nat)=2^62 from rfl,← Ks];refine Kf (by omega) ?_
 unfold jL;omega
def yN(p:Bool×List Int×List Int×Int):Option (Int×Int) :=
 bif Nat.beq (qc p.2.1) 0||Nat.beq (qc p.2.2.1) 0 then(bif Nat.ble (qm (qc p.2.1)) 100000&&Nat.ble (qm (qc p.2.2.1)) 100000 then some (0,0)else none)else
 bif((Nat.ble p.2.1.length 100000&&Nat.ble p.2.2.1.length 100000)&&(Nat.ble (qm (qc p.2.1)) 40000&&Nat.ble (qm (qc p.2.2.1)) 40000))&&(decide (-4000≤jL (qc p.2.1) (qc p.2.2.1))&&decide (jL (qc p.2.1) (qc p.2.2.1)≤4000))then
  some (((qca p.1 p.2.2.2 (qc p.2.1) (qc p.2.2.1):Nat):Int),qkL p.1 p.2.2.2 (qc p.2.1) (qc p.2.2.1))
 else none
theorem qbx{a b:Nat}(h:a≤b):qm a≤qm b:=yp.2 (K4 h (y5 b))
theorem qkM{a:List Int}(h:qm (qc a)≤100000):Len a=some ((qm (qc a):Nat):Int):=qgg a (by omega)
theorem quf{a:List Int}{v:Nat}(hl:a.length≤1000000)(h2:qm v≤100000):ye (a,ofN v)=some (ofN (qc a*v)):=by
 unfold ye;have l2:=ZK v;simp only[valN_ofN];rw[zr (by omega)];rfl
theorem qoW(p:Bool×List Int×List Int×Int)(y:Int×Int)(hg:(dc cB (dc (cQ 1 1) (dc (cQ 1 1) (d1 (cI .u8))))).good p)(h:yN p=some y):qkK p.1 p.2.1 p.2.2.1 p.2.2.2=some y:=by
 obtain⟨neg,num,den,mode⟩:=p;simp only[];have ln:num.length≤maxLen:=hg.2.1.2
 have ld:den.length≤maxLen:=hg.2.2.1.2
 unfold yN at h;simp only[]at h;generalize hN:qc num=N at *
 generalize hD:qc den=D at *
 cases hz:Nat.beq N 0||Nat.beq D 0 with
 | true=>
  rw[hz,zg]at h;obtain⟨h1,h2⟩:=qh h;have:=soi h2;subst this
  rw[zn]at h1;have b1:=zo h1.1;have b2:=zo h1.2;have L1:=qkM (a:=num) (by rw[hN];exact b1)
  have L2:=qkM (a:=den) (by rw[hD];exact b2)
  rw[hN]at L1;rw[hD]at L2;unfold qkK qaQ;rw[L1,zh];by_cases h0:N=0
  · subst h0;rfl
  · have hd:D=0:=by
     rw[qdB h0,VU]at hz;exact zf hz
    subst hd;have:=yj h0
    rw[zk (show¬((qm N:Nat):Int)=0 by omega),zm,L2];rfl
 | false=>
  rw[hz,zm]at h;obtain⟨h1,h2⟩:=qh h;have:=soi h2;subst this
  simp only[zn,zL]at h1;obtain⟨⟨⟨l1,l2⟩,b1,b2⟩,e1,e2⟩:=h1;have l1:=zo l1;have l2:=zo l2;have b1:=zo b1;have b2:=zo b2;rw[Bool.or_eq_false_iff]at hz;have hN0:N≠0:=fun e=>by rw[e]at hz;exact absurd hz.1 (by decide)
  have hD0:D≠0:=fun e=>by rw[e]at hz;exact absurd hz.2 (by decide)
  have L1:=qkM (a:=num) (by rw[hN];omega)
  have L2:=qkM (a:=den) (by rw[hD];omega)
  rw[hN]at L1;rw[hD]at L2;have p1:=yj hN0;have p2:=yj hD0;have w1:IntKind.i64.wrap (63-IntKind.i64.wrap (((qm N:Nat):Int)-((qm D:Nat):Int))) = -jL N D:=by
   unfold jL;rw[w64 (n:=((qm N:Nat):Int)-((qm D:Nat):Int)) (by omega) (by omega),w64 (by omega) (by omega)];omega
  have w2:IntKind.i64.wrap (0 - -jL N D)=jL N D:=by rw[w64 (by omega) (by omega)];omega
  have e11:qm 1=1:=by decide
  have s1:YZ (-jL N D)=some (ofN (2^(-jL N D).toNat)):=by unfold YZ;rw[za (by omega)];rfl
  have s2:YZ (jL N D)=some (ofN (2^(jL N D).toNat)):=by unfold YZ;rw[za (by omega)];rfl
  have bA:qm (qb9 N D)≤100000:=by
   have:=YX N (2^(-jL N D).toNat)
   rw[Zu]at this;unfold qb9;omega
  have bB:qm (qaR N D)≤100000:=by
   have:=YX D (2^(jL N D).toNat)
   rw[Zu]at this;unfold qaR;omega
  have m1:ye (num,ofN (2^(-jL N D).toNat))=some (ofN (qb9 N D)):=by
   rw[quf (by omega) (by rw[Zu];omega),hN];rfl
  have m2:ye (den,ofN (2^(jL N D).toNat))=some (ofN (qaR N D)):=by
   rw[quf (by omega) (by rw[Zu];omega),hD];rfl
  have hB:=qbw (N:=N) hD0
  have dv:=qx4 bA bB (by omega)
  have u:=qv5 (qoU (N:=N) hD0)
  have hM:=qoV hN0 hD0;have bR:qm (qb9 N D % qaR N D)≤100000:=Kx (qbx (Nat.mod_le _ _)) bA
  have lR:=qhT bR;have d1:decide (((qm N:Nat):Int)=0)=false:=zk (by omega)
  have d2:decide (((qm D:Nat):Int)=0)=false:=zk (by omega)
  have d3:decide (-jL N D < -5000)=false:=zk (by omega)
  have d4:decide ((5000:Int) < -jL N D)=false:=zk (by omega)
  have vw:jB ((0:Int),((JX N D:Nat):Int))=JX N D:=by rw[JW];simp
  have rf:YW ((neg,(0:Int),((JX N D:Nat):Int),jL N D,qe4 N D),mode)=some (((qca neg mode N D:Nat):Int),qkL neg mode N D):=by
   unfold YW;simp only[vw];rw[qdB (by omega),za (show -5000≤jL N D by omega),za (show jL N D≤5000 by omega),qdN];rfl
  unfold qkK qaQ;refine obs L1 ?_
  rw[d1,zm];refine obs L2 ?_
  rw[d2,zm];refine obs L1 (obs L2 ?_)
  rw[w1,d3,zm,d4,zm,w2];exact obs s1 (obs m1 (obs s2 (obs m2 (obs dv (obs u (obs lR (obs rf rfl)))))))
end
end Su
end
section
namespace Su
open Go Fly
noncomputable section
abbrev Y0:=(ByteArray×(List Int)×Int×Int×Int×Int×Unit)
def yO:Y0→Option (Y0 ⊕ (Lp Y0 ((List Int)×Int))):=fun p0=>(bif(decide (p0.2.2.2.2.2.1<p0.2.2.2.2.1))then
 (bif(decide (0≤p0.2.2.2.2.2.1))then
 ((p0.1)[p0.2.2.2.2.2.1.toNat]?).bind fun x1=>
 (bif(decide ((UInt8.toNat x1:Int)<48))then
 some (.inr (.ret ([],(22:Int))))
 else
  (bif(decide (0≤p0.2.2.2.2.2.1))then
  ((p0.1)[p0.2.2.2.2.2.1.toNat]?).bind fun x2=>
  (bif(decide (57<(UInt8.toNat x2:Int)))then
  some (.inr (.ret ([],(22:Int))))
 else
  (bif(decide (0≤p0.2.2.2.2.2.1))then
  ((p0.1)[p0.2.2.2.2.2.1.toNat]?).bind fun x3=>
  (bif(decide ((IntKind.wrap .u64 (p0.2.2.2.1*10))=1000000000))then
  (ye (p0.2.1,(ofN (qc [(IntKind.wrap .u32 (IntKind.wrap .u64 (p0.2.2.2.1*10))),(IntKind.wrap .u32 (Int.fdiv (IntKind.wrap .u64 (p0.2.2.2.1*10)) (2^32)))])))).bind fun x4=>
  (qb5 (x4,(ofN (qc [(IntKind.wrap .u32 (IntKind.wrap .u64 ((IntKind.wrap .u64 (p0.2.2.1*10))+(IntKind.wrap .u64 (IntKind.wrap .u8 ((UInt8.toNat x3:Int)-48)))))),(IntKind.wrap .u32 (Int.fdiv (IntKind.wrap .u64 ((IntKind.wrap .u64 (p0.2.2.1*10))+(IntKind.wrap .u64 (IntKind.wrap .u8 ((UInt8.toNat x3:Int)-48))))) (2^32)))])))).bind fun x5=>
  some (.inl (p0.1,x5,(0:Int),(1:Int),p0.2.2.2.2.1,(IntKind.wrap .i64 (p0.2.2.2.2.2.1+1)),()))
 else
  (bif(decide (p0.2.2.2.2.2.1=(IntKind.wrap .i64 ((ByteArray.size p0.1:Int)-1))))then
  (ye (p0.2.1,(ofN (qc [(IntKind.wrap .u32 (IntKind.wrap .u64 (p0.2.2.2.1*10))),(IntKind.wrap .u32 (Int.fdiv (IntKind.wrap .u64 (p0.2.2.2.1*10)) (2^32)))])))).bind fun x6=>
  (qb5 (x6,(ofN (qc [(IntKind.wrap .u32 (IntKind.wrap .u64 ((IntKind.wrap .u64 (p0.2.2.1*10))+(IntKind.wrap .u64 (IntKind.wrap .u8 ((UInt8.toNat x3:Int)-48)))))),(IntKind.wrap .u32 (Int.fdiv (IntKind.wrap .u64 ((IntKind.wrap .u64 (p0.2.2.1*10))+(IntKind.wrap .u64 (IntKind.wrap .u8 ((UInt8.toNat x3:Int)-48))))) (2^32)))])))).bind fun x7=>
  some (.inl (p0.1,x7,(0:Int),(1:Int),p0.2.2.2.2.1,(IntKind.wrap .i64 (p0.2.2.2.2.2.1+1)),()))
 else
  some (.inl (p0.1,p0.2.1,(IntKind.wrap .u64 ((IntKind.wrap .u64 (p0.2.2.1*10))+(IntKind.wrap .u64 (IntKind.wrap .u8 ((UInt8.toNat x3:Int)-48))))),(IntKind.wrap .u64 (p0.2.2.2.1*10)),p0.2.2.2.2.1,(IntKind.wrap .i64 (p0.2.2.2.2.2.1+1)),()))))
 else none))
 else none))
 else none)
 else
  some (.inr (.exit 1 (p0.1,p0.2.1,p0.2.2.1,p0.2.2.2.1,p0.2.2.2.2.1,p0.2.2.2.2.2.1,()))))
def qdO  (fu:Nat)(s:ByteArray):Option ((List Int)×Int) :=
 (bif(decide (20000<(ByteArray.size s:Int)))then
 some ([],(20:Int))
 else
  (bif(decide (s=(ByteArray.mk (List.toArray []))))then
  some ([],(22:Int))
 else
  (itP fu (yO) (s,[],(0:Int),(1:Int),(ByteArray.size s:Int),(0:Int),())).bind fun x8=>
  (match x8 with
 | .exit i9 p10=>(bif(Nat.beq i9 1)then
  some (p10.2.1,(0:Int))
 else none)
 | .ret o11=>some o11)))
theorem qug{x:Nat}(h:x<18446744073709551616):ofN (qc [IntKind.u32.wrap (x:Int),IntKind.u32.wrap (Int.fdiv (x:Int) (2^32))])=ofN x:=by
 have e1:IntKind.u32.wrap (x:Int)=((x % 4294967296:Nat):Int):=by rw[wrap_u32];omega
 have e2:IntKind.u32.wrap (Int.fdiv (x:Int) (2^32))=((x / 4294967296:Nat):Int):=by
  rw[YR,show x / 2^32=x / 4294967296 from rfl];exact qi6 (by omega) (by omega)
 rw[e1,e2]
 congr 1
 simp only[qc,zd];omega
theorem Zv{v k:Nat}(h:v<10^k):qm v≤4*k+1:=Kx (qbx (Vt h)) (YY k)
theorem qma{r:Nat}(h:r≤8):10^r≤100000000:=Kf (by omega) h
theorem qoX(k:Nat):1≤10^k:=Nat.one_le_pow _ _ (by decide)
abbrev PaS:=ByteArray×((List Int)×Int×Int×Int×Int×Unit)
abbrev paS(l:List UInt8)(V S B i:Nat):PaS:=(bs l,ofN V,(S:Int),(B:Int),((l.length:Nat):Int),(i:Int),())
theorem qby(l:List UInt8)(hl:l.length≤20000):∀(rest A:List UInt8) (V S r:Nat),A++rest=l→(∀c∈A,isD c=true)→r≤8→S<10^r→dv A=V*10^r+S→(rest=[]→r=0) →
 ∃n,itP n yO (paS l V S (10^r) A.length)=some (bif rest.all isD then .exit 1 (paS l (dv l) 0 1 l.length)else .ret ([],22))
 | [],A,V,S,r,hA,hD,hr,hS,hV,h0=>by
  rw[KU]at hA;have hr:=h0 rfl;subst hr hA
  rw[Vr]at hS hV;have:S=0:=by omega
  subst this;rw[Vx,KB]at hV;subst hV;refine⟨1,?_⟩
  rw[jj];simp only[yO,paS,Int.lt_irrefl,decide_false,zm,List.all_nil,zg,Vr];rfl
 | c::rest,A,V,S,r,hA,hD,hr,hS,hV,h0=>by
  have hNl:A.length+(rest.length+1)=l.length:=by rw[← hA];simp
  have d0:decide (((A.length:Nat):Int)<((l.length:Nat):Int))=true:=za (by omega)
  have d1:decide ((0:Int)≤((A.length:Nat):Int))=true:=za (by omega)
  have g:(bs l)[Int.toNat ((A.length:Nat):Int)]?=some c:=by
   rw[zd,qq,← hA,zW (zE _),VI];rfl
  have hw:IntKind.i64.wrap (((A.length:Nat):Int)+1)=(((A++[c]).length:Nat):Int):=by rw[w64 (by omega) (by omega)];simp
  have ec:List.all (c::rest) isD=(isD c&&rest.all isD):=rfl
  by_cases hc1:c.toNat<48
  · have d2:decide (((c.toNat:Nat):Int)<48)=true:=za (by omega)
    have hd:isD c=false:=by
     cases h:isD c with
     | false=>rfl
     | true=>have:=jT.1 h;omega
    refine⟨1,?_⟩
    rw[jj,ec,hd];simp only[yO,paS,d0,d1,g,d2,zg,zh,Vj,zm]
  · have d2:decide (((c.toNat:Nat):Int)<48)=false:=zk (by omega)
    by_cases hc2:57<c.toNat
    · have d3:decide ((57:Int)<((c.toNat:Nat):Int))=true:=za (by omega)
      have hd:isD c=false:=by
       cases h:isD c with
       | false=>rfl
       | true=>have:=jT.1 h;omega
      refine⟨1,?_⟩
      rw[jj,ec,hd];simp only[yO,paS,d0,d1,g,d2,d3,zg,zh,Vj,zm]
    · have d3:decide ((57:Int)<((c.toNat:Nat):Int))=false:=zk (by omega)
      have hd:isD c=true:=jT.2 ⟨by omega,by omega⟩
      have p8:=qma hr;have hB:10^r*10=10^(r+1):=(z6 ..).symm
      have wB:IntKind.u64.wrap (((10^r:Nat):Int)*10)=((10^(r+1):Nat):Int):=by rw[jR (by omega) (by omega)];omega
      have wc:IntKind.u8.wrap (((c.toNat:Nat):Int)-48)=((c.toNat-48:Nat):Int):=by
       rw[show(((c.toNat:Nat):Int)-48)=((c.toNat-48:Nat):Int) by omega];exact Qp (by unfold inR;simp;exact⟨by show(0:Int)≤_;omega,by show _≤(255:Int);omega⟩)
      have wc2:IntKind.u64.wrap ((c.toNat-48:Nat):Int)=((c.toNat-48:Nat):Int):=jR (by omega) (by omega)
      have wS:IntKind.u64.wrap ((S:Int)*10)=((S*10:Nat):Int):=by rw[jR (by omega) (by omega)];omega
      have wS2:IntKind.u64.wrap (((S*10:Nat):Int)+((c.toNat-48:Nat):Int))=((S*10+(c.toNat-48):Nat):Int):=by rw[jR (by omega) (by omega)];omega
      have hD':∀d∈A++[c],isD d=true:=fun d h=>by
       rcases Ka.1 h with h | h
       · exact hD d h
       · rw[List.mem_singleton.1 h];exact hd
      have hdv:dv (A++[c])=V*10^(r+1)+(S*10+(c.toNat-48)):=by
       rw[qsI,hV,zV,Km,hB];omega
      have hS':S*10+(c.toNat-48)<10^(r+1):=by omega
      have hdl:=qoR (A++[c]) hD'
      have hV':V≤dv (A++[c]):=by
       rw[hdv];have:V*1≤V*10^(r+1):=Kk _ (qoX _)
       omega
      have hlA:(A++[c]).length≤20000:=by simp;omega
      have hbd:=Zv hdl;have hbV:=Kx (qbx hV') hbd
      have hbX:∀x:Nat,x<10^10→qm x≤41:=fun x h=>Zv h
      have n1:=qug (x:=10^(r+1)) (by omega)
      have n2:=qug (x:=S*10+(c.toNat-48)) (by omega)
      have hb1:=hbX (10^(r+1)) (by omega)
      have hb2:=hbX (S*10+(c.toNat-48)) (by omega)
      have hb3:=YX V (10^(r+1))
      have m1:=qkH (u:=V) (v:=10^(r+1)) (by omega) (by omega)
      have m2:=qx3 (u:=V*10^(r+1)) (v:=S*10+(c.toNat-48)) (by omega) (by omega)
      rw[← hdv]at m2;have full:rest=[]∨r=8→∃n,itP n yO (paS l (dv (A++[c])) 0 (10^0) (A++[c]).length)=some (bif rest.all isD then .exit 1 (paS l (dv l) 0 1 l.length)else .ret ([],22)):=fun _=>
       qby l hl rest (A++[c]) (dv (A++[c])) 0 0 (by rw[← hA];simp) hD' (by omega) (by decide) (by simp) (fun _=>rfl)
      rw[ec,hd,zZ];by_cases h8:r=8
      · obtain⟨n,q⟩:=full (.inr h8)
        have d4:decide (((10^(r+1):Nat):Int)=1000000000)=true:=za (by rw[h8];rfl)
        refine⟨n+1,?_⟩
        rw[jj];simp only[yO,paS,d0,d1,g,d2,d3,wB,d4,wc,wc2,wS,wS2,n1,n2,m1,m2,hw,zg,zm,zh];exact q
      · have d4:decide (((10^(r+1):Nat):Int)=1000000000)=false:=zk fun e=>by
         have:10^(r+1)≤10^8:=Kf (by omega) (by omega)
         omega
        have hsz:IntKind.i64.wrap ((((bs l).size:Nat):Int)-1)=((l.length-1:Nat):Int):=by rw[qe,w64 (by omega) (by omega)];omega
        by_cases he:rest=[]
        · obtain⟨n,q⟩:=full (.inl he)
          have d5:decide (((A.length:Nat):Int)=((l.length-1:Nat):Int))=true:=za (by rw[he]at hNl;simp at hNl;omega)
          refine⟨n+1,?_⟩
          rw[jj];simp only[yO,paS,d0,d1,g,d2,d3,wB,d4,hsz,d5,wc,wc2,wS,wS2,n1,n2,m1,m2,hw,zg,zm,zh];exact q
        · have hr1:0<rest.length:=List.length_pos_iff.2 he
          have d5:decide (((A.length:Nat):Int)=((l.length-1:Nat):Int))=false:=zk (by omega)
          obtain⟨n,q⟩:=qby l hl rest (A++[c]) V (S*10+(c.toNat-48)) (r+1) (by rw[← hA];simp) hD' (by omega) hS' hdv (fun h=>absurd h he)
          refine⟨n+1,?_⟩
          rw[jj];simp only[yO,paS,d0,d1,g,d2,d3,wB,d4,hsz,d5,wc,wc2,wS,wS2,hw,zg,zm,zh];exact q
def qdP(s:ByteArray):Option (List Int×Int):=some (bif Nat.ble (lb s).length 20000 then(bif(lb s).isEmpty then([],22)else bif(lb s).all isD then(ofN (dv (lb s)),0)else([],22))else([],20))
theorem qmb(s:ByteArray)(y:List Int×Int)(hg:(d1 cS).good s)(h:qdP s=some y):∃n,qdO n s=some y:=by
 revert h;refine onB (P:=fun s=>qdP s=some y→∃n,qdO n s=some y) (fun l h=>?_) s
 have:=soi h;subst this
 rw[qD];cases hb:Nat.ble l.length 20000 with
 | false=>
  have : ¬l.length≤20000:=fun e=>by rw[zr e]at hb;cases hb
  refine⟨0,?_⟩
  unfold qdO;rw[za (show(20000:Int)<(((bs l).size:Nat):Int) by rw[qe];omega)];rfl
 | true=>
  have hl:=zo hb;have d0:decide ((20000:Int)<(((bs l).size:Nat):Int))=false:=zk (by rw[qe];omega)
  cases l with
  | nil=>exact⟨0,rfl⟩
  | cons c l=>
   obtain⟨n,q⟩:=qby (c::l) hl (c::l) [] 0 0 0 rfl (by simp) (by omega) (by decide) (by decide) (fun _=>rfl)
   refine⟨n,?_⟩
   have de:decide (bs (c::l)=ByteArray.mk (List.toArray []))=false:=by rw[qQ,qr];exact zk (by simp)
   unfold qdO;rw[d0,zm,de,zm,qe];refine obs q ?_
   cases h:List.all (c::l) isD <;> rfl
end
end Su
end
section
namespace Su
open Go Fly
noncomputable section
def Y1:Stp ((List Int)×Nat×Int×Int×(List T)×Unit):=fun p3=>(bif(decide (p3.2.2.2.1<9))then
 (bif((true&&(Nat.beq p3.2.1 p3.2.2.2.2.1.length))&&(Nat.ble (p3.2.2.2.2.1.length+(List.length [(T.s (.int .u8 (IntKind.wrap .u8 (IntKind.wrap .u64 (48+(Int.tmod p3.2.2.1 10))))))])) 549755813888))then
 some (.inl (p3.1,(List.length (p3.2.2.2.2.1++[(T.s (.int .u8 (IntKind.wrap .u8 (IntKind.wrap .u64 (48+(Int.tmod p3.2.2.1 10))))))])),(IntKind.wrap .u64 (Int.tdiv p3.2.2.1 10)),(IntKind.wrap .i64 (p3.2.2.2.1+1)),(p3.2.2.2.2.1++[(T.s (.int .u8 (IntKind.wrap .u8 (IntKind.wrap .u64 (48+(Int.tmod p3.2.2.1 10))))))]),()))
 else none)
 else
  some (.inr (p3.1,p3.2.1,p3.2.2.1,p3.2.2.2.1,p3.2.2.2.2.1,())))
def qaS(fu:Nat):Stp ((List Int)×Nat×(List T)×Unit):=fun p0=>(bif(decide (0<(List.length p0.1:Int)))then
 (JA (p0.1,(1000000000:Int))).bind fun x1=>
 (At x1.2 0).bind fun x2=>
 (itP fu (Y1) (x1.1,p0.2.1,x2,(0:Int),p0.2.2.1,())).bind fun x4=>
 some (.inl (x4.1,x4.2.1,x4.2.2.2.2.1,()))
 else
  some (.inr (p0.1,p0.2.1,p0.2.2.1,())))
def qaT:Stp ((List Int)×Nat×(List T)×Unit):=fun p6=>(bif(decide (0<(p6.2.1:Int)))then
 (bif((true&&(decide (0≤(IntKind.wrap .i64 ((p6.2.1:Int)-1)))))&&(decide ((IntKind.wrap .i64 ((p6.2.1:Int)-1))<(p6.2.1:Int))))then
 ((p6.2.2.1)[(0+(Int.toNat (IntKind.wrap .i64 ((p6.2.1:Int)-1))))]?).bind fun x7=>
 (ldT x7 0 false 1).bind fun x8=>
 (asI .u8 (.t x8)).bind fun x9=>
 (bif(decide (x9=48))then
 (bif((true&&(decide (0≤(IntKind.wrap .i64 ((p6.2.1:Int)-1)))))&&(decide ((IntKind.wrap .i64 ((p6.2.1:Int)-1))≤(p6.2.1:Int))))then
 some (.inl (p6.1,(Int.toNat ((IntKind.wrap .i64 ((p6.2.1:Int)-1))-0)),p6.2.2.1,()))
 else none)
 else
  some (.inr (p6.1,p6.2.1,p6.2.2.1,())))
 else none)
 else
  some (.inr (p6.1,p6.2.1,p6.2.2.1,())))
def qaU:Stp (Nat×Int×Int×(List T)×Unit):=fun p11=>(bif(decide (p11.2.1<p11.2.2.1))then
 (bif((true&&(decide (0≤p11.2.2.1)))&&(decide (p11.2.2.1<(p11.1:Int))))then
 ((p11.2.2.2.1)[(0+p11.2.2.1.toNat)]?).bind fun x12=>
 (ldT x12 0 false 1).bind fun x13=>
 (asI .u8 (.t x13)).bind fun x14=>
 (bif((true&&(decide (0≤p11.2.1)))&&(decide (p11.2.1<(p11.1:Int))))then
 ((p11.2.2.2.1)[(0+p11.2.1.toNat)]?).bind fun x15=>
 (ldT x15 0 false 1).bind fun x16=>
 (asI .u8 (.t x16)).bind fun x17=>
 (bif((true&&(decide (0≤p11.2.1)))&&(decide (p11.2.1<(p11.1:Int))))then
 (bif((true&&(decide (0≤p11.2.2.1)))&&(decide (p11.2.2.1<(p11.1:Int))))then
 ((p11.2.2.2.1)[(0+p11.2.1.toNat)]?).bind fun x18=>
 (asI .u8 (.t x18)).bind fun x19=>
 ((List.set p11.2.2.2.1 (0+p11.2.1.toNat) (T.s (.int .u8 x14)))[(0+p11.2.2.1.toNat)]?).bind fun x20=>
 (asI .u8 (.t x20)).bind fun x21=>
 some (.inl (p11.1,(IntKind.wrap .i64 (p11.2.1+1)),(IntKind.wrap .i64 (p11.2.2.1-1)),(List.set (List.set p11.2.2.2.1 (0+p11.2.1.toNat) (T.s (.int .u8 x14))) (0+p11.2.2.1.toNat) (T.s (.int .u8 x17))),()))
 else none)
 else none)
 else none)
 else none)
 else
  some (.inr (p11.1,p11.2.1,p11.2.2.1,p11.2.2.2.1,())))
def qkN  (fu:Nat)(a:(List Int)):Option ByteArray :=
 (itP fu (qaS fu) ((ofN (qc a)),0,[],())).bind fun x5=>
 (itP fu (qaT) (x5.1,x5.2.1,x5.2.2.1,())).bind fun x10=>
 (bif(decide ((x10.2.1:Int)=0))then
 some (ByteArray.mk (List.toArray [48]))
 else
  (itP fu (qaU) (x10.2.1,(0:Int),(IntKind.wrap .i64 ((x10.2.1:Int)-1)),x10.2.2.1,())).bind fun x22=>
  (Su.sub x22.2.2.2.1 0 x10.2.1).bind fun x23=>
  (Yz x23).bind fun x24=>
  (bif(Nat.ble x24.length 549755813888)then
  some (byI x24)
 else none))
def eb(c:UInt8):T:=T.s (.int .u8 ((c.toNat:Nat):Int))
theorem qkO(c:UInt8):asI .u8 (.t (eb c))=some ((c.toNat:Nat):Int):=by simp[asI,eb]
theorem qoY(c:UInt8):ldT (eb c) 0 false 1=some (eb c):=rfl
theorem qoZ:∀l:List UInt8,Yz (l.map eb)=some (l.map fun c=>((c.toNat:Nat):Int))
 | []=>rfl
 | c::l=>by
  simp only[KT,Yz,qkO,zh,qoZ l]
theorem qv6(l:List UInt8):byI (l.map fun c=>((c.toNat:Nat):Int))=bs l:=by
 rw[qvZ,List.map_map]
 congr 1
 conv=>rhs;rw[← List.map_id l]
 apply List.map_congr_left
 intro c _;show UInt8.ofNat (Int.toNat ((c.toNat:Nat):Int))=c
 rw[zd,zu]
def le:Nat→Nat→List UInt8
 | 0,_=>[]
 | k+1,n=>UInt8.ofNat (48+n % 10)::le k (n / 10)
theorem qjh:∀k n,(le k n).length=k
 | 0,_=>rfl
 | k+1,n=>by unfold le;rw[zt,qjh k]
theorem qsQ(k n:Nat):le (k+1) n=UInt8.ofNat (48+n % 10)::le k (n / 10):=rfl
theorem qo0:∀(j k n:Nat),le (j+k) n=le j n++le k (n / 10^j)
 | 0,k,n=>by simp[le]
 | j+1,k,n=>by
  rw[show j+1+k=j+k+1 by omega,qsQ,qsQ,qo0 j k (n / 10),Kl,z6,zN 10];rfl
theorem qmc(c:UInt8):yx c []=[]:=rfl
theorem qdQ(c x:UInt8):∀(l:List UInt8),yx c (x::l)=if yx c l=[]then(if x == c then[]else[x])else x::yx c l:=by
 intro l;obtain⟨r,hr⟩:∃r,r=l.length:=⟨_,rfl⟩
 induction r generalizing l with
 | zero=>
  have:l=[]:=KA.1 hr.symm
  subst this;have:=y9 c x []
  rw[zK]at this;rw[this,qmc,zA rfl];cases x == c <;> rfl
 | succ r ih=>
  rcases V5 l with h0 | ⟨A,y,h0⟩
  · rw[h0]at hr;cases hr
  · rw[VZ]at h0
    subst h0;rw[← Vb,y9,y9];cases hy:y == c with
    | true=>rw[zg,zg];exact ih A (by simp at hr;omega)
    | false=>rw[zm,zm,zx (by simp)];rfl
theorem qbz:∀k,yx 48 (le k 0)=[]
 | 0=>rfl
 | k+1=>by
  unfold le;rw[qdQ,qbz k,zA rfl];rfl
theorem d48{n:Nat}(h0:n≠0)(h:n<10):(UInt8.ofNat (48+n % 10) == 48)=false:=by
 have:(UInt8.ofNat (48+n % 10)).toNat=48+n % 10:=qkD (by omega)
 have ne:UInt8.ofNat (48+n % 10)≠48:=fun e=>by
  rw[e]at this;have e48:(48:UInt8).toNat=48:=rfl
  omega
 simpa using ne
theorem qkP:∀(k n:Nat),n≠0→n<10^k→(yx 48 (le k n)).reverse=dg n
 | 0,n,h0,h=>by rw[Vr]at h;omega
 | k+1,n,h0,h=>by
  unfold le;rw[qdQ];by_cases h1:n<10
  · rw[show n / 10=0 by omega,qbz,zA rfl,d48 h0 h1,qhO h1,show n % 10=n by omega];rfl
  · have ih:=qkP k (n / 10) (by omega) (by rw[z6]at h;omega)
    have hne:yx 48 (le k (n / 10))≠[]:=fun e=>by
     rw[e]at ih;exact qud _ ih.symm
    rw[zx hne,List.reverse_cons,ih,← qhP (by omega)]
theorem qo1:∀(k n:Nat),le k (n % 10^k)=le k n
 | 0,_=>rfl
 | k+1,n=>by
  have e1:n % 10^(k+1) % 10=n % 10:=by
   rw[z6];exact Nat.mod_mul_left_mod ..
  have e2:n % 10^(k+1) / 10=n / 10 % 10^k:=by
   rw[z6,zN];exact Nat.mod_mul_right_div_self ..
  rw[qsQ,qsQ,e1,e2,qo1 k (n / 10)]
theorem qcE{α β:Type}{f:α→Option (α ⊕ β)}:∀ {n:Nat} {s:α} {y:β},itP n f s=some y→∀ {m:Nat},n≤m→itP m f s=some y
 | 0,s,y,h,m,_=>by cases h
 | n+1,s,y,h,m,hm=>by
  obtain⟨m',rfl⟩:∃m',m=m'+1:=⟨m-1,by omega⟩
  rw[jj]at h ⊢;cases hf:f s with
  | none=>rw[hf]at h;cases h
  | some r=>
   rw[hf]at h;cases r with
   | inl s'=>exact qcE (n:=n) h (by omega)
   | inr r=>exact h
theorem qmd(c:UInt8)(l:List UInt8):∃Y,l=yx c l++Y:=by
 refine⟨(l.reverse.takeWhile (· == c)).reverse,?_⟩
 unfold yx;rw[← List.reverse_append,List.takeWhile_append_dropWhile,List.reverse_reverse]
theorem quh(q:List Int):∀(d i x:Nat) (R:List UInt8),i+d=9→x<18446744073709551616→R.length+d≤500000 →
 ∃y:Int,∀m,d+1≤m→itP m Y1 (q,R.length,((x:Nat):Int),(i:Int),R.map eb,())=some (q,(R++le d x).length,y,(9:Int),(R++le d x).map eb,())
 | 0,i,x,R,hi,_,_=>by
  have:i=9:=by omega
  subst this;refine⟨((x:Nat):Int),fun m hm=>?_⟩
  obtain⟨m',rfl⟩:∃m',m=m'+1:=⟨m-1,by omega⟩
  rw[jj];have d0:decide (((9:Nat):Int)<9)=false:=by decide
  simp only[Y1,d0,zm,le,KU];rfl
 | d+1,i,x,R,hi,hx,hR=>by
  have d0:decide ((i:Int)<9)=true:=za (by omega)
  have w1:IntKind.u64.wrap (48+((x % 10:Nat):Int))=((48+x % 10:Nat):Int):=by rw[jR (n:=48+((x % 10:Nat):Int)) (by omega) (by omega)];omega
  have w2:IntKind.u8.wrap ((48+x % 10:Nat):Int)=(((UInt8.ofNat (48+x % 10)).toNat:Nat):Int):=by
   rw[qkD (by omega)];exact Qp (by unfold inR;simp;exact⟨by show(0:Int)≤_;omega,by show _≤(255:Int);omega⟩)
  have w3:IntKind.u64.wrap ((x / 10:Nat):Int)=((x / 10:Nat):Int):=jR (by omega) (by omega)
  have w4:IntKind.i64.wrap ((i:Int)+1)=((i+1:Nat):Int):=by rw[w64 (n:=(i:Int)+1) (by omega) (by omega)];omega
  have em:R.map eb++[T.s (.int .u8 (((UInt8.ofNat (48+x % 10)).toNat:Nat):Int))]=(R++[UInt8.ofNat (48+x % 10)]).map eb:=by rw[Kv];rfl
  have lm:(R.map eb).length=R.length:=zH ..
  have lm2:((R++[UInt8.ofNat (48+x % 10)]).map eb).length=(R++[UInt8.ofNat (48+x % 10)]).length:=zH ..
  have hb:Nat.ble (R.length+1) 549755813888=true:=zr (by omega)
  have hq:=K7 R.length;obtain⟨y,h⟩:=quh q d (i+1) (x / 10) (R++[UInt8.ofNat (48+x % 10)]) (by omega) (by omega) (by simp;omega)
  refine⟨y,fun m hm=>?_⟩
  obtain⟨m',rfl⟩:∃m',m=m'+1:=⟨m-1,by omega⟩
  have h:=h m' (by omega)
  rw[jj];have ea:R++le (d+1) x=R++[UInt8.ofNat (48+x % 10)]++le d (x / 10):=by rw[zR];rfl
  rw[ea];simp only[Y1,d0,tmN,tdN,w1,w2,w3,w4,em,lm,lm2,Wt,hq,hb,zZ,Ki,zg];exact h
theorem At_0{r:Nat}(h:r<4294967296):At (ofN r) 0=some (r:Int):=by
 have hw:=qdF r;have a0:=Qq hw 0
 obtain⟨p1,p2⟩:=j7 hw 0
 have v0:=JV (ofN r) 0
 rw[Kh,valN_ofN]at v0;have:nth (ofN r) 0=(r:Int):=by omega
 rw[this]at a0;exact a0
theorem qsR{V:Nat}(h:V≠0):0<(ofN V).length:=by rw[qdE h];simp
theorem qo2:∀(k V:Nat) (R:List UInt8),V<10^(9*k)→R.length+9*k≤400000 →
 ∃g,g≤k∧V<10^(9*g)∧∀fu m,10≤fu→k+1≤m→itP m (qaS fu) (ofN V,R.length,R.map eb,())=some (ofN 0,(R++le (9*g) V).length,(R++le (9*g) V).map eb,())
 | k,V,R,hV,hR=>by
  by_cases h0:V=0
  · subst h0
    refine⟨0,by omega,by decide,fun fu m _ hm=>?_⟩
    obtain⟨m',rfl⟩:∃m',m=m'+1:=⟨m-1,by omega⟩
    rw[jj];have d0:decide ((0:Int)<(((ofN 0).length:Nat):Int))=false:=by decide
    simp only[qaS,d0,zm,Vv,le,KU];rfl
  · cases k with
    | zero=>rw[Vv,Vr]at hV;omega
    | succ k=>
     have e9:10^(9*(k+1))=10^(9*k)*10^9:=by rw[← Ks];rfl
     have hq:V / 10^9<10^(9*k):=VJ (by rw[zN,← e9];exact hV)
     obtain⟨g,g1,g2,g3⟩:=qo2 k (V / 10^9) (R++le 9 (V % 10^9)) hq (by rw[zy,qjh];omega)
     obtain⟨y,hin⟩:=quh (ofN (V / 10^9)) 9 0 (V % 10^9) R rfl (by have:=Vf V (show 0<10^9 by decide);omega) (by omega)
     have eg:le (9*(g+1)) V=le 9 (V % 10^9)++le (9*g) (V / 10^9):=by
      rw[show 9*(g+1)=9+9*g by omega,qo0,qo1]
     refine⟨g+1,by omega,?_,fun fu m hf hm=>?_⟩
     · have e9:10^(9*(g+1))=10^(9*g)*10^9:=by rw[← Ks];rfl
       rw[e9];exact(KC (by decide)).1 g2
     · obtain⟨m',rfl⟩:∃m',m=m'+1:=⟨m-1,by omega⟩
       have h3:=g3 fu m' hf (by omega)
       have h4:=hin fu (by omega)
       have d0:decide ((0:Int)<(((ofN V).length:Nat):Int))=true:=za (by have:=qsR h0;omega)
       have hb:=Zv hV;have hl:=ZK V;have sh:JA (ofN V,(1000000000:Int))=some (ofN (V / 10^9),ofN (V % 10^9)):=by
        unfold JA qgl;simp only[valN_ofN];rw[zr (by omega)];rfl
       have a0:=At_0 (r:=V % 10^9) (by have:=Vf V (show 0<10^9 by decide);omega)
       have h4':itP fu Y1 (ofN (V / 10^9),R.length,((V % 10^9:Nat):Int),(0:Int),R.map eb,())=_:=h4
       rw[jj,eg,← zR];simp only[qaS,d0,sh,a0,h4',zh,zg];exact h3
theorem qui(q:List Int)(X:List UInt8):∀(k:Nat) (Q:List UInt8) (Y:List UInt8),Q.length=k→k≤500000 →
 ∃n,itP n qaT (q,Q.length,(Q++Y).map eb,())=some (q,(yx 48 Q).length,(Q++Y).map eb,())
 | 0,Q,Y,h,_=>by
  have:Q=[]:=KA.1 h
  subst this;exact⟨1,rfl⟩
 | k+1,Q,Y,h,hk=>by
  rcases V5 Q with h0 | ⟨A,x,h0⟩
  · rw[h0]at h;cases h
  · rw[VZ]at h0
    subst h0;have hA:A.length=k:=by simpa using h
    have hw:IntKind.i64.wrap ((((A++[x]).length:Nat):Int)-1)=((k:Nat):Int):=by rw[h,w64 (by omega) (by omega)];omega
    have d0:decide ((0:Int)<(((A++[x]).length:Nat):Int))=true:=za (by omega)
    have d1:decide ((0:Int)≤((k:Nat):Int))=true:=za (by omega)
    have d2:decide (((k:Nat):Int)<(((A++[x]).length:Nat):Int))=true:=za (by omega)
    have d3:decide (((k:Nat):Int)≤(((A++[x]).length:Nat):Int))=true:=za (by omega)
    have g:((A++[x]++Y).map eb)[0+Int.toNat ((k:Nat):Int)]?=some (eb x):=by
     rw[zD,zd,Kq,zR,zW (by omega),hA,VI];rfl
    have e48:decide (((x.toNat:Nat):Int)=48)=(x == 48):=qhQ x 48
    have ek:Int.toNat (((k:Nat):Int)-0)=A.length:=by omega
    cases hx:x == 48 with
    | true=>
     obtain⟨n,h2⟩:=qui q X k A ([x]++Y) hA (by omega)
     rw[hx]at e48;refine⟨n+1,?_⟩
     rw[jj,y9,hx,zg,zR];rw[zR]at g;simp only[qaT,hw,d0,d1,d2,d3,g,qoY,qkO,e48,ek,zZ,Ki,zg,zh];exact h2
    | false=>
     rw[hx]at e48;refine⟨1,?_⟩
     rw[jj,y9,hx,zm];simp only[qaT,hw,d0,d1,d2,g,qoY,qkO,e48,zZ,Ki,zg,zm,zh]
theorem qo3(Q:List UInt8)(hQ:Q.length≤500000)(N:Nat)(hN:Q.length≤N):∀(d i j:Nat) (Z:List UInt8),i+j+1=Q.length→j+1-i≤d→Z.length=N→(∀k,k<Q.length→Z[k]?=if k<i∨j<k then Q[Q.length-1-k]? else Q[k]?) →
 ∃(n:Nat) (a b:Int) (Z':List UInt8),itP n qaU (Q.length,(i:Int),(j:Int),Z.map eb,())=some (Q.length,a,b,Z'.map eb,())∧Z'.length=N∧∀k,k<Q.length→Z'[k]?=Q[Q.length-1-k]?
 | d,i,j,Z,hij,hd,hZ,hI=>by
  by_cases hlt:i<j
  · cases d with
    | zero=>omega
    | succ d=>
     have zi:∃x,Z[i]?=some x:=⟨Z[i]'(by omega),zq _⟩
     have zj:∃y,Z[j]?=some y:=⟨Z[j]'(by omega),zq _⟩
     obtain⟨x,hx⟩:=zi;obtain⟨y,hy⟩:=zj;have d0:decide ((i:Int)<(j:Int))=true:=za (by omega)
     have d1:decide ((0:Int)≤(j:Int))=true:=za (by omega)
     have d2:decide ((j:Int)<((Q.length:Nat):Int))=true:=za (by omega)
     have d3:decide ((0:Int)≤(i:Int))=true:=za (by omega)
     have d4:decide ((i:Int)<((Q.length:Nat):Int))=true:=za (by omega)
     have gi:(Z.map eb)[0+Int.toNat (i:Int)]?=some (eb x):=by rw[zD,zd,Kq,hx];rfl
     have gj:(Z.map eb)[0+Int.toNat (j:Int)]?=some (eb y):=by rw[zD,zd,Kq,hy];rfl
     have es:List.set (Z.map eb) (0+Int.toNat (i:Int)) (T.s (.int .u8 ((y.toNat:Nat):Int)))=(Z.set i y).map eb:=by rw[zD,zd,We];rfl
     have gj2:((Z.set i y).map eb)[0+Int.toNat (j:Int)]?=some (eb y):=by rw[zD,zd,Kq,zY (by omega),hy];rfl
     have es2:List.set ((Z.set i y).map eb) (0+Int.toNat (j:Int)) (T.s (.int .u8 ((x.toNat:Nat):Int)))=((Z.set i y).set j x).map eb:=by rw[zD,zd];exact(We ..).symm
     have w1:IntKind.i64.wrap ((i:Int)+1)=((i+1:Nat):Int):=by rw[w64 (n:=(i:Int)+1) (by omega) (by omega)];omega
     have w2:IntKind.i64.wrap ((j:Int)-1)=((j-1:Nat):Int):=by rw[w64 (n:=(j:Int)-1) (by omega) (by omega)];omega
     have qi:Z[i]?=Q[i]?:=by rw[hI i (by omega),zx (by omega)]
     have qj:Z[j]?=Q[j]?:=by rw[hI j (by omega),zx (by omega)]
     obtain⟨n,a,b,Z',h1,h2,h3⟩:=qo3 Q hQ N hN d (i+1) (j-1) ((Z.set i y).set j x) (by omega) (by omega) (by simp[hZ]) (fun k hk=>by
      by_cases k1:k=j
      · subst k1
        rw[Vg (by simp;omega),zA (by omega),← hx,qi]
        congr 1;omega
      · rw[zY (by omega)]
        by_cases k2:k=i
        · subst k2
          rw[Vg (by omega),zA (by omega),← hy,qj]
          congr 1;omega
        · rw[zY (by omega),hI k hk]
          by_cases k3:k<i∨j<k
          · rw[zA k3,zA (by omega)]
          · rw[zx k3,zx (by omega)])
     refine⟨n+1,a,b,Z',?_,h2,h3⟩
     rw[jj];simp only[qaU,d0,d1,d2,d3,d4,gi,gj,gj2,es,es2,qoY,qkO,w1,w2,zZ,Ki,zg,zh];exact h1
  · have d0:decide ((i:Int)<(j:Int))=false:=zk (by omega)
    refine⟨1,(i:Int),(j:Int),Z,?_,hZ,fun k hk=>?_⟩
    · rw[jj]
      simp only[qaU,d0,zm];rfl
    · rw[hI k hk]
      by_cases k3:k<i∨j<k
      · rw[zA k3]
      · rw[zx k3];congr 1;omega
theorem qo4{Q Z:List UInt8}(h:Q.length≤Z.length)(hk:∀k,k<Q.length→Z[k]?=Q[Q.length-1-k]?):Z.take Q.length=Q.reverse:=by
 refine List.ext_getElem? fun k=>?_
 by_cases hlt:k<Q.length
 · rw[List.getElem?_take_of_lt hlt,hk k hlt,List.getElem?_reverse hlt]
 · rw[zQ (by simp;omega),zQ (by simp;omega)]
def qcF(a:List Int):Option ByteArray:=bif Nat.ble (qm (qc a)) 40000 then some (bs (dg (qc a)))else none
theorem qo5(a:List Int)(y:ByteArray)(hg:(d1 (cQ 1 1)).good a)(h:qcF a=some y):∃n,qkN n a=some y:=by
 obtain⟨h1,h2⟩:=qh h;have:=soi h2;subst this
 have hb:=zo h1;generalize hV:qc a=V at *
 obtain⟨k,hk⟩:∃k,k=qm V / 29+1:=⟨_,rfl⟩
 have hVk:V<10^(9*k):=by
  refine Kt (y5 V) ?_
  refine Kx (Kf (by omega) (show qm V≤29*k by omega)) ?_
  rw[Nat.pow_mul,Nat.pow_mul];exact Nat.pow_le_pow_left (by decide) k
 obtain⟨g,g1,g2,g3⟩:=qo2 k V [] hVk (by simp;omega)
 rw[zK]at g3;have hll:=qjh (9*g) V
 obtain⟨n3,h3⟩:=qui (ofN 0) [] (9*g) (le (9*g) V) [] hll (by omega)
 rw[KU]at h3;have trl:(yx 48 (le (9*g) V)).length≤(le (9*g) V).length:=by
  unfold yx;rw[V9];refine Kx (Wg (Wi _)) ?_
  rw[V9];exact zE _
 by_cases h0:V=0
 · subst h0
   rw[qbz]at h3;refine⟨max 10 (max (k+1) n3),?_⟩
   unfold qkN;rw[hV];refine obs (g3 _ _ (by omega) (by omega)) ?_
   refine obs (qcE h3 (by omega)) ?_
   rfl
 · have ht:=qkP (9*g) V h0 g2
   generalize hQ:yx 48 (le (9*g) V)=Q at *
   have hQ0:0<Q.length:=by
    rw[← V9,ht];exact List.length_pos_iff.2 (qud V)
   have hpre:∀k,k<Q.length→(le (9*g) V)[k]?=Q[k]?:=fun k hk=>by
    obtain⟨Y,hY⟩:=qmd 48 (le (9*g) V)
    rw[hQ]at hY;rw[hY,Ke hk]
   obtain⟨n4,a4,b4,Z',h4,h5,h6⟩:=qo3 Q (by omega) (le (9*g) V).length (by omega) (Q.length) 0 (Q.length-1) (le (9*g) V) (by omega) (by omega) rfl (fun k hk=>by
    rw[zx (by omega)];exact hpre k hk)
   refine⟨max 10 (max (k+1) (max n3 n4)),?_⟩
   unfold qkN;rw[hV];refine obs (g3 _ _ (by omega) (by omega)) ?_
   refine obs (qcE h3 (by omega)) ?_
   have w1:IntKind.i64.wrap (((Q.length:Nat):Int)-1)=((Q.length-1:Nat):Int):=by rw[w64 (n:=((Q.length:Nat):Int)-1) (by omega) (by omega)];omega
   simp only[];rw[zk (show¬((Q.length:Nat):Int)=0 by omega),zm,w1];refine obs (qcE h4 (by omega)) ?_
   have hs:Su.sub (Z'.map eb) 0 Q.length=some (Q.reverse.map eb):=by
    unfold Su.sub;rw[zr (by simp;omega),zg,Kh,← List.map_take,qo4 (by omega) h6]
   refine obs hs (obs (qoZ _) ?_)
   rw[zr (by simp;omega),zg,qv6,ht]
end
end Su
end
section
namespace Su
open Go Fly
def cK(b:ByteArray):Cod Unit where
 enc _:=.s (.string b)
 dec x:=(asS (.t x)).bind fun s=>bif decide (s=b)then some ()else none
 good _:=True
 rep {x a} h V v hr:=by
  obtain⟨s,h1,h2⟩:=osm h;have:=qkb h1
  simp only[SV.t.injEq]at this;subst this;obtain⟨h3,_⟩:=qh h2;have:=Ko h3;subst this
  exact hr
 de _:=by show(bif decide (b=b)then some ()else none)=_;rw[za rfl];rfl
 rng _:=trivial
end Su
end
section
namespace Su
open Go Fly
noncomputable section
def qdR(p:Unit×Int):Option ByteArray:=bif decide (0≤p.2)&&decide (p.2≤40)then some (bs (zs p.2.toNat))else none
end
end Su
end
section
namespace Su
open Go Fly
noncomputable section
def qv7  (n:Int):Option (List Int) :=
 (qgr ((10:Int),n)).bind fun x0=>
 some x0.1
def dTr  (d:ByteArray)(q:Int):Option (ByteArray×Int) :=
 (bif(decide (d=(ByteArray.mk (List.toArray []))))then
 some (d,(IntKind.wrap .i64 ((IntKind.wrap .i64 (q+(ByteArray.size d:Int)))-(ByteArray.size d:Int))))
 else
  (qhS (d,((48:Nat):Int))).bind fun x0=>
  some (x0,(IntKind.wrap .i64 ((IntKind.wrap .i64 (q+(ByteArray.size d:Int)))-(ByteArray.size x0:Int)))))
def jQ(n:Int):Option (List Int):=bif decide (n≤10000)then some (ofN (10^n.toNat))else none
theorem qsS(n:Int)(y:List Int)(hg:(d1 (cI .i64)).good n)(h:jQ n=some y):qv7 n=some y:=by
 obtain⟨h1,h2⟩:=qh h;have:=soi h2;subst this
 unfold qv7 qgr;simp only[h1,WA,Ki,zg,zh]
def qhU(p:ByteArray×Int):Option (ByteArray×Int):=bif Nat.ble (lb p.1).length 1000000&&(decide (-1000000≤p.2)&&decide (p.2≤1000000))then some (bs (yx 48 (lb p.1)),p.2+((lb p.1).length:Int)-((yx 48 (lb p.1)).length:Int))else none
theorem qme(c:UInt8)(l:List UInt8):(yx c l).length≤l.length:=by
 unfold yx;rw[V9];refine Kx (Wg (Wi _)) ?_
 rw[V9];exact zE _
theorem qv8(p:ByteArray×Int)(y:ByteArray×Int)(hg:(dc cS (d1 (cI .i64))).good p)(h:qhU p=some y):dTr p.1 p.2=some y:=by
 obtain⟨d,q⟩:=p;revert h;refine onB (P:=fun d=>qhU (d,q)=some y→dTr d q=some y) (fun l h=>?_) d
 obtain⟨h1,h2⟩:=qh h;have:=soi h2;subst this
 simp only[qD,zn,zL]at h1 ⊢;have hl:=zo h1.1;have ht:=qme 48 l
 unfold dTr;rw[qQ,qr];have w1:IntKind.i64.wrap (q+((l.length:Nat):Int))=q+((l.length:Nat):Int):=w64 (by omega) (by omega)
 by_cases h0:l=[]
 · subst h0
   rw[za rfl,zg,qe,w1,w64 (by omega) (by omega)];rfl
 · rw[zk h0,zm]
   have r:qhS (bs l,48)=some (bs (yx 48 l)):=by
    unfold qhS;simp only[qD];rw[zr (by omega)];rfl
   refine obs r ?_
   rw[qe,qe,w1,w64 (by omega) (by omega)]
end
end Su
end
