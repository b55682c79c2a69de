/-
  What functions of the program compute, in plain Lean, and that the evaluator finds it.
-/
import Derived.Test.YtldhknmacepeiaaGreatDoorSuXl
import Derived.Test.YtldhknmacepeiaaGreatDoorNC10
import Derived.Test.YtldhknmacepeiaaGreatDoorSuSd
set_option linter.unusedVariables false
set_option linter.unusedSimpArgs false
set_option maxRecDepth 10000
section
namespace Su
open Go Fly
noncomputable section
def qbo(neg:Bool)(mode:Int) :=
 fun x5001 x5002=>
 bif(decide (0<(IntKind.wrap .i64 (63-(IntKind.wrap .i64 (x5001-x5002))))))then
 some ((((RN neg mode (jF ((0:Int),(9223372036854775808:Int))) (Int.toNat ((-5000)+6000)) true):Nat):Int),(flN neg mode (jF ((0:Int),(9223372036854775808:Int))) (Int.toNat ((-5000)+6000)) true (decide (((((qf (jF ((0:Int),(9223372036854775808:Int)))):Nat):Int)+(-5000))≤(-1022)))))
 else
  some ((((RN neg mode (jF ((0:Int),(9223372036854775808:Int))) (Int.toNat (5000+6000)) true):Nat):Int),(flN neg mode (jF ((0:Int),(9223372036854775808:Int))) (Int.toNat (5000+6000)) true (decide (((((qf (jF ((0:Int),(9223372036854775808:Int)))):Nat):Int)+5000)≤(-1022)))))
def qlh  (neg:Bool)(num:(List Int))(den:(List Int))(mode:Int):Option (Int×Int) :=
 (Len num).bind fun x0=>
 (bif(decide (x0=0))then
 some ((0:Int),(0:Int))
 else
  (Len den).bind fun x1=>
  (bif(decide (x1=0))then
  some ((0:Int),(0:Int))
 else
  (Len num).bind fun x2=>
  (Len den).bind fun x3=>
  (bif(decide ((IntKind.wrap .i64 (63-(IntKind.wrap .i64 (x2-x3))))<(-5000)))then
  (qbo neg mode x2 x3)
 else
  (bif(decide (5000<(IntKind.wrap .i64 (63-(IntKind.wrap .i64 (x2-x3))))))then
  (qbo neg mode x2 x3)
 else
  (Zs (IntKind.wrap .i64 (63-(IntKind.wrap .i64 (x2-x3))))).bind fun x4=>
  (ye (num,x4)).bind fun x5=>
  (Zs (IntKind.wrap .i64 (0-(IntKind.wrap .i64 (63-(IntKind.wrap .i64 (x2-x3))))))).bind fun x6=>
  (ye (den,x6)).bind fun x7=>
  (YP (x5,x7)).bind fun x8=>
  (qtB x8.1).bind fun x9=>
  (Len x8.2.1).bind fun x10=>
  (Zq ((neg,(0:Int),x9.1,(IntKind.wrap .i64 (0-(IntKind.wrap .i64 (63-(IntKind.wrap .i64 (x2-x3)))))),(decide (0<x10))),mode)).bind fun x11=>
  some x11))))
theorem qxt{M:Nat}(h:M<18446744073709551616):qtB (ofN M)=some ((M:Int),true):=by
 have hb:qf M≤64:=jM.2 h
 have hw:=qd6 M;have a0:=QE hw 0
 have a1:=QE hw 1
 obtain⟨p1,p2⟩:=yf hw 0
 obtain⟨p3,p4⟩:=yf hw 1
 have v0:=Yk (ofN M) 0
 have v1:=Yk (ofN M) 1
 rw[KM,valN_ofN]at v0;simp only[zG,Nat.reduceAdd]at v0 v1;obtain⟨X,hX⟩:=Kp p1;obtain⟨Y,hY⟩:=Kp p3;rw[hX]at a0 p2 v0;rw[hY]at a1 p4 v1;rw[zd]at v0 v1;have hz:qa ((ofN M).drop 2)=0:=by omega
 have hM:M=X+Y*2^32:=by omega
 unfold qtB;have d0:decide ((64:Int)<((qf M:Nat):Int))=false:=zk (by omega)
 have a0':At (ofN M) 0=some (X:Int):=a0
 have a1':At (ofN M) 1=some (Y:Int):=a1
 have w1:IntKind.u64.wrap ((Y:Int)*(2^32))=((Y*2^32:Nat):Int):=by
  rw[jX (by omega) (by omega)];omega
 rw[qef (by omega),zh,d0,zm,a0',zh,a1',zh,w1,ZR _ _ (by omega) (by omega),qea (by omega),← hM]
def jd(N D:Nat):Int:=((qf N:Nat):Int)-((qf D:Nat):Int)-63
def YR(N D:Nat):Nat:=N*2^(-jd N D).toNat
def Ym(N D:Nat):Nat:=D*2^(jd N D).toNat
def Yn(N D:Nat):Nat:=YR N D / Ym N D
def qcE(N D:Nat):Bool:=decide (0<((qf (YR N D % Ym N D):Nat):Int))
def qvC:{f:Bool→Int→Nat→Nat→Nat // ∀neg mode N D,f neg mode N D=RN neg mode (Yn N D) (jd N D+6000).toNat (qcE N D)}:=Classical.choice ⟨⟨_,fun _ _ _ _=>rfl⟩⟩
def Qg(neg:Bool)(mode:Int)(N D:Nat):Nat:=qvC.1 neg mode N D
theorem qeg(neg:Bool)(mode:Int)(N D:Nat):Qg neg mode N D=RN neg mode (Yn N D) (jd N D+6000).toNat (qcE N D):=qvC.2 neg mode N D
def qli(neg:Bool)(mode:Int)(N D:Nat):Int:=flN neg mode (Yn N D) (jd N D+6000).toNat (qcE N D) (decide ((qf (Yn N D):Int)+jd N D≤-1022))
theorem ZU{N D:Nat}(hD:D≠0):0<Ym N D:=Wm (Nat.pos_of_ne_zero hD) (zQ _)
theorem qpB{N D:Nat}(hD:D≠0):Yn N D<18446744073709551616:=by
 unfold Yn;rw[KD (ZU hD)];have h1:=yY N;have h2:=YC hD;have h3:=jl hD;unfold YR Ym;refine Ku (zZ h1 (zQ _)) ?_
 refine Kj ?_ (zU _ (zD _ h2))
 rw[← zP,← zP,show(18446744073709551616:Nat)=2^64 from rfl,← zP];refine zX (by omega) ?_
 unfold jd;omega
theorem qiq{N D:Nat}(hN:N≠0)(hD:D≠0):4611686018427387904≤Yn N D:=by
 unfold Yn;rw[WG (ZU hD)];have h1:=YC hN;have h2:=yY D;have h3:=jl hN;unfold YR Ym;refine Kj ?_ (zD _ h1)
 refine Kj (zU _ (zD _ (Vg h2))) ?_
 rw[← zP,← zP,show(4611686018427387904:Nat)=2^62 from rfl,← zP];refine zX (by omega) ?_
 unfold jd;omega
def yA(p:Bool×List Int×List Int×Int):Option (Int×Int) :=
 bif Nat.beq (qa p.2.1) 0||Nat.beq (qa p.2.2.1) 0 then(bif Nat.ble (qf (qa p.2.1)) 100000&&Nat.ble (qf (qa p.2.2.1)) 100000 then some (0,0)else none)else
 bif((Nat.ble p.2.1.length 100000&&Nat.ble p.2.2.1.length 100000)&&(Nat.ble (qf (qa p.2.1)) 40000&&Nat.ble (qf (qa p.2.2.1)) 40000))&&(decide (-4000≤jd (qa p.2.1) (qa p.2.2.1))&&decide (jd (qa p.2.1) (qa p.2.2.1)≤4000))then
  some (((Qg p.1 p.2.2.2 (qa p.2.1) (qa p.2.2.1):Nat):Int),qli p.1 p.2.2.2 (qa p.2.1) (qa p.2.2.1))
 else none
theorem Yo{a b:Nat}(h:a≤b):qf a≤qf b:=jM.2 (KQ h (yY b))
theorem qlj{a:List Int}(h:qf (qa a)≤100000):Len a=some ((qf (qa a):Nat):Int):=qc8 a (by omega)
theorem qvD{a:List Int}{v:Nat}(hl:a.length≤1000000)(h2:qf v≤100000):ye (a,ofN v)=some (ofN (qa a*v)):=by
 unfold ye;have l2:=Zr v;simp only[valN_ofN];rw[zp (by omega)];rfl
theorem qpC(p:Bool×List Int×List Int×Int)(y:Int×Int)(hg:(dc cB (dc (cQ 1 1) (dc (cQ 1 1) (d1 (cI .u8))))).good p)(h:yA p=some y):qlh p.1 p.2.1 p.2.2.1 p.2.2.2=some y:=by
 obtain⟨neg,num,den,mode⟩:=p;simp only[];have ln:num.length≤maxLen:=hg.2.1.2
 have ld:den.length≤maxLen:=hg.2.2.1.2
 unfold yA at h;simp only[]at h;generalize hN:qa num=N at *
 generalize hD:qa den=D at *
 cases hz:Nat.beq N 0||Nat.beq D 0 with
 | true=>
  rw[hz,zg]at h;obtain⟨h1,h2⟩:=qh h;have:=soi h2;subst this
  rw[zn]at h1;have b1:=zo h1.1;have b2:=zo h1.2;have L1:=qlj (a:=num) (by rw[hN];exact b1)
  have L2:=qlj (a:=den) (by rw[hD];exact b2)
  rw[hN]at L1;rw[hD]at L2;unfold qlh qbo;rw[L1,zh];by_cases h0:N=0
  · subst h0;rfl
  · have hd:D=0:=by
     rw[Z4 h0,Wp]at hz;exact zf hz
    subst hd;have:=jl h0
    rw[zk (show¬((qf N:Nat):Int)=0 by omega),zm,L2];rfl
 | false=>
  rw[hz,zm]at h;obtain⟨h1,h2⟩:=qh h;have:=soi h2;subst this
  simp only[zn,zO]at h1;obtain⟨⟨⟨l1,l2⟩,b1,b2⟩,e1,e2⟩:=h1;have l1:=zo l1;have l2:=zo l2;have b1:=zo b1;have b2:=zo b2;rw[Bool.or_eq_false_iff]at hz;have hN0:N≠0:=fun e=>by rw[e]at hz;exact absurd hz.1 (by decide)
  have hD0:D≠0:=fun e=>by rw[e]at hz;exact absurd hz.2 (by decide)
  have L1:=qlj (a:=num) (by rw[hN];omega)
  have L2:=qlj (a:=den) (by rw[hD];omega)
  rw[hN]at L1;rw[hD]at L2;have p1:=jl hN0;have p2:=jl hD0;have w1:IntKind.i64.wrap (63-IntKind.i64.wrap (((qf N:Nat):Int)-((qf D:Nat):Int))) = -jd N D:=by
   unfold jd;rw[w64 (n:=((qf N:Nat):Int)-((qf D:Nat):Int)) (by omega) (by omega),w64 (by omega) (by omega)];omega
  have w2:IntKind.i64.wrap (0 - -jd N D)=jd N D:=by rw[w64 (by omega) (by omega)];omega
  have e11:qf 1=1:=by decide
  have s1:Zs (-jd N D)=some (ofN (2^(-jd N D).toNat)):=by unfold Zs;rw[zb (by omega)];rfl
  have s2:Zs (jd N D)=some (ofN (2^(jd N D).toNat)):=by unfold Zs;rw[zb (by omega)];rfl
  have bA:qf (YR N D)≤100000:=by
   have:=yt N (2^(-jd N D).toNat)
   rw[QV]at this;unfold YR;omega
  have bB:qf (Ym N D)≤100000:=by
   have:=yt D (2^(jd N D).toNat)
   rw[QV]at this;unfold Ym;omega
  have m1:ye (num,ofN (2^(-jd N D).toNat))=some (ofN (YR N D)):=by
   rw[qvD (by omega) (by rw[QV];omega),hN];rfl
  have m2:ye (den,ofN (2^(jd N D).toNat))=some (ofN (Ym N D)):=by
   rw[qvD (by omega) (by rw[QV];omega),hD];rfl
  have hB:=ZU (N:=N) hD0
  have dv:=qvB bA bB (by omega)
  have u:=qxt (qpB (N:=N) hD0)
  have hM:=qiq hN0 hD0;have bR:qf (YR N D % Ym N D)≤100000:=Kj (Yo (Nat.mod_le _ _)) bA
  have lR:=qef bR;have d1:decide (((qf N:Nat):Int)=0)=false:=zk (by omega)
  have d2:decide (((qf D:Nat):Int)=0)=false:=zk (by omega)
  have d3:decide (-jd N D < -5000)=false:=zk (by omega)
  have d4:decide ((5000:Int) < -jd N D)=false:=zk (by omega)
  have vw:jF ((0:Int),((Yn N D:Nat):Int))=Yn N D:=by rw[Yl];simp
  have rf:Zq ((neg,(0:Int),((Yn N D:Nat):Int),jd N D,qcE N D),mode)=some (((Qg neg mode N D:Nat):Int),qli neg mode N D):=by
   unfold Zq;simp only[vw];rw[Z4 (by omega),zb (show -5000≤jd N D by omega),zb (show jd N D≤5000 by omega),qeg];rfl
  unfold qlh qbo;refine obs L1 ?_
  rw[d1,zm];refine obs L2 ?_
  rw[d2,zm];refine obs L1 (obs L2 ?_)
  rw[w1,d3,zm,d4,zm,w2];exact obs s1 (obs m1 (obs s2 (obs m2 (obs dv (obs u (obs lR (obs rf rfl)))))))
end
end Su
end
section
namespace Su
open Go Fly
noncomputable section
abbrev Zt:=(ByteArray×(List Int)×Int×Int×Int×Int×Unit)
def y6:Zt→Option (Zt ⊕ (Lp Zt ((List Int)×Int))):=fun p0=>(bif(decide (p0.2.2.2.2.2.1<p0.2.2.2.2.1))then
 (bif(decide (0≤p0.2.2.2.2.2.1))then
 ((p0.1)[p0.2.2.2.2.2.1.toNat]?).bind fun x1=>
 (bif(decide ((UInt8.toNat x1:Int)<48))then
 some (.inr (.ret ([],(22:Int))))
 else
  (bif(decide (0≤p0.2.2.2.2.2.1))then
  ((p0.1)[p0.2.2.2.2.2.1.toNat]?).bind fun x2=>
  (bif(decide (57<(UInt8.toNat x2:Int)))then
  some (.inr (.ret ([],(22:Int))))
 else
  (bif(decide (0≤p0.2.2.2.2.2.1))then
  ((p0.1)[p0.2.2.2.2.2.1.toNat]?).bind fun x3=>
  (bif(decide ((IntKind.wrap .u64 (p0.2.2.2.1*10))=1000000000))then
  (ye (p0.2.1,(ofN (qa [(IntKind.wrap .u32 (IntKind.wrap .u64 (p0.2.2.2.1*10))),(IntKind.wrap .u32 (Int.fdiv (IntKind.wrap .u64 (p0.2.2.2.1*10)) (2^32)))])))).bind fun x4=>
  (qcC (x4,(ofN (qa [(IntKind.wrap .u32 (IntKind.wrap .u64 ((IntKind.wrap .u64 (p0.2.2.1*10))+(IntKind.wrap .u64 (IntKind.wrap .u8 ((UInt8.toNat x3:Int)-48)))))),(IntKind.wrap .u32 (Int.fdiv (IntKind.wrap .u64 ((IntKind.wrap .u64 (p0.2.2.1*10))+(IntKind.wrap .u64 (IntKind.wrap .u8 ((UInt8.toNat x3:Int)-48))))) (2^32)))])))).bind fun x5=>
  some (.inl (p0.1,x5,(0:Int),(1:Int),p0.2.2.2.2.1,(IntKind.wrap .i64 (p0.2.2.2.2.2.1+1)),()))
 else
  (bif(decide (p0.2.2.2.2.2.1=(IntKind.wrap .i64 ((ByteArray.size p0.1:Int)-1))))then
  (ye (p0.2.1,(ofN (qa [(IntKind.wrap .u32 (IntKind.wrap .u64 (p0.2.2.2.1*10))),(IntKind.wrap .u32 (Int.fdiv (IntKind.wrap .u64 (p0.2.2.2.1*10)) (2^32)))])))).bind fun x6=>
  (qcC (x6,(ofN (qa [(IntKind.wrap .u32 (IntKind.wrap .u64 ((IntKind.wrap .u64 (p0.2.2.1*10))+(IntKind.wrap .u64 (IntKind.wrap .u8 ((UInt8.toNat x3:Int)-48)))))),(IntKind.wrap .u32 (Int.fdiv (IntKind.wrap .u64 ((IntKind.wrap .u64 (p0.2.2.1*10))+(IntKind.wrap .u64 (IntKind.wrap .u8 ((UInt8.toNat x3:Int)-48))))) (2^32)))])))).bind fun x7=>
  some (.inl (p0.1,x7,(0:Int),(1:Int),p0.2.2.2.2.1,(IntKind.wrap .i64 (p0.2.2.2.2.2.1+1)),()))
 else
  some (.inl (p0.1,p0.2.1,(IntKind.wrap .u64 ((IntKind.wrap .u64 (p0.2.2.1*10))+(IntKind.wrap .u64 (IntKind.wrap .u8 ((UInt8.toNat x3:Int)-48))))),(IntKind.wrap .u64 (p0.2.2.2.1*10)),p0.2.2.2.2.1,(IntKind.wrap .i64 (p0.2.2.2.2.2.1+1)),()))))
 else none))
 else none))
 else none)
 else
  some (.inr (.exit 1 (p0.1,p0.2.1,p0.2.2.1,p0.2.2.2.1,p0.2.2.2.2.1,p0.2.2.2.2.2.1,()))))
def qeh  (fu:Nat)(s:ByteArray):Option ((List Int)×Int) :=
 (bif(decide (20000<(ByteArray.size s:Int)))then
 some ([],(20:Int))
 else
  (bif(decide (s=(ByteArray.mk (List.toArray []))))then
  some ([],(22:Int))
 else
  (itP fu (y6) (s,[],(0:Int),(1:Int),(ByteArray.size s:Int),(0:Int),())).bind fun x8=>
  (match x8 with
 | .exit i9 p10=>(bif(Nat.beq i9 1)then
  some (p10.2.1,(0:Int))
 else none)
 | .ret o11=>some o11)))
theorem qpD{x:Nat}(h:x<18446744073709551616):ofN (qa [IntKind.u32.wrap (x:Int),IntKind.u32.wrap (Int.fdiv (x:Int) (2^32))])=ofN x:=by
 have e1:IntKind.u32.wrap (x:Int)=((x % 4294967296:Nat):Int):=by rw[wrap_u32];omega
 have e2:IntKind.u32.wrap (Int.fdiv (x:Int) (2^32))=((x / 4294967296:Nat):Int):=by
  rw[JH,show x / 2^32=x / 4294967296 from rfl];exact qgG (by omega) (by omega)
 rw[e1,e2]
 congr 1
 simp only[qa,zd];omega
theorem Jq{v k:Nat}(h:v<10^k):qf v≤4*k+1:=Kj (Yo (Vg h)) (Qf k)
theorem qmO{r:Nat}(h:r≤8):10^r≤100000000:=zX (by omega) h
theorem qpE(k:Nat):1≤10^k:=Nat.one_le_pow _ _ (by decide)
abbrev PaS:=ByteArray×((List Int)×Int×Int×Int×Int×Unit)
abbrev paS(l:List UInt8)(V S B i:Nat):PaS:=(bs l,ofN V,(S:Int),(B:Int),((l.length:Nat):Int),(i:Int),())
theorem qb4(l:List UInt8)(hl:l.length≤20000):∀(rest A:List UInt8) (V S r:Nat),A++rest=l→(∀c∈A,isD c=true)→r≤8→S<10^r→dv A=V*10^r+S→(rest=[]→r=0) →
 ∃n,itP n y6 (paS l V S (10^r) A.length)=some (bif rest.all isD then .exit 1 (paS l (dv l) 0 1 l.length)else .ret ([],22))
 | [],A,V,S,r,hA,hD,hr,hS,hV,h0=>by
  rw[KH]at hA;have hr:=h0 rfl;subst hr hA
  rw[K7]at hS hV;have:S=0:=by omega
  subst this;rw[Vn,KA]at hV;subst hV;refine⟨1,?_⟩
  rw[jr];simp only[y6,paS,Int.lt_irrefl,decide_false,zm,List.all_nil,zg,K7];rfl
 | c::rest,A,V,S,r,hA,hD,hr,hS,hV,h0=>by
  have hNl:A.length+(rest.length+1)=l.length:=by rw[← hA];simp
  have d0:decide (((A.length:Nat):Int)<((l.length:Nat):Int))=true:=zb (by omega)
  have d1:decide ((0:Int)≤((A.length:Nat):Int))=true:=zb (by omega)
  have g:(bs l)[Int.toNat ((A.length:Nat):Int)]?=some c:=by
   rw[zd,qq,← hA,z8 (zI _),VS];rfl
  have hw:IntKind.i64.wrap (((A.length:Nat):Int)+1)=(((A++[c]).length:Nat):Int):=by rw[w64 (by omega) (by omega)];simp
  have ec:List.all (c::rest) isD=(isD c&&rest.all isD):=rfl
  by_cases hc1:c.toNat<48
  · have d2:decide (((c.toNat:Nat):Int)<48)=true:=zb (by omega)
    have hd:isD c=false:=by
     cases h:isD c with
     | false=>rfl
     | true=>have:=jY.1 h;omega
    refine⟨1,?_⟩
    rw[jr,ec,hd];simp only[y6,paS,d0,d1,g,d2,zg,zh,WK,zm]
  · have d2:decide (((c.toNat:Nat):Int)<48)=false:=zk (by omega)
    by_cases hc2:57<c.toNat
    · have d3:decide ((57:Int)<((c.toNat:Nat):Int))=true:=zb (by omega)
      have hd:isD c=false:=by
       cases h:isD c with
       | false=>rfl
       | true=>have:=jY.1 h;omega
      refine⟨1,?_⟩
      rw[jr,ec,hd];simp only[y6,paS,d0,d1,g,d2,d3,zg,zh,WK,zm]
    · have d3:decide ((57:Int)<((c.toNat:Nat):Int))=false:=zk (by omega)
      have hd:isD c=true:=jY.2 ⟨by omega,by omega⟩
      have p8:=qmO hr;have hB:10^r*10=10^(r+1):=(z6 ..).symm
      have wB:IntKind.u64.wrap (((10^r:Nat):Int)*10)=((10^(r+1):Nat):Int):=by rw[jX (by omega) (by omega)];omega
      have wc:IntKind.u8.wrap (((c.toNat:Nat):Int)-48)=((c.toNat-48:Nat):Int):=by
       rw[show(((c.toNat:Nat):Int)-48)=((c.toNat-48:Nat):Int) by omega];exact QD (by unfold inR;simp;exact⟨by show(0:Int)≤_;omega,by show _≤(255:Int);omega⟩)
      have wc2:IntKind.u64.wrap ((c.toNat-48:Nat):Int)=((c.toNat-48:Nat):Int):=jX (by omega) (by omega)
      have wS:IntKind.u64.wrap ((S:Int)*10)=((S*10:Nat):Int):=by rw[jX (by omega) (by omega)];omega
      have wS2:IntKind.u64.wrap (((S*10:Nat):Int)+((c.toNat-48:Nat):Int))=((S*10+(c.toNat-48):Nat):Int):=by rw[jX (by omega) (by omega)];omega
      have hD':∀d∈A++[c],isD d=true:=fun d h=>by
       rcases Kf.1 h with h | h
       · exact hD d h
       · rw[Wx.1 h];exact hd
      have hdv:dv (A++[c])=V*10^(r+1)+(S*10+(c.toNat-48)):=by
       rw[qgQ,hV,zW,zx,hB];omega
      have hS':S*10+(c.toNat-48)<10^(r+1):=by omega
      have hdl:=qfw (A++[c]) hD'
      have hV':V≤dv (A++[c]):=by
       rw[hdv];have:V*1≤V*10^(r+1):=zU _ (qpE _)
       omega
      have hlA:(A++[c]).length≤20000:=by simp;omega
      have hbd:=Jq hdl;have hbV:=Kj (Yo hV') hbd
      have hbX:∀x:Nat,x<10^10→qf x≤41:=fun x h=>Jq h
      have n1:=qpD (x:=10^(r+1)) (by omega)
      have n2:=qpD (x:=S*10+(c.toNat-48)) (by omega)
      have hb1:=hbX (10^(r+1)) (by omega)
      have hb2:=hbX (S*10+(c.toNat-48)) (by omega)
      have hb3:=yt V (10^(r+1))
      have m1:=qab (u:=V) (v:=10^(r+1)) (by omega) (by omega)
      have m2:=qpz (u:=V*10^(r+1)) (v:=S*10+(c.toNat-48)) (by omega) (by omega)
      rw[← hdv]at m2;have full:rest=[]∨r=8→∃n,itP n y6 (paS l (dv (A++[c])) 0 (10^0) (A++[c]).length)=some (bif rest.all isD then .exit 1 (paS l (dv l) 0 1 l.length)else .ret ([],22)):=fun _=>
       qb4 l hl rest (A++[c]) (dv (A++[c])) 0 0 (by rw[← hA];simp) hD' (by omega) (by decide) (by simp) (fun _=>rfl)
      rw[ec,hd,Kw];by_cases h8:r=8
      · obtain⟨n,q⟩:=full (.inr h8)
        have d4:decide (((10^(r+1):Nat):Int)=1000000000)=true:=zb (by rw[h8];rfl)
        refine⟨n+1,?_⟩
        rw[jr];simp only[y6,paS,d0,d1,g,d2,d3,wB,d4,wc,wc2,wS,wS2,n1,n2,m1,m2,hw,zg,zm,zh];exact q
      · have d4:decide (((10^(r+1):Nat):Int)=1000000000)=false:=zk fun e=>by
         have:10^(r+1)≤10^8:=zX (by omega) (by omega)
         omega
        have hsz:IntKind.i64.wrap ((((bs l).size:Nat):Int)-1)=((l.length-1:Nat):Int):=by rw[qe,w64 (by omega) (by omega)];omega
        by_cases he:rest=[]
        · obtain⟨n,q⟩:=full (.inl he)
          have d5:decide (((A.length:Nat):Int)=((l.length-1:Nat):Int))=true:=zb (by rw[he]at hNl;simp at hNl;omega)
          refine⟨n+1,?_⟩
          rw[jr];simp only[y6,paS,d0,d1,g,d2,d3,wB,d4,hsz,d5,wc,wc2,wS,wS2,n1,n2,m1,m2,hw,zg,zm,zh];exact q
        · have hr1:0<rest.length:=List.length_pos_iff.2 he
          have d5:decide (((A.length:Nat):Int)=((l.length-1:Nat):Int))=false:=zk (by omega)
          obtain⟨n,q⟩:=qb4 l hl rest (A++[c]) V (S*10+(c.toNat-48)) (r+1) (by rw[← hA];simp) hD' (by omega) hS' hdv (fun h=>absurd h he)
          refine⟨n+1,?_⟩
          rw[jr];simp only[y6,paS,d0,d1,g,d2,d3,wB,d4,hsz,d5,wc,wc2,wS,wS2,hw,zg,zm,zh];exact q
def qei(s:ByteArray):Option (List Int×Int):=some (bif Nat.ble (lb s).length 20000 then(bif(lb s).isEmpty then([],22)else bif(lb s).all isD then(ofN (dv (lb s)),0)else([],22))else([],20))
theorem qmP(s:ByteArray)(y:List Int×Int)(hg:(d1 cS).good s)(h:qei s=some y):∃n,qeh n s=some y:=by
 revert h;refine onB (P:=fun s=>qei s=some y→∃n,qeh n s=some y) (fun l h=>?_) s
 have:=soi h;subst this
 rw[qC];cases hb:Nat.ble l.length 20000 with
 | false=>
  have : ¬l.length≤20000:=fun e=>by rw[zp e]at hb;cases hb
  refine⟨0,?_⟩
  unfold qeh;rw[zb (show(20000:Int)<(((bs l).size:Nat):Int) by rw[qe];omega)];rfl
 | true=>
  have hl:=zo hb;have d0:decide ((20000:Int)<(((bs l).size:Nat):Int))=false:=zk (by rw[qe];omega)
  cases l with
  | nil=>exact⟨0,rfl⟩
  | cons c l=>
   obtain⟨n,q⟩:=qb4 (c::l) hl (c::l) [] 0 0 0 rfl (by simp) (by omega) (by decide) (by decide) (fun _=>rfl)
   refine⟨n,?_⟩
   have de:decide (bs (c::l)=ByteArray.mk (List.toArray []))=false:=by rw[qU,qr];exact zk (by simp)
   unfold qeh;rw[d0,zm,de,zm,qe];refine obs q ?_
   cases h:List.all (c::l) isD <;> rfl
end
end Su
end
section
namespace Su
open Go Fly
noncomputable section
def Zu:Stp ((List Int)×Nat×Int×Int×(List T)×Unit):=fun p3=>(bif(decide (p3.2.2.2.1<9))then
 (bif((true&&(Nat.beq p3.2.1 p3.2.2.2.2.1.length))&&(Nat.ble (p3.2.2.2.2.1.length+(List.length [(T.s (.int .u8 (IntKind.wrap .u8 (IntKind.wrap .u64 (48+(Int.tmod p3.2.2.1 10))))))])) 549755813888))then
 some (.inl (p3.1,(List.length (p3.2.2.2.2.1++[(T.s (.int .u8 (IntKind.wrap .u8 (IntKind.wrap .u64 (48+(Int.tmod p3.2.2.1 10))))))])),(IntKind.wrap .u64 (Int.tdiv p3.2.2.1 10)),(IntKind.wrap .i64 (p3.2.2.2.1+1)),(p3.2.2.2.2.1++[(T.s (.int .u8 (IntKind.wrap .u8 (IntKind.wrap .u64 (48+(Int.tmod p3.2.2.1 10))))))]),()))
 else none)
 else
  some (.inr (p3.1,p3.2.1,p3.2.2.1,p3.2.2.2.1,p3.2.2.2.2.1,())))
def qbp(fu:Nat):Stp ((List Int)×Nat×(List T)×Unit):=fun p0=>(bif(decide (0<(List.length p0.1:Int)))then
 (JT (p0.1,(1000000000:Int))).bind fun x1=>
 (At x1.2 0).bind fun x2=>
 (itP fu (Zu) (x1.1,p0.2.1,x2,(0:Int),p0.2.2.1,())).bind fun x4=>
 some (.inl (x4.1,x4.2.1,x4.2.2.2.2.1,()))
 else
  some (.inr (p0.1,p0.2.1,p0.2.2.1,())))
def qbq:Stp ((List Int)×Nat×(List T)×Unit):=fun p6=>(bif(decide (0<(p6.2.1:Int)))then
 (bif((true&&(decide (0≤(IntKind.wrap .i64 ((p6.2.1:Int)-1)))))&&(decide ((IntKind.wrap .i64 ((p6.2.1:Int)-1))<(p6.2.1:Int))))then
 ((p6.2.2.1)[(0+(Int.toNat (IntKind.wrap .i64 ((p6.2.1:Int)-1))))]?).bind fun x7=>
 (ldT x7 0 false 1).bind fun x8=>
 (asI .u8 (.t x8)).bind fun x9=>
 (bif(decide (x9=48))then
 (bif((true&&(decide (0≤(IntKind.wrap .i64 ((p6.2.1:Int)-1)))))&&(decide ((IntKind.wrap .i64 ((p6.2.1:Int)-1))≤(p6.2.1:Int))))then
 some (.inl (p6.1,(Int.toNat ((IntKind.wrap .i64 ((p6.2.1:Int)-1))-0)),p6.2.2.1,()))
 else none)
 else
  some (.inr (p6.1,p6.2.1,p6.2.2.1,())))
 else none)
 else
  some (.inr (p6.1,p6.2.1,p6.2.2.1,())))
def qbr:Stp (Nat×Int×Int×(List T)×Unit):=fun p11=>(bif(decide (p11.2.1<p11.2.2.1))then
 (bif((true&&(decide (0≤p11.2.2.1)))&&(decide (p11.2.2.1<(p11.1:Int))))then
 ((p11.2.2.2.1)[(0+p11.2.2.1.toNat)]?).bind fun x12=>
 (ldT x12 0 false 1).bind fun x13=>
 (asI .u8 (.t x13)).bind fun x14=>
 (bif((true&&(decide (0≤p11.2.1)))&&(decide (p11.2.1<(p11.1:Int))))then
 ((p11.2.2.2.1)[(0+p11.2.1.toNat)]?).bind fun x15=>
 (ldT x15 0 false 1).bind fun x16=>
 (asI .u8 (.t x16)).bind fun x17=>
 (bif((true&&(decide (0≤p11.2.1)))&&(decide (p11.2.1<(p11.1:Int))))then
 (bif((true&&(decide (0≤p11.2.2.1)))&&(decide (p11.2.2.1<(p11.1:Int))))then
 ((p11.2.2.2.1)[(0+p11.2.1.toNat)]?).bind fun x18=>
 (asI .u8 (.t x18)).bind fun x19=>
 ((List.set p11.2.2.2.1 (0+p11.2.1.toNat) (T.s (.int .u8 x14)))[(0+p11.2.2.1.toNat)]?).bind fun x20=>
 (asI .u8 (.t x20)).bind fun x21=>
 some (.inl (p11.1,(IntKind.wrap .i64 (p11.2.1+1)),(IntKind.wrap .i64 (p11.2.2.1-1)),(List.set (List.set p11.2.2.2.1 (0+p11.2.1.toNat) (T.s (.int .u8 x14))) (0+p11.2.2.1.toNat) (T.s (.int .u8 x17))),()))
 else none)
 else none)
 else none)
 else none)
 else
  some (.inr (p11.1,p11.2.1,p11.2.2.1,p11.2.2.2.1,())))
def qlk  (fu:Nat)(a:(List Int)):Option ByteArray :=
 (itP fu (qbp fu) ((ofN (qa a)),0,[],())).bind fun x5=>
 (itP fu (qbq) (x5.1,x5.2.1,x5.2.2.1,())).bind fun x10=>
 (bif(decide ((x10.2.1:Int)=0))then
 some (ByteArray.mk (List.toArray [48]))
 else
  (itP fu (qbr) (x10.2.1,(0:Int),(IntKind.wrap .i64 ((x10.2.1:Int)-1)),x10.2.2.1,())).bind fun x22=>
  (Su.sub x22.2.2.2.1 0 x10.2.1).bind fun x23=>
  (Y2 x23).bind fun x24=>
  (bif(Nat.ble x24.length 549755813888)then
  some (byI x24)
 else none))
def eb(c:UInt8):T:=T.s (.int .u8 ((c.toNat:Nat):Int))
theorem qll(c:UInt8):asI .u8 (.t (eb c))=some ((c.toNat:Nat):Int):=by simp[asI,eb]
theorem qpF(c:UInt8):ldT (eb c) 0 false 1=some (eb c):=rfl
theorem qpG:∀l:List UInt8,Y2 (l.map eb)=some (l.map fun c=>((c.toNat:Nat):Int))
 | []=>rfl
 | c::l=>by
  simp only[KV,Y2,qll,zh,qpG l]
theorem qxu(l:List UInt8):byI (l.map fun c=>((c.toNat:Nat):Int))=bs l:=by
 rw[qxp,List.map_map]
 congr 1
 conv=>rhs;rw[← List.map_id l]
 apply List.map_congr_left
 intro c _;show UInt8.ofNat (Int.toNat ((c.toNat:Nat):Int))=c
 rw[zd,zy]
def le:Nat→Nat→List UInt8
 | 0,_=>[]
 | k+1,n=>UInt8.ofNat (48+n % 10)::le k (n / 10)
theorem qjM:∀k n,(le k n).length=k
 | 0,_=>rfl
 | k+1,n=>by unfold le;rw[zu,qjM k]
theorem qtU(k n:Nat):le (k+1) n=UInt8.ofNat (48+n % 10)::le k (n / 10):=rfl
theorem qpH:∀(j k n:Nat),le (j+k) n=le j n++le k (n / 10^j)
 | 0,k,n=>by simp[le]
 | j+1,k,n=>by
  rw[show j+1+k=j+k+1 by omega,qtU,qtU,qpH j k (n / 10),Km,z6,zF 10];rfl
theorem qmQ(c:UInt8):jL c []=[]:=rfl
theorem qaC(c x:UInt8):∀(l:List UInt8),jL c (x::l)=if jL c l=[]then(if x == c then[]else[x])else x::jL c l:=by
 intro l;obtain⟨r,hr⟩:∃r,r=l.length:=⟨_,rfl⟩
 induction r generalizing l with
 | zero=>
  have:l=[]:=KK.1 hr.symm
  subst this;have:=yU c x []
  rw[zH]at this;rw[this,qmQ,zA rfl];cases x == c <;> rfl
 | succ r ih=>
  rcases VP l with h0 | ⟨A,y,h0⟩
  · rw[h0]at hr;cases hr
  · rw[VO]at h0
    subst h0;rw[← KJ,yU,yU];cases hy:y == c with
    | true=>rw[zg,zg];exact ih A (by simp at hr;omega)
    | false=>rw[zm,zm,zw (by simp)];rfl
theorem qb5:∀k,jL 48 (le k 0)=[]
 | 0=>rfl
 | k+1=>by
  unfold le;rw[qaC,qb5 k,zA rfl];rfl
theorem d48{n:Nat}(h0:n≠0)(h:n<10):(UInt8.ofNat (48+n % 10) == 48)=false:=by
 have:(UInt8.ofNat (48+n % 10)).toNat=48+n % 10:=JU (by omega)
 have ne:UInt8.ofNat (48+n % 10)≠48:=fun e=>by
  rw[e]at this;have e48:(48:UInt8).toNat=48:=rfl
  omega
 simpa using ne
theorem qlm:∀(k n:Nat),n≠0→n<10^k→(jL 48 (le k n)).reverse=dg n
 | 0,n,h0,h=>by rw[K7]at h;omega
 | k+1,n,h0,h=>by
  unfold le;rw[qaC];by_cases h1:n<10
  · rw[show n / 10=0 by omega,qb5,zA rfl,d48 h0 h1,YQ h1,show n % 10=n by omega];rfl
  · have ih:=qlm k (n / 10) (by omega) (by rw[z6]at h;omega)
    have hne:jL 48 (le k (n / 10))≠[]:=fun e=>by
     rw[e]at ih;exact qaa _ ih.symm
    rw[zw hne,List.reverse_cons,ih,← Z9 (by omega)]
theorem qpI:∀(k n:Nat),le k (n % 10^k)=le k n
 | 0,_=>rfl
 | k+1,n=>by
  have e1:n % 10^(k+1) % 10=n % 10:=by
   rw[z6];exact Nat.mod_mul_left_mod ..
  have e2:n % 10^(k+1) / 10=n / 10 % 10^k:=by
   rw[z6,zF];exact Nat.mod_mul_right_div_self ..
  rw[qtU,qtU,e1,e2,qpI k (n / 10)]
theorem qc9{α β:Type}{f:α→Option (α ⊕ β)}:∀ {n:Nat} {s:α} {y:β},itP n f s=some y→∀ {m:Nat},n≤m→itP m f s=some y
 | 0,s,y,h,m,_=>by cases h
 | n+1,s,y,h,m,hm=>by
  obtain⟨m',rfl⟩:∃m',m=m'+1:=⟨m-1,by omega⟩
  rw[jr]at h ⊢;cases hf:f s with
  | none=>rw[hf]at h;cases h
  | some r=>
   rw[hf]at h;cases r with
   | inl s'=>exact qc9 (n:=n) h (by omega)
   | inr r=>exact h
theorem qmR(c:UInt8)(l:List UInt8):∃Y,l=jL c l++Y:=by
 refine⟨(l.reverse.takeWhile (· == c)).reverse,?_⟩
 unfold jL;rw[← List.reverse_append,List.takeWhile_append_dropWhile,List.reverse_reverse]
theorem qvE(q:List Int):∀(d i x:Nat) (R:List UInt8),i+d=9→x<18446744073709551616→R.length+d≤500000 →
 ∃y:Int,∀m,d+1≤m→itP m Zu (q,R.length,((x:Nat):Int),(i:Int),R.map eb,())=some (q,(R++le d x).length,y,(9:Int),(R++le d x).map eb,())
 | 0,i,x,R,hi,_,_=>by
  have:i=9:=by omega
  subst this;refine⟨((x:Nat):Int),fun m hm=>?_⟩
  obtain⟨m',rfl⟩:∃m',m=m'+1:=⟨m-1,by omega⟩
  rw[jr];have d0:decide (((9:Nat):Int)<9)=false:=by decide
  simp only[Zu,d0,zm,le,KH];rfl
 | d+1,i,x,R,hi,hx,hR=>by
  have d0:decide ((i:Int)<9)=true:=zb (by omega)
  have w1:IntKind.u64.wrap (48+((x % 10:Nat):Int))=((48+x % 10:Nat):Int):=by rw[jX (n:=48+((x % 10:Nat):Int)) (by omega) (by omega)];omega
  have w2:IntKind.u8.wrap ((48+x % 10:Nat):Int)=(((UInt8.ofNat (48+x % 10)).toNat:Nat):Int):=by
   rw[JU (by omega)];exact QD (by unfold inR;simp;exact⟨by show(0:Int)≤_;omega,by show _≤(255:Int);omega⟩)
  have w3:IntKind.u64.wrap ((x / 10:Nat):Int)=((x / 10:Nat):Int):=jX (by omega) (by omega)
  have w4:IntKind.i64.wrap ((i:Int)+1)=((i+1:Nat):Int):=by rw[w64 (n:=(i:Int)+1) (by omega) (by omega)];omega
  have em:R.map eb++[T.s (.int .u8 (((UInt8.ofNat (48+x % 10)).toNat:Nat):Int))]=(R++[UInt8.ofNat (48+x % 10)]).map eb:=by rw[Ks];rfl
  have lm:(R.map eb).length=R.length:=zK ..
  have lm2:((R++[UInt8.ofNat (48+x % 10)]).map eb).length=(R++[UInt8.ofNat (48+x % 10)]).length:=zK ..
  have hb:Nat.ble (R.length+1) 549755813888=true:=zp (by omega)
  have hq:=Vh R.length;obtain⟨y,h⟩:=qvE q d (i+1) (x / 10) (R++[UInt8.ofNat (48+x % 10)]) (by omega) (by omega) (by simp;omega)
  refine⟨y,fun m hm=>?_⟩
  obtain⟨m',rfl⟩:∃m',m=m'+1:=⟨m-1,by omega⟩
  have h:=h m' (by omega)
  rw[jr];have ea:R++le (d+1) x=R++[UInt8.ofNat (48+x % 10)]++le d (x / 10):=by rw[zR];rfl
  rw[ea];simp only[Zu,d0,tmN,tdN,w1,w2,w3,w4,em,lm,lm2,VA,hq,hb,Kw,Ki,zg];exact h
theorem At_0{r:Nat}(h:r<4294967296):At (ofN r) 0=some (r:Int):=by
 have hw:=qd6 r;have a0:=QE hw 0
 obtain⟨p1,p2⟩:=yf hw 0
 have v0:=Yk (ofN r) 0
 rw[KM,valN_ofN]at v0;have:nth (ofN r) 0=(r:Int):=by omega
 rw[this]at a0;exact a0
theorem qln{V:Nat}(h:V≠0):0<(ofN V).length:=by rw[qbi h];simp
theorem qpJ:∀(k V:Nat) (R:List UInt8),V<10^(9*k)→R.length+9*k≤400000 →
 ∃g,g≤k∧V<10^(9*g)∧∀fu m,10≤fu→k+1≤m→itP m (qbp fu) (ofN V,R.length,R.map eb,())=some (ofN 0,(R++le (9*g) V).length,(R++le (9*g) V).map eb,())
 | k,V,R,hV,hR=>by
  by_cases h0:V=0
  · subst h0
    refine⟨0,by omega,by decide,fun fu m _ hm=>?_⟩
    obtain⟨m',rfl⟩:∃m',m=m'+1:=⟨m-1,by omega⟩
    rw[jr];have d0:decide ((0:Int)<(((ofN 0).length:Nat):Int))=false:=by decide
    simp only[qbp,d0,zm,VC,le,KH];rfl
  · cases k with
    | zero=>rw[VC,K7]at hV;omega
    | succ k=>
     have e9:10^(9*(k+1))=10^(9*k)*10^9:=by rw[← zP];rfl
     have hq:V / 10^9<10^(9*k):=VU (by rw[zF,← e9];exact hV)
     obtain⟨g,g1,g2,g3⟩:=qpJ k (V / 10^9) (R++le 9 (V % 10^9)) hq (by rw[zq,qjM];omega)
     obtain⟨y,hin⟩:=qvE (ofN (V / 10^9)) 9 0 (V % 10^9) R rfl (by have:=K9 V (show 0<10^9 by decide);omega) (by omega)
     have eg:le (9*(g+1)) V=le 9 (V % 10^9)++le (9*g) (V / 10^9):=by
      rw[show 9*(g+1)=9+9*g by omega,qpH,qpI]
     refine⟨g+1,by omega,?_,fun fu m hf hm=>?_⟩
     · have e9:10^(9*(g+1))=10^(9*g)*10^9:=by rw[← zP];rfl
       rw[e9];exact(KD (by decide)).1 g2
     · obtain⟨m',rfl⟩:∃m',m=m'+1:=⟨m-1,by omega⟩
       have h3:=g3 fu m' hf (by omega)
       have h4:=hin fu (by omega)
       have d0:decide ((0:Int)<(((ofN V).length:Nat):Int))=true:=zb (by have:=qln h0;omega)
       have hb:=Jq hV;have hl:=Zr V;have sh:JT (ofN V,(1000000000:Int))=some (ofN (V / 10^9),ofN (V % 10^9)):=by
        unfold JT qgN;simp only[valN_ofN];rw[zp (by omega)];rfl
       have a0:=At_0 (r:=V % 10^9) (by have:=K9 V (show 0<10^9 by decide);omega)
       have h4':itP fu Zu (ofN (V / 10^9),R.length,((V % 10^9:Nat):Int),(0:Int),R.map eb,())=_:=h4
       rw[jr,eg,← zR];simp only[qbp,d0,sh,a0,h4',zh,zg];exact h3
theorem qvF(q:List Int)(X:List UInt8):∀(k:Nat) (Q:List UInt8) (Y:List UInt8),Q.length=k→k≤500000 →
 ∃n,itP n qbq (q,Q.length,(Q++Y).map eb,())=some (q,(jL 48 Q).length,(Q++Y).map eb,())
 | 0,Q,Y,h,_=>by
  have:Q=[]:=KK.1 h
  subst this;exact⟨1,rfl⟩
 | k+1,Q,Y,h,hk=>by
  rcases VP Q with h0 | ⟨A,x,h0⟩
  · rw[h0]at h;cases h
  · rw[VO]at h0
    subst h0;have hA:A.length=k:=by simpa using h
    have hw:IntKind.i64.wrap ((((A++[x]).length:Nat):Int)-1)=((k:Nat):Int):=by rw[h,w64 (by omega) (by omega)];omega
    have d0:decide ((0:Int)<(((A++[x]).length:Nat):Int))=true:=zb (by omega)
    have d1:decide ((0:Int)≤((k:Nat):Int))=true:=zb (by omega)
    have d2:decide (((k:Nat):Int)<(((A++[x]).length:Nat):Int))=true:=zb (by omega)
    have d3:decide (((k:Nat):Int)≤(((A++[x]).length:Nat):Int))=true:=zb (by omega)
    have g:((A++[x]++Y).map eb)[0+Int.toNat ((k:Nat):Int)]?=some (eb x):=by
     rw[zG,zd,Kq,zR,z8 (by omega),hA,VS];rfl
    have e48:decide (((x.toNat:Nat):Int)=48)=(x == 48):=qin x 48
    have ek:Int.toNat (((k:Nat):Int)-0)=A.length:=by omega
    cases hx:x == 48 with
    | true=>
     obtain⟨n,h2⟩:=qvF q X k A ([x]++Y) hA (by omega)
     rw[hx]at e48;refine⟨n+1,?_⟩
     rw[jr,yU,hx,zg,zR];rw[zR]at g;simp only[qbq,hw,d0,d1,d2,d3,g,qpF,qll,e48,ek,Kw,Ki,zg,zh];exact h2
    | false=>
     rw[hx]at e48;refine⟨1,?_⟩
     rw[jr,yU,hx,zm];simp only[qbq,hw,d0,d1,d2,g,qpF,qll,e48,Kw,Ki,zg,zm,zh]
theorem qpK(Q:List UInt8)(hQ:Q.length≤500000)(N:Nat)(hN:Q.length≤N):∀(d i j:Nat) (Z:List UInt8),i+j+1=Q.length→j+1-i≤d→Z.length=N→(∀k,k<Q.length→Z[k]?=if k<i∨j<k then Q[Q.length-1-k]? else Q[k]?) →
 ∃(n:Nat) (a b:Int) (Z':List UInt8),itP n qbr (Q.length,(i:Int),(j:Int),Z.map eb,())=some (Q.length,a,b,Z'.map eb,())∧Z'.length=N∧∀k,k<Q.length→Z'[k]?=Q[Q.length-1-k]?
 | d,i,j,Z,hij,hd,hZ,hI=>by
  by_cases hlt:i<j
  · cases d with
    | zero=>omega
    | succ d=>
     have zi:∃x,Z[i]?=some x:=⟨Z[i]'(by omega),zt _⟩
     have zj:∃y,Z[j]?=some y:=⟨Z[j]'(by omega),zt _⟩
     obtain⟨x,hx⟩:=zi;obtain⟨y,hy⟩:=zj;have d0:decide ((i:Int)<(j:Int))=true:=zb (by omega)
     have d1:decide ((0:Int)≤(j:Int))=true:=zb (by omega)
     have d2:decide ((j:Int)<((Q.length:Nat):Int))=true:=zb (by omega)
     have d3:decide ((0:Int)≤(i:Int))=true:=zb (by omega)
     have d4:decide ((i:Int)<((Q.length:Nat):Int))=true:=zb (by omega)
     have gi:(Z.map eb)[0+Int.toNat (i:Int)]?=some (eb x):=by rw[zG,zd,Kq,hx];rfl
     have gj:(Z.map eb)[0+Int.toNat (j:Int)]?=some (eb y):=by rw[zG,zd,Kq,hy];rfl
     have es:List.set (Z.map eb) (0+Int.toNat (i:Int)) (T.s (.int .u8 ((y.toNat:Nat):Int)))=(Z.set i y).map eb:=by rw[zG,zd,Wz];rfl
     have gj2:((Z.set i y).map eb)[0+Int.toNat (j:Int)]?=some (eb y):=by rw[zG,zd,Kq,Kg (by omega),hy];rfl
     have es2:List.set ((Z.set i y).map eb) (0+Int.toNat (j:Int)) (T.s (.int .u8 ((x.toNat:Nat):Int)))=((Z.set i y).set j x).map eb:=by rw[zG,zd];exact(Wz ..).symm
     have w1:IntKind.i64.wrap ((i:Int)+1)=((i+1:Nat):Int):=by rw[w64 (n:=(i:Int)+1) (by omega) (by omega)];omega
     have w2:IntKind.i64.wrap ((j:Int)-1)=((j-1:Nat):Int):=by rw[w64 (n:=(j:Int)-1) (by omega) (by omega)];omega
     have qi:Z[i]?=Q[i]?:=by rw[hI i (by omega),zw (by omega)]
     have qj:Z[j]?=Q[j]?:=by rw[hI j (by omega),zw (by omega)]
     obtain⟨n,a,b,Z',h1,h2,h3⟩:=qpK Q hQ N hN d (i+1) (j-1) ((Z.set i y).set j x) (by omega) (by omega) (by simp[hZ]) (fun k hk=>by
      by_cases k1:k=j
      · subst k1
        rw[Vq (by simp;omega),zA (by omega),← hx,qi]
        congr 1;omega
      · rw[Kg (by omega)]
        by_cases k2:k=i
        · subst k2
          rw[Vq (by omega),zA (by omega),← hy,qj]
          congr 1;omega
        · rw[Kg (by omega),hI k hk]
          by_cases k3:k<i∨j<k
          · rw[zA k3,zA (by omega)]
          · rw[zw k3,zw (by omega)])
     refine⟨n+1,a,b,Z',?_,h2,h3⟩
     rw[jr];simp only[qbr,d0,d1,d2,d3,d4,gi,gj,gj2,es,es2,qpF,qll,w1,w2,Kw,Ki,zg,zh];exact h1
  · have d0:decide ((i:Int)<(j:Int))=false:=zk (by omega)
    refine⟨1,(i:Int),(j:Int),Z,?_,hZ,fun k hk=>?_⟩
    · rw[jr]
      simp only[qbr,d0,zm];rfl
    · rw[hI k hk]
      by_cases k3:k<i∨j<k
      · rw[zA k3]
      · rw[zw k3];congr 1;omega
theorem qpL{Q Z:List UInt8}(h:Q.length≤Z.length)(hk:∀k,k<Q.length→Z[k]?=Q[Q.length-1-k]?):Z.take Q.length=Q.reverse:=by
 refine List.ext_getElem? fun k=>?_
 by_cases hlt:k<Q.length
 · rw[List.getElem?_take_of_lt hlt,hk k hlt,List.getElem?_reverse hlt]
 · rw[z7 (by simp;omega),z7 (by simp;omega)]
def QG(a:List Int):Option ByteArray:=bif Nat.ble (qf (qa a)) 40000 then some (bs (dg (qa a)))else none
theorem qpM(a:List Int)(y:ByteArray)(hg:(d1 (cQ 1 1)).good a)(h:QG a=some y):∃n,qlk n a=some y:=by
 obtain⟨h1,h2⟩:=qh h;have:=soi h2;subst this
 have hb:=zo h1;generalize hV:qa a=V at *
 obtain⟨k,hk⟩:∃k,k=qf V / 29+1:=⟨_,rfl⟩
 have hVk:V<10^(9*k):=by
  refine Ku (yY V) ?_
  refine Kj (zX (by omega) (show qf V≤29*k by omega)) ?_
  rw[Nat.pow_mul,Nat.pow_mul];exact Nat.pow_le_pow_left (by decide) k
 obtain⟨g,g1,g2,g3⟩:=qpJ k V [] hVk (by simp;omega)
 rw[zH]at g3;have hll:=qjM (9*g) V
 obtain⟨n3,h3⟩:=qvF (ofN 0) [] (9*g) (le (9*g) V) [] hll (by omega)
 rw[KH]at h3;have trl:(jL 48 (le (9*g) V)).length≤(le (9*g) V).length:=by
  unfold jL;rw[Wr];refine Kj (WB (V8 _)) ?_
  rw[Wr];exact zI _
 by_cases h0:V=0
 · subst h0
   rw[qb5]at h3;refine⟨max 10 (max (k+1) n3),?_⟩
   unfold qlk;rw[hV];refine obs (g3 _ _ (by omega) (by omega)) ?_
   refine obs (qc9 h3 (by omega)) ?_
   rfl
 · have ht:=qlm (9*g) V h0 g2
   generalize hQ:jL 48 (le (9*g) V)=Q at *
   have hQ0:0<Q.length:=by
    rw[← Wr,ht];exact List.length_pos_iff.2 (qaa V)
   have hpre:∀k,k<Q.length→(le (9*g) V)[k]?=Q[k]?:=fun k hk=>by
    obtain⟨Y,hY⟩:=qmR 48 (le (9*g) V)
    rw[hQ]at hY;rw[hY,Kl hk]
   obtain⟨n4,a4,b4,Z',h4,h5,h6⟩:=qpK Q (by omega) (le (9*g) V).length (by omega) (Q.length) 0 (Q.length-1) (le (9*g) V) (by omega) (by omega) rfl (fun k hk=>by
    rw[zw (by omega)];exact hpre k hk)
   refine⟨max 10 (max (k+1) (max n3 n4)),?_⟩
   unfold qlk;rw[hV];refine obs (g3 _ _ (by omega) (by omega)) ?_
   refine obs (qc9 h3 (by omega)) ?_
   have w1:IntKind.i64.wrap (((Q.length:Nat):Int)-1)=((Q.length-1:Nat):Int):=by rw[w64 (n:=((Q.length:Nat):Int)-1) (by omega) (by omega)];omega
   simp only[];rw[zk (show¬((Q.length:Nat):Int)=0 by omega),zm,w1];refine obs (qc9 h4 (by omega)) ?_
   have hs:Su.sub (Z'.map eb) 0 Q.length=some (Q.reverse.map eb):=by
    unfold Su.sub;rw[zp (by simp;omega),zg,KM,← List.map_take,qpL (by omega) h6]
   refine obs hs (obs (qpG _) ?_)
   rw[zp (by simp;omega),zg,qxu,ht]
end
end Su
end
section
namespace Su
open Go Fly
def cK(b:ByteArray):Cod Unit where
 enc _:=.s (.string b)
 dec x:=(asS (.t x)).bind fun s=>bif decide (s=b)then some ()else none
 good _:=True
 rep {x a} h V v hr:=by
  obtain⟨s,h1,h2⟩:=osm h;have:=qoB h1
  simp only[SV.t.injEq]at this;subst this;obtain⟨h3,_⟩:=qh h2;have:=Ko h3;subst this
  exact hr
 de _:=by show(bif decide (b=b)then some ()else none)=_;rw[zb rfl];rfl
 rng _:=trivial
end Su
end
section
namespace Su
open Go Fly
noncomputable section
def qej(p:Unit×Int):Option ByteArray:=bif decide (0≤p.2)&&decide (p.2≤40)then some (bs (zs p.2.toNat))else none
end
end Su
end
section
namespace Su
open Go Fly
noncomputable section
def qxv  (n:Int):Option (List Int) :=
 (qgW ((10:Int),n)).bind fun x0=>
 some x0.1
def dTr  (d:ByteArray)(q:Int):Option (ByteArray×Int) :=
 (bif(decide (d=(ByteArray.mk (List.toArray []))))then
 some (d,(IntKind.wrap .i64 ((IntKind.wrap .i64 (q+(ByteArray.size d:Int)))-(ByteArray.size d:Int))))
 else
  (qip (d,((48:Nat):Int))).bind fun x0=>
  some (x0,(IntKind.wrap .i64 ((IntKind.wrap .i64 (q+(ByteArray.size d:Int)))-(ByteArray.size x0:Int)))))
def ju(n:Int):Option (List Int):=bif decide (n≤10000)then some (ofN (10^n.toNat))else none
theorem qtV(n:Int)(y:List Int)(hg:(d1 (cI .i64)).good n)(h:ju n=some y):qxv n=some y:=by
 obtain⟨h1,h2⟩:=qh h;have:=soi h2;subst this
 unfold qxv qgW;simp only[h1,WM,Ki,zg,zh]
def qbs(p:ByteArray×Int):Option (ByteArray×Int):=bif Nat.ble (lb p.1).length 1000000&&(decide (-1000000≤p.2)&&decide (p.2≤1000000))then some (bs (jL 48 (lb p.1)),p.2+((lb p.1).length:Int)-((jL 48 (lb p.1)).length:Int))else none
theorem qfy(c:UInt8)(l:List UInt8):(jL c l).length≤l.length:=by
 unfold jL;rw[Wr];refine Kj (WB (V8 _)) ?_
 rw[Wr];exact zI _
theorem qxw(p:ByteArray×Int)(y:ByteArray×Int)(hg:(dc cS (d1 (cI .i64))).good p)(h:qbs p=some y):dTr p.1 p.2=some y:=by
 obtain⟨d,q⟩:=p;revert h;refine onB (P:=fun d=>qbs (d,q)=some y→dTr d q=some y) (fun l h=>?_) d
 obtain⟨h1,h2⟩:=qh h;have:=soi h2;subst this
 simp only[qC,zn,zO]at h1 ⊢;have hl:=zo h1.1;have ht:=qfy 48 l
 unfold dTr;rw[qU,qr];have w1:IntKind.i64.wrap (q+((l.length:Nat):Int))=q+((l.length:Nat):Int):=w64 (by omega) (by omega)
 by_cases h0:l=[]
 · subst h0
   rw[zb rfl,zg,qe,w1,w64 (by omega) (by omega)];rfl
 · rw[zk h0,zm]
   have r:qip (bs l,48)=some (bs (jL 48 l)):=by
    unfold qip;simp only[qC];rw[zp (by omega)];rfl
   refine obs r ?_
   rw[qe,qe,w1,w64 (by omega) (by omega)]
end
end Su
end
