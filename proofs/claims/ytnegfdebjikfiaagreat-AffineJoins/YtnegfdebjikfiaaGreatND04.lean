/-
  What functions of the program compute, in plain Lean, and that the evaluator finds it.
-/
import Derived.Test.YtnegfdebjikfiaaGreatSuXl
import Derived.Test.YtnegfdebjikfiaaGreatND02
set_option linter.unusedVariables false
set_option linter.unusedSimpArgs false
set_option maxRecDepth 10000
section
namespace Su
open Go Fly
noncomputable section
def qmf  (f:Int):Option (Int×Int) :=
 (bif(decide ((((qA (bK f.toNat)):Nat):Int)=2))then
 some ((IntKind.wrap .u64 (4503599627370496+((((bK f.toNat) % 4503599627370496):Nat):Int))),(IntKind.wrap .i64 (((((bK f.toNat) / 4503599627370496):Nat):Int)-1075)))
 else
  (bif(decide ((((qA (bK f.toNat)):Nat):Int)=1))then
  some (((((bK f.toNat) % 4503599627370496):Nat):Int),(-1074))
 else
  some ((0:Int),(0:Int))))
def qCl  (f:Int):Option Bool :=
 (bif(!(decide ((((qA (bK f.toNat)):Nat):Int)=3)))then
 some (!(decide ((((qA (bK f.toNat)):Nat):Int)=4)))
 else
  some false)
def qCm  (f:Int):Option Int :=
 (bif(bS f.toNat)then
 some (IntKind.wrap .i64 (0-(IntKind.wrap .i64 ((IntKind.wrap .i64 (((((bK f.toNat) / 4503599627370496):Nat):Int)*4503599627370496))+(IntKind.wrap .i64 ((((bK f.toNat) % 4503599627370496):Nat):Int))))))
 else
  some (IntKind.wrap .i64 ((IntKind.wrap .i64 (((((bK f.toNat) / 4503599627370496):Nat):Int)*4503599627370496))+(IntKind.wrap .i64 ((((bK f.toNat) % 4503599627370496):Nat):Int)))))
def qOf  (k:Int)(neg:Bool):Option Int :=
 (bif(decide (k<0))then
 (QV (true,(IntKind.wrap .i64 (Int.tdiv (IntKind.wrap .i64 (0-k)) 4503599627370496)),(IntKind.wrap .u64 (Int.tmod (IntKind.wrap .i64 (0-k)) 4503599627370496)))).bind fun x0=>
 some x0
 else
  (bif(decide (k=0))then
  (bif neg then
  (QV (true,(IntKind.wrap .i64 (Int.tdiv (IntKind.wrap .i64 (0-k)) 4503599627370496)),(IntKind.wrap .u64 (Int.tmod (IntKind.wrap .i64 (0-k)) 4503599627370496)))).bind fun x1=>
  some x1
 else
  (QV (false,(IntKind.wrap .i64 (Int.tdiv k 4503599627370496)),(IntKind.wrap .u64 (Int.tmod k 4503599627370496)))).bind fun x2=>
  some x2)
 else
  (QV (false,(IntKind.wrap .i64 (Int.tdiv k 4503599627370496)),(IntKind.wrap .u64 (Int.tmod k 4503599627370496)))).bind fun x3=>
  some x3))
def qCn  (f:Int):Option Bool :=
 some (decide ((Int.fdiv f (2^63))=1))
def uIs  (f:Int)(c:Int):Option Bool :=
 some (decide ((((qA (bK f.toNat)):Nat):Int)=c))
def qz7  (n:Bool):Option Int :=
 some ((((sgN n)+((4503599627370496*(Int.toNat 0))+(Int.toNat 0))):Nat):Int)
def uInf  (n:Bool):Option Int :=
 some ((((sgN n)+((4503599627370496*(Int.toNat 2047))+(Int.toNat 0))):Nat):Int)
def qkE(f:Int):Option (Int×Int):=some ((spM (bK f.toNat):Int),spE (bK f.toNat))
theorem qpI(f:Int)(y:Int×Int)(hg:(d1 (cI .u64)).good f)(h:qkE f=some y):qmf f=some y:=by
 obtain⟨n,rfl,hn⟩:=qG hg;have:=soi h;subst this
 unfold qmf;rw[zm];have hk:=qaw n;generalize bK n=k at *
 have c2:decide (((qA k:Nat):Int)=2)=decide (qA k=2):=qim k 2
 have c1:decide (((qA k:Nat):Int)=1)=decide (qA k=1):=qim k 1
 rw[c2,c1,Jp];unfold spM spE;by_cases hf:k≤9218868437227405311
 · rw[qT.2 hf,zf,zP (by omega),zP (by omega)]
   by_cases h0:k=0
   · subst h0
     rw[zR rfl];rfl
   · have b0:Nat.beq k 0=false:=Qy h0
     rw[zP h0,b0];unfold kM kE;by_cases h1:4503599627370496≤k
     · rw[zR h1,zP (by omega)]
       have:1≤k / 4503599627370496:=by omega
       simp only[V5,zf,zX,zL];rw[Jv (by omega) (by omega),w64 (by omega) (by omega)]
       congr 2 <;> omega
     · rw[zP h1,zR (by omega)]
       have:k / 4503599627370496=0:=by omega
       rw[this];rfl
 · rw[qe4.2 (by omega),zi]
   by_cases h1:k=9218868437227405312
   · rw[zR h1];rfl
   · rw[zP h1,zR (by omega)];rfl
def qs8(f:Int):Option Bool:=some (jo (bK f.toNat))
theorem qyr(f:Int)(y:Bool)(hg:(d1 (cI .u64)).good f)(h:qs8 f=some y):qCl f=some y:=by
 obtain⟨n,rfl,hn⟩:=qG hg;have:=soi h;subst this
 unfold qCl;rw[zm,← qnq];cases decide (((qA (bK n):Nat):Int)=3) <;> rfl
def qs9(f:Int):Option Int:=some (yf f.toNat)
theorem qys(f:Int)(y:Int)(hg:(d1 (cI .u64)).good f)(h:qs9 f=some y):qCm f=some y:=by
 obtain⟨n,rfl,hn⟩:=qG hg;have:=soi h;subst this
 unfold qCm yf;rw[zm];have hk:=qaw n;generalize bK n=k at *
 have e:IntKind.i64.wrap (IntKind.i64.wrap (((k / 4503599627370496:Nat):Int)*4503599627370496)+IntKind.i64.wrap ((k % 4503599627370496:Nat):Int))=(k:Int):=by
  rw[w64 (n:=((k / 4503599627370496:Nat):Int)*4503599627370496) (by omega) (by omega),w64 (n:=((k % 4503599627370496:Nat):Int)) (by omega) (by omega),w64 (by omega) (by omega)];omega
 rw[e,w64 (by omega) (by omega)];cases bS n
 · rfl
 · simp only[zf];congr 1;omega
def JL(p:Int×Bool):Option Int:=bif decide (-9218868437227405312≤p.1)&&decide (p.1≤9218868437227405312)then some (bif decide (p.1<0)||(decide (p.1=0)&&p.2)then((9223372036854775808+p.1.natAbs:Nat):Int)else((p.1.natAbs:Nat):Int))else none
theorem qCo{neg:Bool}{k:Nat}(h:k<9223372036854775808):QV (neg,((k / 4503599627370496:Nat):Int),((k % 4503599627370496:Nat):Int))=some ((sgN neg+k:Nat):Int):=by
 unfold QV;simp only[zm];rw[zd (by omega),zd (by omega),zd (by omega)];simp only[zW,zf]
 congr 2;omega
theorem qCp(p:Int×Bool)(y:Int)(hg:(dc (cI .i64) (d1 cB)).good p)(h:JL p=some y):qOf p.1 p.2=some y:=by
 obtain⟨k,neg⟩:=p;obtain⟨hc,h⟩:=qj h;have:=soi h;subst this
 simp only[zl,zy]at hc;obtain⟨h1,h2⟩:=hc;have pos:∀(b:Bool) (K:Nat),K≤9218868437227405312→QV (b,(IntKind.i64.wrap (Int.tdiv (K:Int) 4503599627370496)),(IntKind.u64.wrap (Int.tmod (K:Int) 4503599627370496)))=some ((sgN b+K:Nat):Int):=fun b K hK=>by
  rw[show(4503599627370496:Int)=((4503599627370496:Nat):Int) from rfl,qiK,qiL,w64 (by omega) (by omega),Jv (by omega) (by omega)];exact qCo (by omega)
 unfold qOf;simp only[];by_cases h3:k<0
 · obtain⟨K,hK⟩:∃K:Nat,k = -(K:Int):=⟨k.natAbs,by omega⟩
   have e:IntKind.i64.wrap (0-k)=(K:Int):=by rw[w64 (by omega) (by omega)];omega
   rw[zd h3,zf,e,pos true K (by omega)];have:k.natAbs=K:=by omega
   rw[this];rfl
 · obtain⟨K,rfl⟩:∃K:Nat,k=(K:Int):=⟨k.toNat,by omega⟩
   rw[zh h3,zi,Int.natAbs_natCast];by_cases h4:K=0
   · subst h4
     rw[zd (by rfl:((0:Nat):Int)=0),zf];have e:IntKind.i64.wrap (0-((0:Nat):Int))=((0:Nat):Int):=rfl
     cases neg with
     | true=>rw[zf,e,pos true 0 (by omega)];rfl
     | false=>rw[zi,pos false 0 (by omega)];rfl
   · rw[zh (by omega : ¬(K:Int)=0),zi,pos false K (by omega)]
     simp only[Kh,VK,zi,zj]
     congr 2;unfold sgN;rw[zi];omega
def qta(f:Int):Option Bool:=some (bS f.toNat)
theorem qyt(f:Int)(y:Bool)(hg:(d1 (cI .u64)).good f)(h:qta f=some y):qCn f=some y:=by
 obtain⟨n,rfl,hn⟩:=qG hg;have:=soi h;subst this
 unfold qCn;rw[qlY n hn,zm]
def qz8(p:Int×Int):Option Bool:=some (decide (((qA (bK p.1.toNat):Nat):Int)=p.2))
theorem qCq(p:Int×Int)(y:Bool)(hg:(dc (cI .u64) (d1 (cI .u8))).good p)(h:qz8 p=some y):uIs p.1 p.2=some y:=h
def qn0(n:Bool):Option Int:=some ((sgN n:Nat):Int)
theorem qtb(n:Bool)(y:Int)(hg:(d1 cB).good n)(h:qn0 n=some y):qz7 n=some y:=by
 have:=soi h;subst this
 cases n <;> rfl
def qCr(n:Bool):Nat:=sgN n+9218868437227405312
def qtc(n:Bool):Option Int:=some ((qCr n:Nat):Int)
theorem qyu(n:Bool)(y:Int)(hg:(d1 cB).good n)(h:qtc n=some y):uInf n=some y:=by
 have:=soi h;subst this
 cases n <;> rfl
end
end Su
end
section
namespace Su
open Go Fly
noncomputable section
def qCs  (a:Int)(b:Int):Option (Int×Bool) :=
 (bif(decide ((((qA (bK a.toNat)):Nat):Int)=4))then
 some ((0:Int),false)
 else
  (bif(decide ((((qA (bK b.toNat)):Nat):Int)=4))then
  some ((0:Int),false)
 else
  (bif(decide ((yf a.toNat)<(yf b.toNat)))then
  some ((-1),true)
 else
  (bif(decide ((yf b.toNat)<(yf a.toNat)))then
  some ((1:Int),true)
 else
  some ((0:Int),true)))))
def qtd  (m:Int):Option (List Bool) :=
 (bif(true&&((true&&(decide (0≤(((qn (qf (List.flatten [(wdB m)]))):Nat):Int))))&&(decide ((((qn (qf (List.flatten [(wdB m)]))):Nat):Int)≤(((List.length (List.flatten [(wdB m)])):Nat):Int)))))then
 some (List.take (Int.toNat ((((qn (qf (List.flatten [(wdB m)]))):Nat):Int)-0)) (List.drop 0 (List.flatten [(wdB m)])))
 else none)
def qmg  (k:Int):Option ((List Bool)×Int) :=
 (bif(decide ((Int.fdiv k (2^52))=0))then
 some ((List.flatten [(wdB (IntKind.wrap .u64 (Fly.qz Go.BinOp.and .i64 k 4503599627370495)))]),(-1074))
 else
  some ((List.flatten [(wdB (IntKind.wrap .u64 ((IntKind.wrap .u64 (Fly.qz Go.BinOp.and .i64 k 4503599627370495))+4503599627370496)))]),(IntKind.wrap .i64 ((Int.fdiv k (2^52))-1075))))
def qCt  (x:((List Bool)×(List Bool)×Int×Bool))(m:(List Bool))(e:Int):Option Int :=
 (jv (x.1,(IntKind.wrap .i64 (x.2.2.1-(min x.2.2.1 e))))).bind fun x0=>
 (qaT (m,x.2.1)).bind fun x1=>
 (jv (x1,(IntKind.wrap .i64 (e-(min x.2.2.1 e))))).bind fun x2=>
 (bif(decide ((jN (qf x0) (qf x2))=0))then
 (bif x.2.2.2 then
 some 1
 else
  some (jN (qf x0) (qf x2)))
 else
  some (jN (qf x0) (qf x2)))
def qte(p:Int×Int):Option (Int×Bool):=some (jZ p.1.toNat p.2.toNat,qcO p.1.toNat p.2.toNat)
theorem qyv(p:Int×Int)(y:Int×Bool)(hg:(dc (cI .u64) (d1 (cI .u64))).good p)(h:qte p=some y):qCs p.1 p.2=some y:=by
 have:=soi h;subst this
 unfold qCs jZ qcO qdC;rw[JB,JB];cases qB (bK p.1.toNat)
 · cases qB (bK p.2.toNat)
   · simp only[zi,VY,zX]
     cases decide (yf p.1.toNat<yf p.2.toNat)
     · cases decide (yf p.2.toNat<yf p.1.toNat) <;> rfl
     · rfl
   · rfl
 · rfl
theorem qgU:∀(k j n:Nat),j≤k→(qK k n).take j=qK j n
 | _,0,_,_=>by simp[qK]
 | 0,j+1,_,h=>absurd h (by omega)
 | k+1,j+1,n,h=>by simp only[qK,List.take_succ_cons,qgU k j (n / 2) (by omega)]
theorem qac{m:Nat}(h:m<18446744073709551616):qf (wdB (m:Int))=m:=by
 rw[qiJ,zm,Yf];exact Kq h
theorem jY(m:Int):(wdB m).length=64:=by rw[qiJ,yh]
noncomputable def numL:{f:Nat→List Bool // ∀n,f n=qK (qn n) n}:=Classical.choice ⟨⟨_,fun _=>rfl⟩⟩
noncomputable def Qf(m:Int):List Bool:=numL.1 m.toNat
theorem qiM(m:Int):Qf m=qK (qn m.toNat) m.toNat:=numL.2 _
theorem qb2(m:Int):qf (Qf m)=m.toNat:=by rw[qiM,Yf];exact Kq (qbw _)
theorem qtf(m:Int):(Qf m).length=qn m.toNat:=by rw[qiM,yh]
noncomputable def qn1(m:Int):Option (List Bool):=some (Qf m)
theorem qtg(m:Int)(y:List Bool)(hg:(d1 (cI .u64)).good m)(h:qn1 m=some y):qtd m=some y:=by
 obtain⟨n,rfl,hn⟩:=qG hg;have:=soi h;subst this
 unfold qtd;have e:List.flatten [wdB (n:Int)]=wdB (n:Int):=by simp
 have hb:qn n≤64:=Qn.2 hn
 rw[e,qac hn,jY,zd (by omega),zd (by omega)];simp only[zW,zf,VT];rw[qiM,qiJ,zm,show(((qn n:Nat):Int)-0).toNat=qn n by omega,qgU _ _ _ hb]
theorem qth{a:Nat}(ha:a<9223372036854775808):qz .and .i64 (a:Int) 4503599627370495=((a % 4503599627370496:Nat):Int):=by
 show IntKind.i64.wrap (((BitVec.ofInt 64 (a:Int) &&& BitVec.ofInt 64 ((4503599627370495:Nat):Int)).toNat:Nat):Int)=_
 have h:=and_mask a 52
 rw[show 2^52-1=4503599627370495 from rfl,show 2^52=4503599627370496 from rfl]at h;rw[BitVec.toNat_and,jR a (by omega),jR _ (by omega),h];exact w64 (by omega) (by omega)
noncomputable def yT(k:Int):Option (List Bool×Int):=bif decide (0≤k)then some (wdB ((kM k.toNat:Nat):Int),((kE k.toNat:Nat):Int)-1074)else none
theorem qpJ(k:Int)(y:List Bool×Int)(hg:(d1 (cI .i64)).good k)(h:yT k=some y):qmg k=some y:=by
 have hk:=qbv.1 hg;obtain⟨hc,h⟩:=qj h;have:=soi h;subst this
 have hc:=Ku hc;obtain⟨K,rfl⟩:∃K:Nat,k=(K:Int):=⟨k.toNat,by omega⟩
 have e:∀x:Int,List.flatten [wdB x]=wdB x:=fun x=>by simp
 unfold qmg kM kE;rw[e,e,yQ,qth (by omega),zm,show(2:Nat)^52=4503599627370496 from rfl,Jv (n:=((K % 4503599627370496:Nat):Int)) (by omega) (by omega),Jv (by omega) (by omega)];by_cases h0:K / 4503599627370496=0
 · rw[zd (by omega),zR h0,h0];rfl
 · rw[zh (by omega),zP h0,zi,w64 (by omega) (by omega)]
   congr 2
   omega
def YS(rest:Bool)(M N:Nat):Int:=bif decide (jN M N=0)then(bif rest then 1 else jN M N)else jN M N
def okX(x:List Bool×List Bool×Int×Bool):Bool:=decide (x.1.length≤1000000000)&&decide (x.2.1.length≤1000000000)&&decide (-100000≤x.2.2.1)&&decide (x.2.2.1≤100000)
def Qg(p:(List Bool×List Bool×Int×Bool)×List Bool×Int):Option Int :=
 bif okX p.1&&(decide (p.2.1.length≤1000000000)&&(decide (-100000≤p.2.2)&&decide (p.2.2≤100000)))then
  some (YS p.1.2.2.2 (2^(p.1.2.2.1-min p.1.2.2.1 p.2.2).toNat*qf p.1.1) (2^(p.2.2-min p.1.2.2.1 p.2.2).toNat*(qf p.2.1*qf p.1.2.1)))
 else none
theorem Yh{a:List Bool}{n:Int}(h:n.toNat+a.length≤549755813888):jv (a,n)=some (List.replicate n.toNat false++a):=by
 unfold jv;have:Nat.ble (n.toNat+a.length) 549755813888=true:=by rw[KX];exact h
 simp only[];rw[this];rfl
theorem qkF{a b:List Bool}(h:a.length+b.length+1≤549755813888):qaT (a,b)=some (qkz a b):=by
 unfold qaT;have:Nat.ble (a.length+b.length+1) 549755813888=true:=by rw[KX];exact h
 simp only[];rw[this];rfl
theorem qyw(p:(List Bool×List Bool×Int×Bool)×List Bool×Int)(y:Int)(hg:(dc (cA (dc (cQ 4 1) (dc (cQ 4 1) (dc (cI .i64) (d1 cB))))) (dc (cQ 4 1) (d1 (cI .i64)))).good p)(h:Qg p=some y):qCt p.1 p.2.1 p.2.2=some y:=by
 obtain⟨⟨A,B,E,rest⟩,m,e⟩:=p;obtain⟨hc,h⟩:=qj h;have:=soi h;subst this
 simp only[okX,zl,zy]at hc;obtain⟨⟨⟨⟨h1,h2⟩,h3⟩,h4⟩,h5,h6,h7⟩:=hc;unfold qCt YS;simp only[];have hm:=qb1 m B B.length;rw[w64 (by omega) (by omega),w64 (by omega) (by omega),Yh (by omega),zj,qkF (by omega),zj,
  Yh (show(e-min E e).toNat+(qkz m B).length≤549755813888 by unfold qkz;omega),zj,Yg,Yg,qkB]
 cases decide (jN (2^(E-min E e).toNat*qf A) (2^(e-min E e).toNat*(qf m*qf B))=0)
 · rfl
 · cases rest <;> rfl
end
end Su
end
section
namespace Su
open Go Fly
noncomputable section
def Qh:Stp (Int×Int×(List Bool)×(List Bool)×Int×Bool×Unit):=fun p0=>(bif(decide (p0.1<p0.2.1))then
 (yT (IntKind.wrap .i64 (p0.2.1-(IntKind.wrap .i64 (Int.tdiv (IntKind.wrap .i64 (p0.2.1-p0.1)) 2))))).bind fun x1=>
 (Qg ((p0.2.2.1,p0.2.2.2.1,p0.2.2.2.2.1,p0.2.2.2.2.2.1),x1.1,x1.2)).bind fun x2=>
 (bif(decide (0≤x2))then
 some (.inl ((IntKind.wrap .i64 (p0.2.1-(IntKind.wrap .i64 (Int.tdiv (IntKind.wrap .i64 (p0.2.1-p0.1)) 2)))),p0.2.1,p0.2.2.1,p0.2.2.2.1,p0.2.2.2.2.1,p0.2.2.2.2.2.1,()))
 else
  some (.inl (p0.1,(IntKind.wrap .i64 ((IntKind.wrap .i64 (p0.2.1-(IntKind.wrap .i64 (Int.tdiv (IntKind.wrap .i64 (p0.2.1-p0.1)) 2))))-1)),p0.2.2.1,p0.2.2.2.1,p0.2.2.2.2.1,p0.2.2.2.2.2.1,())))
 else
  some (.inr (p0.1,p0.2.1,p0.2.2.1,p0.2.2.2.1,p0.2.2.2.2.1,p0.2.2.2.2.2.1,())))
def qmh  (fu:Nat)(x:((List Bool)×(List Bool)×Int×Bool)):Option Int :=
 (itP fu (Qh) ((0:Int),(9218868437227405312:Int),x.1,x.2.1,x.2.2.1,x.2.2.2,())).bind fun x3=>
 some x3.1
theorem qyx{F:Nat}(hF:0<F)(x y:Nat):jN (x*F) (y*F)=jN x y:=by
 unfold jN;by_cases h:x<y
 · rw[zR h,zR (KS h hF)]
 · by_cases h':x=y
   · subst h';simp
   · rw[zP h,zP h']
     have:y*F<x*F:=KS (by omega) hF
     rw[zP (by omega),zP (by omega)]
theorem qgV{E e:Int}(hE : -6000≤E)(he : -6000≤e)(M N:Nat):jN (2^(E-min E e).toNat*M) (2^(e-min E e).toNat*N)=jN (M*2^(E+6000).toNat) (N*2^(e+6000).toNat):=by
 have h1:(E+6000).toNat=(E-min E e).toNat+(min E e+6000).toNat:=by omega
 have h2:(e+6000).toNat=(e-min E e).toNat+(min E e+6000).toNat:=by omega
 rw[h1,h2,Kg,Kg,← zZ,← zZ,qyx (zJ _),Kw M,Kw N]
theorem qyy{x y:Nat}:0≤jN x y↔y≤x:=by
 unfold jN;by_cases h:x<y
 · rw[zR h];omega
 · by_cases h':x=y
   · rw[zP h,zR h'];omega
   · rw[zP h,zP h'];omega
theorem qfi{x y:Nat}:jN x y=0↔x=y:=by
 unfold jN;by_cases h:x<y
 · rw[zR h];omega
 · by_cases h':x=y
   · rw[zP h,zR h'];omega
   · rw[zP h,zP h'];omega
theorem qyz{rest:Bool}{x y:Nat}:0≤YS rest x y↔y≤x:=by
 unfold YS;by_cases h:jN x y=0
 · rw[zd h,zf]
   have:=qfi.1 h
   cases rest with
   | false=>rw[zi,h];omega
   | true=>rw[zf];omega
 · rw[zh h,zi];exact qyy
theorem qti(k:Nat):kM k<9007199254740992:=by unfold kM;split <;> omega
theorem qz9{k:Nat}(h:k≤9218868437227405312):kE k≤2046:=by unfold kE;omega
theorem qyA{A B:List Bool}{E:Int}{rest:Bool}(hA:A.length≤1000000000)(hB:B.length≤1000000000)(h1 : -5000≤E)(h2:E≤5000)(hB1:qf B=1){m:Nat}(hm:m<18446744073709551616){e:Int}(he1 : -6000≤e)(he2:e≤5000) :
 Qg ((A,B,E,rest),wdB (m:Int),e)=some (YS rest (qf A*2^(E+6000).toNat) (m*2^(e+6000).toNat)):=by
 unfold Qg okX;simp only[];have hl:(wdB (m:Int)).length=64:=jY _
 rw[zd hA,zd hB,zd (show -100000≤E by omega),zd (show E≤100000 by omega),zd (show(wdB (m:Int)).length≤1000000000 by omega),zd (show -100000≤e by omega),zd (show e≤100000 by omega)];simp only[zW,zf];unfold YS;rw[hB1,Wo,qac hm,qgV (by omega) he1]
theorem qtj{A B:List Bool}{E:Int}{rest:Bool}(hA:A.length≤1000000000)(hB:B.length≤1000000000)(h1 : -5000≤E)(h2:E≤5000)(hB1:qf B=1)(hM:qf A≠0){k:Nat}(hk:k≤9218868437227405312) :
 ∃c,Qg ((A,B,E,rest),wdB ((kM k:Nat):Int),((kE k:Nat):Int)-1074)=some c∧(0≤c↔k≤qp (qf A) (E+6000).toNat):=by
 have hk1:=qti k;have hk2:=qz9 hk;refine⟨_,qyA hA hB h1 h2 hB1 (by omega) (by omega) (by omega),?_⟩
 rw[qyz,← qru hM];have:(((kE k:Nat):Int)-1074+6000).toNat=kE k+SH:=by rw[qbx];omega
 rw[this,Kg,← zZ];exact Iff.rfl
def ZJ(x:List Bool×List Bool×Int×Bool):Option Int:=bif decide (x.1.length≤1000000000)&&decide (x.2.1.length≤1000000000)&&decide (-5000≤x.2.2.1)&&decide (x.2.2.1≤5000)&&Nat.beq (qf x.2.1) 1&&!Nat.beq (qf x.1) 0 then
 some ((min (qp (qf x.1) (x.2.2.1+6000).toNat) 9218868437227405312:Nat):Int)else none
theorem ZK{A B:List Bool}{E:Int}{rest:Bool}(hA:A.length≤1000000000)(hB:B.length≤1000000000)(h1 : -5000≤E)(h2:E≤5000)(hB1:qf B=1)(hM:qf A≠0)(F:Nat)(hF:F=min (qp (qf A) (E+6000).toNat) 9218868437227405312) :
 ∀(n lo hi:Nat),hi-lo≤n→lo≤F→F≤hi→hi≤9218868437227405312 →
 ∃f,itP f Qh ((lo:Int),(hi:Int),A,B,E,rest,())=some ((F:Int),(F:Int),A,B,E,rest,())
 | 0,lo,hi,hn,hlo,hhi,hb=>by
  have e1:lo=F:=by omega
  have e2:hi=F:=by omega
  rw[e1,e2];exact yP (by simp only[Qh];rw[zh (by omega)];rfl)
 | n+1,lo,hi,hn,hlo,hhi,hb=>by
  by_cases hlt:lo<hi
  · obtain⟨k,hk⟩:∃k,k=hi-(hi-lo) / 2:=⟨_,rfl⟩
    have hk1:lo<k:=by omega
    have hk2:k≤hi:=by omega
    obtain⟨c,hc,hc2⟩:=qtj (rest:=rest) hA hB h1 h2 hB1 hM (k:=k) (by omega)
    have hw:IntKind.i64.wrap ((hi:Int)-IntKind.i64.wrap (Int.tdiv (IntKind.i64.wrap ((hi:Int)-(lo:Int))) 2))=(k:Int):=by
     rw[w64 (n:=(hi:Int)-(lo:Int)) (by omega) (by omega),show(hi:Int)-(lo:Int)=((hi-lo:Nat):Int) by omega,show(2:Int)=((2:Nat):Int) from rfl,qiK,w64 (n:=(((hi-lo) / 2:Nat):Int)) (by omega) (by omega),w64 (by omega) (by omega)];omega
    have hs:yT (k:Int)=some (wdB ((kM k:Nat):Int),((kE k:Nat):Int)-1074):=by
     unfold yT;rw[zd (by omega),zf,zm]
    by_cases hle:k≤qp (qf A) (E+6000).toNat
    · refine QR (s':=((k:Int),(hi:Int),A,B,E,rest,())) ?_ (ZK hA hB h1 h2 hB1 hM F hF n k hi (by omega) (by omega) hhi hb)
      simp only[Qh];rw[zd (by omega:(lo:Int)<(hi:Int)),zf,hw,hs,zj,hc,zj,zd (hc2.2 hle)];rfl
    · refine QR (s':=((lo:Int),((k-1:Nat):Int),A,B,E,rest,())) ?_ (ZK hA hB h1 h2 hB1 hM F hF n lo (k-1) (by omega) hlo (by omega) (by omega))
      simp only[Qh];rw[zd (by omega:(lo:Int)<(hi:Int)),zf,hw,hs,zj,hc,zj,zh (fun h=>hle (hc2.1 h)),w64 (by omega) (by omega),show(k:Int)-1=((k-1:Nat):Int) by omega];rfl
  · have e1:lo=F:=by omega
    have e2:hi=F:=by omega
    rw[e1,e2];exact yP (by simp only[Qh];rw[zh (by omega)];rfl)
theorem qpK(x:List Bool×List Bool×Int×Bool)(y:Int)(hg:(d1 (cA (dc (cQ 4 1) (dc (cQ 4 1) (dc (cI .i64) (d1 cB)))))).good x)(h:ZJ x=some y):∃n,qmh n x=some y:=by
 obtain⟨A,B,E,rest⟩:=x;obtain⟨hc,h⟩:=qj h;have:=soi h;subst this
 simp only[zl,zy,Ky]at hc;obtain⟨⟨⟨⟨⟨h1,h2⟩,h3⟩,h4⟩,h5⟩,h6⟩:=hc;have h5:=zk h5;have h6:qf A≠0:=fun e=>by rw[e]at h6;exact absurd h6 (by decide)
 obtain⟨f,hf⟩:=ZK (rest:=rest) h1 h2 h3 h4 h5 h6 _ rfl 9218868437227405312 0 9218868437227405312 (by omega) (by omega) (by omega) (by omega)
 refine⟨f,?_⟩
 unfold qmh;simp only[];have hf':itP f Qh ((0:Int),(9218868437227405312:Int),A,B,E,rest,())=_:=hf
 rw[hf'];rfl
end
end Su
end
section
namespace Su
open Go Fly
noncomputable section
def qCu  (x:((List Bool)×(List Bool)×Int×Bool))(mode:Int):Option (Int×Int) :=
 (ZJ (x.1,x.2.1,x.2.2.1,x.2.2.2)).bind fun x0=>
 (yT x0).bind fun x1=>
 (Qg ((x.1,x.2.1,x.2.2.1,x.2.2.2),x1.1,x1.2)).bind fun x2=>
 (bif(!(decide (x2=0)))then
 (Qg ((x.1,x.2.1,x.2.2.1,x.2.2.2),(List.flatten [(wdB 1)]),(-1022))).bind fun x3=>
 (bif(decide (x3<0))then
 some (mode,(Fly.qz Go.BinOp.or .u8 (Fly.qz Go.BinOp.or .u8 0 1) 2),x0,(decide (x2=0)),(List.flatten [(wdB 1)]),x.1,x.2.1,x.2.2.1,x.2.2.2,())
 else
  some (mode,(Fly.qz Go.BinOp.or .u8 0 1),x0,(decide (x2=0)),(List.flatten [(wdB 1)]),x.1,x.2.1,x.2.2.1,x.2.2.2,())).bind fun x4=>
  some (x4.1,x4.2.1,x4.2.2.1,x4.2.2.2.1,x4.2.2.2.2.1,x4.2.2.2.2.2.1,x4.2.2.2.2.2.2.1,x4.2.2.2.2.2.2.2.1,x4.2.2.2.2.2.2.2.2.1,())
 else
  some (mode,(0:Int),x0,(decide (x2=0)),(List.flatten [(wdB 1)]),x.1,x.2.1,x.2.2.1,x.2.2.2,())).bind fun x5=>
  (bif(decide (x5.1=1))then
  some (x5.1,x5.2.1,x5.2.2.1,x5.2.2.2.1,x5.2.2.2.2.1,(!x5.2.2.2.1),x5.2.2.2.2.2.1,x5.2.2.2.2.2.2.1,x5.2.2.2.2.2.2.2.1,x5.2.2.2.2.2.2.2.2.1,())
 else
  (bif(!(decide (x5.1=2)))then
  (yT x5.2.2.1).bind fun x6=>
  (bif(decide (9218868437227405311<x5.2.2.1))then
  (yo ((wdB ((9007199254740991:Nat):Int)),x5.2.2.2.2.1)).bind fun x7=>
  some (x5.1,x5.2.1,x5.2.2.1,x5.2.2.2.1,x5.2.2.2.2.1,false,x7,(((2045:Nat):Int)-1074),x5.2.2.2.2.2.1,x5.2.2.2.2.2.2.1,x5.2.2.2.2.2.2.2.1,x5.2.2.2.2.2.2.2.2.1,())
 else
  some (x5.1,x5.2.1,x5.2.2.1,x5.2.2.2.1,x5.2.2.2.2.1,false,x6.1,x6.2,x5.2.2.2.2.2.1,x5.2.2.2.2.2.2.1,x5.2.2.2.2.2.2.2.1,x5.2.2.2.2.2.2.2.2.1,())).bind fun x8=>
  (jv (x8.2.2.2.2.2.2.1,(1:Int))).bind fun x9=>
  (yo (x9,x8.2.2.2.2.1)).bind fun x10=>
  (Qg ((x8.2.2.2.2.2.2.2.2.1,x8.2.2.2.2.2.2.2.2.2.1,x8.2.2.2.2.2.2.2.2.2.2.1,x8.2.2.2.2.2.2.2.2.2.2.2.1),x10,(IntKind.wrap .i64 (x8.2.2.2.2.2.2.2.1-1)))).bind fun x11=>
  (bif(decide (0<x11))then
  some (x8.1,x8.2.1,x8.2.2.1,x8.2.2.2.1,x8.2.2.2.2.1,true,x8.2.2.2.2.2.2.2.2.1,x8.2.2.2.2.2.2.2.2.2.1,x8.2.2.2.2.2.2.2.2.2.2.1,x8.2.2.2.2.2.2.2.2.2.2.2.1,())
 else
  (bif(decide (x11=0))then
  some (x8.1,x8.2.1,x8.2.2.1,x8.2.2.2.1,x8.2.2.2.2.1,(decide ((Int.tmod x8.2.2.1 2)=1)),x8.2.2.2.2.2.2.2.2.1,x8.2.2.2.2.2.2.2.2.2.1,x8.2.2.2.2.2.2.2.2.2.2.1,x8.2.2.2.2.2.2.2.2.2.2.2.1,())
 else
  some (x8.1,x8.2.1,x8.2.2.1,x8.2.2.2.1,x8.2.2.2.2.1,false,x8.2.2.2.2.2.2.2.2.1,x8.2.2.2.2.2.2.2.2.2.1,x8.2.2.2.2.2.2.2.2.2.2.1,x8.2.2.2.2.2.2.2.2.2.2.2.1,())))
 else
  some (x5.1,x5.2.1,x5.2.2.1,x5.2.2.2.1,x5.2.2.2.2.1,false,x5.2.2.2.2.2.1,x5.2.2.2.2.2.2.1,x5.2.2.2.2.2.2.2.1,x5.2.2.2.2.2.2.2.2.1,())).bind fun x12=>
  some (x12.1,x12.2.1,x12.2.2.1,x12.2.2.2.1,x12.2.2.2.2.1,x12.2.2.2.2.2.1,x12.2.2.2.2.2.2.1,x12.2.2.2.2.2.2.2.1,x12.2.2.2.2.2.2.2.2.1,x12.2.2.2.2.2.2.2.2.2.1,())).bind fun x13=>
  (bif(decide (x13.2.2.1≤9218868437227405311))then
  (bif x13.2.2.2.2.2.1 then
  some (x13.1,x13.2.1,(IntKind.wrap .i64 (x13.2.2.1+1)),x13.2.2.2.1,x13.2.2.2.2.1,x13.2.2.2.2.2.1,x13.2.2.2.2.2.2.1,x13.2.2.2.2.2.2.2.1,x13.2.2.2.2.2.2.2.2.1,x13.2.2.2.2.2.2.2.2.2.1,())
 else
  some (x13.1,x13.2.1,x13.2.2.1,x13.2.2.2.1,x13.2.2.2.2.1,x13.2.2.2.2.2.1,x13.2.2.2.2.2.2.1,x13.2.2.2.2.2.2.2.1,x13.2.2.2.2.2.2.2.2.1,x13.2.2.2.2.2.2.2.2.2.1,())).bind fun x14=>
  (bif(decide (9218868437227405311<x14.2.2.1))then
  (bif(decide (x14.1=2))then
  some ((9218868437227405311:Int),(Fly.qz Go.BinOp.or .u8 (Fly.qz Go.BinOp.or .u8 x14.2.1 4) 1))
 else
  some ((9218868437227405312:Int),(Fly.qz Go.BinOp.or .u8 (Fly.qz Go.BinOp.or .u8 x14.2.1 4) 1)))
 else
  some (x14.2.2.1,x14.2.1))
 else
  (bif(decide (9218868437227405311<x13.2.2.1))then
  (bif(decide (x13.1=2))then
  some ((9218868437227405311:Int),(Fly.qz Go.BinOp.or .u8 (Fly.qz Go.BinOp.or .u8 x13.2.1 4) 1))
 else
  some ((9218868437227405312:Int),(Fly.qz Go.BinOp.or .u8 (Fly.qz Go.BinOp.or .u8 x13.2.1 4) 1)))
 else
  some (x13.2.2.1,x13.2.1)))
noncomputable def mgL:{f:Int→Nat→Nat→Bool→Nat // ∀mode M Q rest,f mode M Q rest=Jn (twN false mode) (qp M Q+(upN false mode (qO M Q % 2 == 1) (hfN M Q) (rest||rsN M Q)).toNat)}:=Classical.choice ⟨⟨_,fun _ _ _ _=>rfl⟩⟩
noncomputable def mgK(mode:Int)(M Q:Nat)(rest:Bool):Nat:=mgL.1 mode M Q rest
theorem qmi(mode:Int)(M Q:Nat)(rest:Bool):mgK mode M Q rest=Jn (twN false mode) (qp M Q+(upN false mode (qO M Q % 2 == 1) (hfN M Q) (rest||rsN M Q)).toNat):=mgL.2 mode M Q rest
def mf0(ex un:Bool):Int:=bif !ex then(bif un then(Fly.qz BinOp.or .u8 (Fly.qz BinOp.or .u8 0 1) 2)else(Fly.qz BinOp.or .u8 0 1))else 0
def mfX(mode:Int)(M Q:Nat)(rest:Bool):Int :=
 let f0:=mf0 (decide (YS rest (M*2^Q) (kM (min (qp M Q) 9218868437227405312)*2^(kE (min (qp M Q) 9218868437227405312)+SH))=0)) (decide (YS rest (M*2^Q) (1*2^4978)<0))
 bif Nat.ble (qp M Q+(upN false mode (qO M Q % 2 == 1) (hfN M Q) (rest||rsN M Q)).toNat) qU then f0 else Fly.qz BinOp.or .u8 (Fly.qz BinOp.or .u8 f0 4) 1
noncomputable def mfL:{f:Int→Nat→Nat→Bool→Int // ∀mode M Q rest,f mode M Q rest=mfX mode M Q rest}:=Classical.choice ⟨⟨_,fun _ _ _ _=>rfl⟩⟩
noncomputable def mgF(mode:Int)(M Q:Nat)(rest:Bool):Int:=mfL.1 mode M Q rest
theorem qCv(mode:Int)(M Q:Nat)(rest:Bool):mgF mode M Q rest=mfX mode M Q rest:=mfL.2 mode M Q rest
noncomputable def ZL(p:(List Bool×List Bool×Int×Bool)×Int):Option (Int×Int) :=
 bif decide (p.1.1.length≤1000000000)&&decide (p.1.2.1.length≤1000000000)&&decide (-5000≤p.1.2.2.1)&&decide (p.1.2.2.1≤5000)&&Nat.beq (qf p.1.2.1) 1&&!Nat.beq (qf p.1.1) 0 then
  some (((mgK p.2 (qf p.1.1) (p.1.2.2.1+6000).toNat p.1.2.2.2:Nat):Int),mgF p.2 (qf p.1.1) (p.1.2.2.1+6000).toNat p.1.2.2.2)
 else none
theorem qtk{A B:List Bool}{E:Int}{rest:Bool}(hA:A.length≤1000000000)(hB:B.length≤1000000000)(h1 : -5000≤E)(h2:E≤5000)(hB1:qf B=1){m:List Bool}(hm:m.length≤1000000000){e:Int}(he1 : -6000≤e)(he2:e≤5000) :
 Qg ((A,B,E,rest),m,e)=some (YS rest (qf A*2^(E+6000).toNat) (qf m*2^(e+6000).toNat)):=by
 unfold Qg okX;simp only[];rw[zd hA,zd hB,zd (show -100000≤E by omega),zd (show E≤100000 by omega),zd hm,zd (show -100000≤e by omega),zd (show e≤100000 by omega)];simp only[zW,zf];unfold YS;rw[hB1,Wo,qgV (by omega) he1]
theorem qb3{a b:List Bool}(h:max a.length b.length+1≤549755813888):yo (a,b)=some (QH a b):=by
 unfold yo;have:Nat.ble (max a.length b.length+1) 549755813888=true:=by rw[KX];exact h
 simp only[];rw[this];rfl
theorem qtl:List.flatten [wdB 1]=wdB 1:=by simp
theorem qCw{M Q:Nat}(hM:M≠0)(rest:Bool):YS rest (M*2^Q) ((2*kM (qp M Q)+1)*2^(kE (qp M Q)+(SH-1)))=if hfN M Q then(if rest||rsN M Q then 1 else 0)else -1:=by
 unfold YS;rw[qxa hM];cases hfN M Q <;> cases rsN M Q <;> cases rest <;> rfl
theorem qtm{M Q:Nat}(hM:M≠0)(rest:Bool):decide (YS rest (M*2^Q) (kM (qp M Q)*2^(kE (qp M Q)+SH))=0) = !(hfN M Q||(rest||rsN M Q)):=by
 have h:=qdt (E:=Q) hM
 unfold kV at h;rw[zZ,← Kg]at h;unfold YS;by_cases h0:jN (M*2^Q) (kM (qp M Q)*2^(kE (qp M Q)+SH))=0
 · obtain⟨e1,e2⟩:=h.1 (qfi.1 h0)
   rw[zd h0,zf,e1,e2,h0];cases rest <;> rfl
 · rw[zh h0,zi,zh h0]
   have : ¬(hfN M Q=false∧rsN M Q=false):=fun e=>h0 (qfi.2 (h.2 e))
   revert this;cases hfN M Q <;> cases rsN M Q <;> cases rest <;> simp
theorem qtn(M Q:Nat):(qp M Q % 2 == 1)=(qO M Q % 2 == 1):=by
 have:qp M Q % 2=qO M Q % 2:=by unfold qp;omega
 rw[this]
theorem qyB(p:(List Bool×List Bool×Int×Bool)×Int)(y:Int×Int)(hg:(dc (cA (dc (cQ 4 1) (dc (cQ 4 1) (dc (cI .i64) (d1 cB))))) (d1 (cI .u8))).good p)(h:ZL p=some y):qCu p.1 p.2=some y:=by
 obtain⟨⟨A,B,E,rest⟩,mode⟩:=p;obtain⟨hc,h⟩:=qj h;have:=soi h;subst this
 simp only[zl,zy,Ky]at hc;obtain⟨⟨⟨⟨⟨h1,h2⟩,h3⟩,h4⟩,h5⟩,h6⟩:=hc;have hfl:ZJ (A,B,E,rest)=some ((min (qp (qf A) (E+6000).toNat) 9218868437227405312:Nat):Int):=by
  unfold ZJ;simp only[];rw[zd h1,zd h2,zd h3,zd h4,h5,h6];rfl
 have hB1:=zk h5;have hM:qf A≠0:=fun e=>by rw[e]at h6;exact absurd h6 (by decide)
 simp only[];rw[qmi,qCv];unfold mfX;simp only[];have hmid:=qCw (Q:=(E+6000).toNat) hM rest
 have hexa:=qtm (Q:=(E+6000).toNat) hM rest
 have hodd:=qtn (qf A) (E+6000).toNat
 have look:=@qtk A B E rest h1 h2 h3 h4 hB1
 rw[← hodd];obtain⟨Q,hQ⟩:∃Q,(E+6000).toNat=Q:=⟨_,rfl⟩
 rw[hQ]at hfl hmid hexa look ⊢;obtain⟨M,hMe⟩:∃M,qf A=M:=⟨_,rfl⟩
 rw[hMe]at hfl hmid hexa look hM ⊢;obtain⟨k,hk⟩:∃k,min (qp M Q) 9218868437227405312=k:=⟨_,rfl⟩
 rw[hk]at hfl ⊢;have hkM:=qti k;have hkE:=qz9 (k:=k) (by omega)
 have hsp:yT (k:Int)=some (wdB ((kM k:Nat):Int),((kE k:Nat):Int)-1074):=by
  unfold yT;rw[zd (by omega),zf,zm]
 have l0:Qg ((A,B,E,rest),wdB ((kM k:Nat):Int),((kE k:Nat):Int)-1074)=some (YS rest (M*2^Q) (kM k*2^(kE k+SH))):=by
  rw[look (by rw[jY];omega) (by omega) (by omega),qac (by omega),show(((kE k:Nat):Int)-1074+6000).toNat=kE k+SH by rw[qbx];omega]
 have l1:Qg ((A,B,E,rest),wdB 1,-1022)=some (YS rest (M*2^Q) (1*2^4978)):=by
  rw[look (by rw[jY];omega) (by omega) (by omega),show qf (wdB 1)=1 from qac (m:=1) (by omega),show((-1022:Int)+6000).toNat=4978 from rfl]
 obtain⟨c0,hc0⟩:∃c0,YS rest (M*2^Q) (kM k*2^(kE k+SH))=c0:=⟨_,rfl⟩
 obtain⟨c1,hc1⟩:∃c1,YS rest (M*2^Q) (1*2^4978)=c1:=⟨_,rfl⟩
 rw[hc0]at l0 ⊢;rw[hc1]at l1 ⊢;have hF0:∀ {β:Type} (kf:Int×(Int×Int×Bool×List Bool×List Bool×List Bool×Int×Bool×Unit)→Option β),(bif(!(decide (c0=0)))then
  (some c1).bind fun x3=>(bif(decide (x3<0))then
    some (mode,(Fly.qz Go.BinOp.or .u8 (Fly.qz Go.BinOp.or .u8 0 1) 2),(k:Int),(decide (c0=0)),wdB 1,A,B,E,rest,())
    else some (mode,(Fly.qz Go.BinOp.or .u8 0 1),(k:Int),(decide (c0=0)),wdB 1,A,B,E,rest,())).bind fun x4=>some (x4.1,x4.2.1,x4.2.2.1,x4.2.2.2.1,x4.2.2.2.2.1,x4.2.2.2.2.2.1,x4.2.2.2.2.2.2.1,x4.2.2.2.2.2.2.2.1,x4.2.2.2.2.2.2.2.2.1,())
  else some (mode,(0:Int),(k:Int),(decide (c0=0)),wdB 1,A,B,E,rest,())).bind kf=kf (mode,mf0 (decide (c0=0)) (decide (c1<0)),(k:Int),decide (c0=0),wdB 1,A,B,E,rest,()):=fun kf=>by
  unfold mf0;cases decide (c0=0)
  · rw[zj];cases decide (c1<0) <;> rfl
  · rfl
 unfold qCu;simp only[];rw[hfl,zj,hsp,zj,l0,zj,qtl,l1,hF0];generalize mf0 (decide (c0=0)) (decide (c1<0))=f0
 simp only[];have fin:∀u:Bool,(k≤9218868437227405311→u=upN false mode (qp M Q % 2 == 1) (hfN M Q) (rest||rsN M Q)) →
  (bif decide ((k:Int)≤9218868437227405311)then
    (bif u then(bif decide (9218868437227405311<IntKind.i64.wrap ((k:Int)+1))then(bif decide (mode=2)then some ((9218868437227405311:Int),Fly.qz BinOp.or .u8 (Fly.qz BinOp.or .u8 f0 4) 1)else some ((9218868437227405312:Int),Fly.qz BinOp.or .u8 (Fly.qz BinOp.or .u8 f0 4) 1))else some (IntKind.i64.wrap ((k:Int)+1),f0))
      else(bif decide (9218868437227405311<(k:Int))then(bif decide (mode=2)then some ((9218868437227405311:Int),Fly.qz BinOp.or .u8 (Fly.qz BinOp.or .u8 f0 4) 1)else some ((9218868437227405312:Int),Fly.qz BinOp.or .u8 (Fly.qz BinOp.or .u8 f0 4) 1))else some ((k:Int),f0)))
    else(bif decide (9218868437227405311<(k:Int))then(bif decide (mode=2)then some ((9218868437227405311:Int),Fly.qz BinOp.or .u8 (Fly.qz BinOp.or .u8 f0 4) 1)else some ((9218868437227405312:Int),Fly.qz BinOp.or .u8 (Fly.qz BinOp.or .u8 f0 4) 1))else some ((k:Int),f0))) =
  some (((Jn (twN false mode) (qp M Q+(upN false mode (qp M Q % 2 == 1) (hfN M Q) (rest||rsN M Q)).toNat):Nat):Int),bif Nat.ble (qp M Q+(upN false mode (qp M Q % 2 == 1) (hfN M Q) (rest||rsN M Q)).toNat) qU then f0 else Fly.qz BinOp.or .u8 (Fly.qz BinOp.or .u8 f0 4) 1):=by
  intro u hu;have htw:twN false mode=decide (mode=2):=rfl
  have hw:IntKind.i64.wrap ((k:Int)+1)=((k+1:Nat):Int):=by rw[w64 (by omega) (by omega)];omega
  rw[hw,htw];unfold Jn;by_cases hkt:k≤9218868437227405311
  · have hku:=hu hkt
    rw[← hku,show qp M Q=k by omega,zd (by omega),zf];cases u with
    | false=>
     have:Nat.ble (k+false.toNat) qU=true:=by rw[KX];exact hkt
     rw[this,zi,zh (by omega)];rfl
    | true=>
     by_cases hk1:k+1≤9218868437227405311
     · have:Nat.ble (k+true.toNat) qU=true:=by rw[KX];exact hk1
       rw[this,zf,zh (by omega)];rfl
     · have:Nat.ble (k+true.toNat) qU=false:=by
        cases hb:Nat.ble (k+true.toNat) qU with
        | false=>rfl
        | true=>exact absurd (zr hb) hk1
       rw[this,zf,zd (by omega)];cases decide (mode=2) <;> rfl
  · have hb:Nat.ble (qp M Q+(upN false mode (qp M Q % 2 == 1) (hfN M Q) (rest||rsN M Q)).toNat) qU=false:=by
     cases hb:Nat.ble (qp M Q+(upN false mode (qp M Q % 2 == 1) (hfN M Q) (rest||rsN M Q)).toNat) qU with
     | false=>rfl
     | true=>
      have:=zr hb
      unfold qU at this;omega
    rw[hb,zh (by omega),zi,zd (by omega)];cases decide (mode=2) <;> rfl
 by_cases m1:mode=1
 · subst m1
   cases hex:decide (c0=0)with
   | true=>exact fin false (fun hkt=>by
    rw[show qp M Q=k by omega,hc0,hex]at hexa;show false=(hfN M Q||(rest||rsN M Q))
    generalize (hfN M Q||(rest||rsN M Q))=X at hexa ⊢
    cases X
    · first | rfl | exact absurd hexa (by decide)
    · first | rfl | exact absurd hexa (by decide))
   | false=>exact fin true (fun hkt=>by
    rw[show qp M Q=k by omega,hc0,hex]at hexa;show true=(hfN M Q||(rest||rsN M Q))
    generalize (hfN M Q||(rest||rsN M Q))=X at hexa ⊢
    cases X
    · first | rfl | exact absurd hexa (by decide)
    · first | rfl | exact absurd hexa (by decide))
 · rw[zh m1]
   by_cases m2:mode=2
   · rw[zd m2]
     exact fin false (fun _=>by subst m2;rfl)
   · rw[zh m2]
     have hup:∀od hf rs:Bool,upN false mode od hf rs=(hf&&(rs||od)):=fun od hf rs=>by
      unfold upN awN twN;simp only[zi];rw[zh m1,zh m2];rfl
     simp only[zi,zX,zf,hsp,zj];by_cases hkt:k≤9218868437227405311
     · have hfk:qp M Q=k:=by omega
       rw[hfk]at hmid;rw[zh (show¬(9218868437227405311:Int)<(k:Int) by omega)];simp only[zi,zj];have s1:jv (wdB ((kM k:Nat):Int),(1:Int))=some (List.replicate (1:Int).toNat false++wdB ((kM k:Nat):Int)):=Yh (by rw[jY];show 1+64≤_;omega)
       have hl1:(List.replicate (1:Int).toNat false++wdB ((kM k:Nat):Int)).length=65:=by rw[zp,jY];rfl
       have hv1:qf (List.replicate (1:Int).toNat false++wdB ((kM k:Nat):Int))=2*kM k:=by rw[Yg,qac (by omega)];rfl
       generalize List.replicate (1:Int).toNat false++wdB ((kM k:Nat):Int)=L1 at s1 hl1 hv1
       have s2:yo (L1,wdB 1)=some (QH L1 (wdB 1)):=qb3 (by rw[hl1,jY];omega)
       have hl2:=ZG L1 (wdB 1)
       rw[hl1,jY]at hl2;have hv2:=qbZ L1 (wdB 1)
       rw[hv1,show qf (wdB 1)=1 from qac (m:=1) (by omega)]at hv2;have s3:IntKind.i64.wrap (((kE k:Nat):Int)-1074-1)=((kE k:Nat):Int)-1075:=by rw[w64 (by omega) (by omega)];omega
       have s4:=look (m:=QH L1 (wdB 1)) (e:=((kE k:Nat):Int)-1075) (by omega) (by omega) (by omega)
       rw[hv2,show(((kE k:Nat):Int)-1075+6000).toNat=kE k+(SH-1) by rw[qbx];omega,hmid]at s4;obtain⟨c2,hc2⟩:∃c2:Int,(if hfN M Q=true then(if(rest||rsN M Q)=true then 1 else 0)else -1)=c2:=⟨_,rfl⟩
       rw[hc2]at s4;rw[s1,zj,s2,zj,s3,s4,zj];have hpar:decide (Int.tmod (k:Int) 2=1)=(k % 2 == 1):=by
        rw[show(2:Int)=((2:Nat):Int) from rfl,qiL,show(1:Int)=((1:Nat):Int) from rfl,Jq];rcases Vj k with e | e <;> rw[e] <;> rfl
       rw[hpar];have three:(hfN M Q=false∧c2 = -1)∨(hfN M Q=true∧(rest||rsN M Q)=false∧c2=0)∨(hfN M Q=true∧(rest||rsN M Q)=true∧c2=1):=by
        rw[← hc2];cases hfN M Q
        · exact .inl ⟨rfl,rfl⟩
        · cases(rest||rsN M Q)
          · exact .inr (.inl ⟨rfl,rfl,rfl⟩)
          · exact .inr (.inr ⟨rfl,rfl,rfl⟩)
       clear hc2;rcases three with⟨a1,rfl⟩ | ⟨a1,a2,rfl⟩ | ⟨a1,a2,rfl⟩
       · exact fin false (fun _=>by rw[hup,a1];rfl)
       · cases hp:(k % 2 == 1)with
         | true=>exact fin true (fun _=>by rw[hup,a1,a2,hfk,hp];rfl)
         | false=>exact fin false (fun _=>by rw[hup,a1,a2,hfk,hp];rfl)
       · exact fin true (fun _=>by rw[hup,a1,a2];rfl)
     · rw[zd (show(9218868437227405311:Int)<(k:Int) by omega)]
       simp only[zf,zj];have t1:yo (wdB ((9007199254740991:Nat):Int),wdB 1)=some (QH (wdB ((9007199254740991:Nat):Int)) (wdB 1)):=qb3 (by rw[jY,jY];omega)
       have hl0:=ZG (wdB ((9007199254740991:Nat):Int)) (wdB 1)
       rw[jY,jY]at hl0;generalize QH (wdB ((9007199254740991:Nat):Int)) (wdB 1)=L0 at t1 hl0
       have t2:jv (L0,(1:Int))=some (List.replicate (1:Int).toNat false++L0):=Yh (by show 1+L0.length≤_;omega)
       have hl1:(List.replicate (1:Int).toNat false++L0).length≤66:=by rw[zp];show 1+L0.length≤66;omega
       generalize List.replicate (1:Int).toNat false++L0=L1 at t2 hl1
       have t3:yo (L1,wdB 1)=some (QH L1 (wdB 1)):=qb3 (by rw[jY];omega)
       have hl2:=ZG L1 (wdB 1)
       rw[jY]at hl2;have t4:=look (m:=QH L1 (wdB 1)) (e:=IntKind.i64.wrap (((2045:Nat):Int)-1074-1)) (by omega) (by decide) (by decide)
       generalize YS rest (M*2^Q) (qf (QH L1 (wdB 1))*2^(IntKind.i64.wrap (((2045:Nat):Int)-1074-1)+6000).toNat)=c3 at t4
       rw[t1];simp only[zj];rw[t2,zj,t3,zj,t4,zj];cases decide (0<c3)with
       | true=>exact fin true (fun h=>absurd h hkt)
       | false=>
        cases decide (c3=0)with
        | true=>
         cases decide (Int.tmod (k:Int) 2=1)with
         | true=>exact fin true (fun h=>absurd h hkt)
         | false=>exact fin false (fun h=>absurd h hkt)
        | false=>exact fin false (fun h=>absurd h hkt)
end
end Su
end
section
namespace Su
open Go Fly
noncomputable section
def qfj(neg:Bool)(x:((List Bool)×(List Bool)×Int×Bool))(mode:Int) :=
 bif neg then
 (bif(decide (mode=2))then
 (ZL ((x.1,x.2.1,x.2.2.1,x.2.2.2),(1:Int))).bind fun x3=>
 (bif neg then
 (JL ((IntKind.wrap .i64 (0-x3.1)),true)).bind fun x4=>
 some (x4,x3.2)
 else
  (JL (x3.1,false)).bind fun x5=>
  some (x5,x3.2))
 else
  (ZL ((x.1,x.2.1,x.2.2.1,x.2.2.2),mode)).bind fun x6=>
  (bif neg then
  (JL ((IntKind.wrap .i64 (0-x6.1)),true)).bind fun x7=>
  some (x7,x6.2)
 else
  (JL (x6.1,false)).bind fun x8=>
  some (x8,x6.2)))
 else
  (ZL ((x.1,x.2.1,x.2.2.1,x.2.2.2),mode)).bind fun x9=>
  (bif neg then
  (JL ((IntKind.wrap .i64 (0-x9.1)),true)).bind fun x10=>
  some (x10,x9.2)
 else
  (JL (x9.1,false)).bind fun x11=>
  some (x11,x9.2))
def qto  (neg:Bool)(x:((List Bool)×(List Bool)×Int×Bool))(mode:Int):Option (Int×Int) :=
 (bif neg then
 (bif(decide (mode=1))then
 (ZL ((x.1,x.2.1,x.2.2.1,x.2.2.2),(2:Int))).bind fun x0=>
 (bif neg then
 (JL ((IntKind.wrap .i64 (0-x0.1)),true)).bind fun x1=>
 some (x1,x0.2)
 else
  (JL (x0.1,false)).bind fun x2=>
  some (x2,x0.2))
 else
  (qfj neg x mode))
 else
  (qfj neg x mode))
def qdE(neg:Bool)(mode:Int):Int:=bif neg then(bif decide (mode=1)then 2 else bif decide (mode=2)then 1 else mode)else mode
theorem qtp(tw:Bool)(k:Nat):Jn tw k≤9218868437227405312:=by
 unfold Jn;cases h:Nat.ble k qU with
 | true=>have:=zr h;unfold qU at this;rw[zf];omega
 | false=>cases tw <;> simp[qU]
theorem qCx(mode:Int)(M Q:Nat)(rest:Bool):mgK mode M Q rest≤9218868437227405312:=by rw[qmi];exact qtp _ _
theorem qEt(neg:Bool)(mode:Int){M:Nat}(hM:M≠0)(Q:Nat)(rest:Bool):sgN neg+mgK (qdE neg mode) M Q rest=RN neg mode M Q rest:=by
 rw[qmi];unfold RN;rw[Qy hM,zi];have h1:awN false (qdE neg mode)=awN neg mode:=by
  unfold awN qdE;cases neg
  · rfl
  · simp only[zf,zi]
    by_cases a:mode=1
    · subst a;rfl
    · by_cases b:mode=2
      · subst b;rfl
      · rw[zh a,zh b,zi,zi,zh a]
 have h2:twN false (qdE neg mode)=twN neg mode:=by
  unfold twN qdE;cases neg
  · rfl
  · simp only[zf,zi]
    by_cases a:mode=1
    · subst a;rfl
    · by_cases b:mode=2
      · subst b;rfl
      · rw[zh a,zh b,zi,zi,zh b]
 have h3:∀o h r:Bool,upN false (qdE neg mode) o h r=upN neg mode o h r:=fun o h r=>by unfold upN;rw[h1,h2]
 rw[h2,h3]
def okM(x:List Bool×List Bool×Int×Bool):Bool:=decide (x.1.length≤1000000000)&&decide (x.2.1.length≤1000000000)&&decide (-5000≤x.2.2.1)&&decide (x.2.2.1≤5000)&&Nat.beq (qf x.2.1) 1&&!Nat.beq (qf x.1) 0
noncomputable def qad(p:Bool×(List Bool×List Bool×Int×Bool)×Int):Option (Int×Int) :=
 bif okM p.2.1 then some (((sgN p.1+mgK (qdE p.1 p.2.2) (qf p.2.1.1) (p.2.1.2.2.1+6000).toNat p.2.1.2.2.2:Nat):Int),mgF (qdE p.1 p.2.2) (qf p.2.1.1) (p.2.1.2.2.1+6000).toNat p.2.1.2.2.2)else none
theorem qtq(p:Bool×(List Bool×List Bool×Int×Bool)×Int)(y:Int×Int)(hg:(dc cB (dc (cA (dc (cQ 4 1) (dc (cQ 4 1) (dc (cI .i64) (d1 cB))))) (d1 (cI .u8)))).good p)(h:qad p=some y):qto p.1 p.2.1 p.2.2=some y:=by
 obtain⟨neg,⟨A,B,E,rest⟩,mode⟩:=p;obtain⟨hc,h⟩:=qj h;have:=soi h;subst this
 have hm:∀w:Int,ZL ((A,B,E,rest),w)=some (((mgK w (qf A) (E+6000).toNat rest:Nat):Int),mgF w (qf A) (E+6000).toNat rest):=fun w=>by
  unfold ZL;unfold okM at hc;rw[hc];rfl
 have q1:∀K:Nat,K≤9218868437227405312→JL ((K:Int),false)=some (K:Int):=fun K hK=>by
  unfold JL;simp only[];rw[zd (by omega),zd (by omega),zh (show¬(K:Int)<0 by omega),Int.natAbs_natCast];simp
 have q2:∀K:Nat,K≤9218868437227405312→JL (IntKind.i64.wrap (0-(K:Int)),true)=some ((9223372036854775808+K:Nat):Int):=fun K hK=>by
  rw[w64 (by omega) (by omega)];unfold JL;simp only[];rw[zd (by omega),zd (by omega)];have e:(0-(K:Int)).natAbs=K:=by omega
  have e2:(decide (0-(K:Int)<0)||decide (0-(K:Int)=0)&&true)=true:=by
   by_cases h0:K=0
   · subst h0;rfl
   · rw[zd (by omega)];rfl
  rw[e,e2];rfl
 unfold qto qfj;simp only[];have k1:=fun w=>qCx w (qf A) (E+6000).toNat rest
 cases neg with
 | false=>
  simp only[zi,hm,zj,q1 _ (k1 _)];unfold sgN qdE;simp only[zi,Kk]
 | true=>
  unfold sgN qdE;simp only[zf];by_cases a:mode=1
  · subst a
    simp only[V5,zf,hm,zj,q2 _ (k1 _)]
  · rw[zh a]
    by_cases b:mode=2
    · subst b
      simp only[V5,zf,zi,hm,zj,q2 _ (k1 _)]
    · rw[zh b]
      simp only[zi,hm,zj,q2 _ (k1 _)]
end
end Su
end
section
namespace Su
open Go Fly
noncomputable section
def qmj  (neg:Bool)(m:(List Bool))(e:Int)(rest:Bool)(mode:Int):Option (Int×Int) :=
 (bif(decide ((qn (qf m):Int)=0))then
 some ((bif((decide (0<0))||((decide (0=0))&&neg))then(((9223372036854775808+(Int.natAbs 0)):Nat):Int)else(Int.natAbs 0:Int)),(0:Int))
 else
  (bif(true&&((true&&(decide (0≤(qn (qf m):Int))))&&(decide ((qn (qf m):Int)≤(List.length m:Int)))))then
  (bif rest then
  (qad (neg,((List.take (Int.toNat ((qn (qf m):Int)-0)) (List.drop 0 m)),[true],(min (max e (-5000)) 5000),(decide (54≤(qn (qf m):Int)))),mode)).bind fun x0=>
  some (x0.1,x0.2)
 else
  (qad (neg,((List.take (Int.toNat ((qn (qf m):Int)-0)) (List.drop 0 m)),[true],(min (max e (-5000)) 5000),false),mode)).bind fun x1=>
  some (x1.1,x1.2))
 else none))
theorem qmk(m:List Bool):qf (m.take (qn (qf m)))=qf m:=by
 have hn:qn (qf m)≤m.length:=Qn.2 (Z9 m)
 have h:=qbU (m.take (qn (qf m))) (m.drop (qn (qf m)))
 rw[Kv,zV,Vb hn]at h;have hlt:=qbw (qf m)
 by_cases h0:qf (m.drop (qn (qf m)))=0
 · rw[h0,VS,Kr]at h;exact h.symm
 · have h2:2^qn (qf m)*1≤2^qn (qf m)*qf (m.drop (qn (qf m))):=We _ (by omega)
   omega
noncomputable def qX(p:Bool×List Bool×Int×Bool×Int):Option (Int×Int) :=
 bif decide (p.2.1.length≤1000000000)then
  some (((rnd p.1 p.2.2.2.2 (qf p.2.1) p.2.2.1 p.2.2.2.1:Nat):Int),bif Nat.beq (qf p.2.1) 0 then 0 else mgF (qdE p.1 p.2.2.2.2) (qf p.2.1) (min (max p.2.2.1 (-5000)) 5000+6000).toNat (p.2.2.2.1&&decide (53<qn (qf p.2.1))))
 else none
theorem qpL(p:Bool×List Bool×Int×Bool×Int)(y:Int×Int)(hg:(dc cB (dc (cQ 4 1) (dc (cI .i64) (dc cB (d1 (cI .u8)))))).good p)(h:qX p=some y):qmj p.1 p.2.1 p.2.2.1 p.2.2.2.1 p.2.2.2.2=some y:=by
 obtain⟨neg,m,e,rest,mode⟩:=p;obtain⟨hc,h⟩:=qj h;have:=soi h;subst this
 have hc:m.length≤1000000000:=Ku hc
 have hn:qn (qf m)≤m.length:=Qn.2 (Z9 m)
 have hv:=qmk m;unfold qmj;simp only[];rw[Zw];by_cases h0:qf m=0
 · rw[h0,Qo,qgC]
   cases neg <;> rfl
 · have hp:=Jm h0
   rw[Qy h0,zh (show¬((qn (qf m):Nat):Int)=0 by omega),zd (show(0:Int)≤((qn (qf m):Nat):Int) by omega),zd (show((qn (qf m):Nat):Int)≤((m.length:Nat):Int) by omega)];simp only[zi,zf,zW,VT];rw[show(((qn (qf m):Nat):Int)-0).toNat=qn (qf m) by omega];have hs:∀r:Bool,qad (neg,(m.take (qn (qf m)),[true],min (max e (-5000)) 5000,r),mode)=some (((RN neg mode (qf m) (min (max e (-5000)) 5000+6000).toNat r:Nat):Int),mgF (qdE neg mode) (qf m) (min (max e (-5000)) 5000+6000).toNat r):=fun r=>by
    unfold qad okM;simp only[];rw[hv,qEt neg mode h0,Qy h0,zd (show(m.take (qn (qf m))).length≤1000000000 by rw[zV];omega),zd (show -5000≤min (max e (-5000)) 5000 by omega),zd (show min (max e (-5000)) 5000≤5000 by omega)];rfl
   have hd:decide ((54:Int)≤((qn (qf m):Nat):Int))=decide (53<qn (qf m)):=by
    by_cases h53:53<qn (qf m)
    · rw[zd h53,zd (by omega)]
    · rw[zh h53,zh (by omega)]
   rw[hd,hs,hs];cases rest <;> rfl
end
end Su
end
