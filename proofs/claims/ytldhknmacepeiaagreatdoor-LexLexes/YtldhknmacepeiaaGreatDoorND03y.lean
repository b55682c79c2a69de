/-
  What functions of the program compute, in plain Lean, and that the evaluator finds it.
-/
import Derived.Test.YtldhknmacepeiaaGreatDoorSuXl
import Derived.Test.YtldhknmacepeiaaGreatDoorNX06
import Derived.Test.YtldhknmacepeiaaGreatDoorRfc
set_option linter.unusedVariables false
set_option linter.unusedSimpArgs false
set_option maxRecDepth 10000
section
namespace Su
open Go Fly
noncomputable section
def qbv:Stp ((List Bool)×(List Bool)×(List Bool)×Int×Unit):=fun p0=>(bif(decide (p0.2.2.2.1<(List.length p0.2.1:Int)))then
 (idx p0.2.1 p0.2.2.2.1).bind fun x1=>
 (bif x1 then
 (QC (p0.1,p0.2.2.2.1)).bind fun x2=>
 (yG (p0.2.2.1,x2)).bind fun x3=>
 some (.inl (p0.1,p0.2.1,x3,(IntKind.wrap .i64 (p0.2.2.2.1+1)),()))
 else
  some (.inl (p0.1,p0.2.1,p0.2.2.1,(IntKind.wrap .i64 (p0.2.2.2.1+1)),())))
 else
  some (.inr (p0.1,p0.2.1,p0.2.2.1,p0.2.2.2.1,())))
def qzg  (fu:Nat)(a:(List Bool))(b:(List Bool)):Option (List Bool) :=
 (itP fu (qbv) (a,b,[],(0:Int),())).bind fun x4=>
 some x4.2.2.1
def qql  (neg:Bool)(exp:Int)(fr:Int):Option Int :=
 (bif neg then
 some (IntKind.wrap .u64 ((IntKind.wrap .u64 ((IntKind.wrap .u64 ((IntKind.wrap .u64 exp)*4503599627370496))+fr))+9223372036854775808))
 else
  some (IntKind.wrap .u64 ((IntKind.wrap .u64 ((IntKind.wrap .u64 exp)*4503599627370496))+fr)))
def JA(a b:List Bool):Nat→List Bool
 | 0=>[]
 | i+1=>bif tb2 (qf b) i then Qo (JA a b i) (List.replicate i false++a)else JA a b i
def Zc(a b:List Bool):List Bool:=JA a b b.length
theorem qbw(n:Nat)(a:List Bool):qf (List.replicate n false++a)=2^n*qf a:=by rw[qbq,qqb,Vc];omega
theorem qbx(a b:List Bool):∀i,(JA a b i).length≤a.length+i
 | 0=>by simp[JA]
 | i+1=>by
  have ih:=qbx a b i;unfold JA;cases tb2 (qf b) i with
  | false=>rw[zj];omega
  | true=>
   rw[zf];have:=qbu (JA a b i) (List.replicate i false++a)
   rw[zJ,Vc]at this;omega
theorem qiW(a b:List Bool):∀i,qf (JA a b i)=qf a*(qf b % 2^i)
 | 0=>by simp[JA,qf,Ww]
 | i+1=>by
  have ih:=qiW a b i;have hb:=qbs (qf b / 2^i)
  rw[Nat.mod_pow_succ (x:=qf b) (b:=2) (k:=i),hb];unfold JA;rw[show(qf b / 2^i % 2 == 1)=tb2 (qf b) i from rfl];cases tb2 (qf b) i with
  | false=>rw[zj,Bool.toNat_false,Vy,Ks];exact ih
  | true=>rw[zf,Bool.toNat_true,K8,qeA,ih,qbw,Kx,zB (2^i)]
theorem qby(a b:List Bool):qf (Zc a b)=qf a*qf b:=by
 unfold Zc;rw[qiW,Kf (ZN b)]
def JO(p:List Bool×List Bool):Option (List Bool):=bif Nat.ble (p.1.length+p.2.length+1) 549755813888 then some (Zc p.1 p.2)else none
theorem qfT{a b:List Bool}(hN:a.length+b.length+1≤549755813888):∀k i:Nat,i+k=b.length →
 ∃f,itP f qbv (a,b,JA a b i,(i:Int),())=some (a,b,JA a b b.length,(b.length:Int),())
 | 0,i,hk=>by
  have:i=b.length:=by omega
  subst this;exact js (by simp only[qbv];rw[zi (by omega)];rfl)
 | k+1,i,hk=>by
  refine jK (s':=(a,b,JA a b (i+1),((i+1:Nat):Int),())) ?_ (qfT hN k (i+1) (by omega))
  have hi:i<b.length:=by omega
  have hb:b[i]=tb2 (qf b) i:=by
   have:=qzc b i
   rw[zl hi]at this;exact this
  simp only[qbv];rw[za (by omega:(i:Int)<((b.length:Nat):Int)),zf,yH,zl hi,zd,hb,w64 (by omega) (by omega)];cases h:tb2 (qf b) i with
  | false=>
   rw[zj,show JA a b (i+1)=JA a b i by rw[JA,h];rfl];rfl
  | true=>
   rw[zf,show JA a b (i+1)=Qo (JA a b i) (List.replicate i false++a) by rw[JA,h];rfl];have h1:QC (a,(i:Int))=some (List.replicate i false++a):=by
    unfold QC;simp only[zg];have:Nat.ble (i+a.length) 549755813888=true:=by rw[K9];omega
    rw[this];rfl
   have h2:yG (JA a b i,List.replicate i false++a)=some (Qo (JA a b i) (List.replicate i false++a)):=by
    unfold yG;have hl:=qbx a b i;have:Nat.ble (max (JA a b i).length (List.replicate i false++a).length+1) 549755813888=true:=by rw[K9,zJ,Vc];omega
    simp only[];rw[this];rfl
   rw[h1,zd,h2];rfl
theorem qvk(p:List Bool×List Bool)(y:List Bool)(hg:(dc (cQ 4 1) (d1 (cQ 4 1))).good p)(h:JO p=some y):∃n,qzg n p.1 p.2=some y:=by
 obtain⟨a,b⟩:=p;obtain⟨hle,h⟩:=qi h;have:=soi h;subst this
 have hle:=zm hle;obtain⟨f,hf⟩:=qfT (a:=a) (b:=b) hle b.length 0 (by omega)
 refine⟨f,?_⟩
 unfold qzg;have hf':itP f qbv (a,b,([]:List Bool),(0:Int),())=_:=hf
 rw[hf'];rfl
def Q4(p:Bool×Int×Int):Option Int:=bif decide (0≤p.2.1)&&decide (p.2.1≤2047)&&decide (p.2.2≤4503599627370495)then some ((sgN p.1+(4503599627370496*p.2.1.toNat+p.2.2.toNat):Nat):Int)else none
theorem qqm(p:Bool×Int×Int)(y:Int)(hg:(dc cB (dc (cI .i64) (d1 (cI .u64)))).good p)(h:Q4 p=some y):qql p.1 p.2.1 p.2.2=some y:=by
 obtain⟨neg,e,fr⟩:=p;obtain⟨_,he,hf⟩:=hg;obtain⟨F,rfl,hF⟩:=YA hf;obtain⟨hc,h⟩:=qi h;have:=soi h;subst this
 simp only[zk,zD]at hc;obtain⟨⟨h1,h2⟩,h3⟩:=hc;obtain⟨E,rfl⟩:∃E:Nat,e=(E:Int):=⟨e.toNat,by omega⟩
 unfold qql;simp only[zg];rw[jH (n:=(E:Int)) (by omega) (by omega),jH (n:=(E:Int)*4503599627370496) (by omega) (by omega),jH (n:=(E:Int)*4503599627370496+(F:Int)) (by omega) (by omega)];unfold sgN;cases neg with
 | false=>simp only[zj];congr 1;omega
 | true=>
  simp only[zf];rw[jH (by omega) (by omega)];congr 1;omega
end
end Su
end
section
namespace Su
open Go Fly
noncomputable section
def qOf  (k:Int)(neg:Bool):Option Int :=
 (bif(decide (k<0))then
 (Q4 (true,(IntKind.wrap .i64 (Int.tdiv (IntKind.wrap .i64 (0-k)) 4503599627370496)),(IntKind.wrap .u64 (Int.tmod (IntKind.wrap .i64 (0-k)) 4503599627370496)))).bind fun x0=>
 some x0
 else
  (bif(decide (k=0))then
  (bif neg then
  (Q4 (true,(IntKind.wrap .i64 (Int.tdiv (IntKind.wrap .i64 (0-k)) 4503599627370496)),(IntKind.wrap .u64 (Int.tmod (IntKind.wrap .i64 (0-k)) 4503599627370496)))).bind fun x1=>
  some x1
 else
  (Q4 (false,(IntKind.wrap .i64 (Int.tdiv k 4503599627370496)),(IntKind.wrap .u64 (Int.tmod k 4503599627370496)))).bind fun x2=>
  some x2)
 else
  (Q4 (false,(IntKind.wrap .i64 (Int.tdiv k 4503599627370496)),(IntKind.wrap .u64 (Int.tmod k 4503599627370496)))).bind fun x3=>
  some x3))
def YC(p:Int×Bool):Option Int:=bif decide (-9218868437227405312≤p.1)&&decide (p.1≤9218868437227405312)then some (bif decide (p.1<0)||(decide (p.1=0)&&p.2)then((9223372036854775808+p.1.natAbs:Nat):Int)else((p.1.natAbs:Nat):Int))else none
theorem qzh{neg:Bool}{k:Nat}(h:k<9223372036854775808):Q4 (neg,((k / 4503599627370496:Nat):Int),((k % 4503599627370496:Nat):Int))=some ((sgN neg+k:Nat):Int):=by
 unfold Q4;simp only[zg];rw[za (by omega),za (by omega),za (by omega)];simp only[Kq,zf]
 congr 2;omega
theorem qzi(p:Int×Bool)(y:Int)(hg:(dc (cI .i64) (d1 cB)).good p)(h:YC p=some y):qOf p.1 p.2=some y:=by
 obtain⟨k,neg⟩:=p;obtain⟨hc,h⟩:=qi h;have:=soi h;subst this
 simp only[zk,zD]at hc;obtain⟨h1,h2⟩:=hc;have pos:∀(b:Bool) (K:Nat),K≤9218868437227405312→Q4 (b,(IntKind.i64.wrap (Int.tdiv (K:Int) 4503599627370496)),(IntKind.u64.wrap (Int.tmod (K:Int) 4503599627370496)))=some ((sgN b+K:Nat):Int):=fun b K hK=>by
  rw[show(4503599627370496:Int)=((4503599627370496:Nat):Int) from rfl,qpP,qpQ,w64 (by omega) (by omega),jH (by omega) (by omega)];exact qzh (by omega)
 unfold qOf;simp only[];by_cases h3:k<0
 · obtain⟨K,hK⟩:∃K:Nat,k = -(K:Int):=⟨k.natAbs,by omega⟩
   have e:IntKind.i64.wrap (0-k)=(K:Int):=by rw[w64 (by omega) (by omega)];omega
   rw[za h3,zf,e,pos true K (by omega)];have:k.natAbs=K:=by omega
   rw[this];rfl
 · obtain⟨K,rfl⟩:∃K:Nat,k=(K:Int):=⟨k.toNat,by omega⟩
   rw[zi h3,zj,Int.natAbs_natCast];by_cases h4:K=0
   · subst h4
     rw[za (by rfl:((0:Nat):Int)=0),zf];have e:IntKind.i64.wrap (0-((0:Nat):Int))=((0:Nat):Int):=rfl
     cases neg with
     | true=>rw[zf,e,pos true 0 (by omega)];rfl
     | false=>rw[zj,pos false 0 (by omega)];rfl
   · rw[zi (by omega : ¬(K:Int)=0),zj,pos false K (by omega)]
     simp only[V6,Bool.or_self,zj,zd]
     congr 2;unfold sgN;rw[zj];omega
end
end Su
end
section
namespace Su
open Go Fly
noncomputable section
def qkc  (k:Int):Option ((List Bool)×Int) :=
 (bif(decide ((Int.fdiv k (2^52))=0))then
 some ((List.flatten [(wdB (IntKind.wrap .u64 (Fly.qB Go.BinOp.and .i64 k 4503599627370495)))]),(-1074))
 else
  some ((List.flatten [(wdB (IntKind.wrap .u64 ((IntKind.wrap .u64 (Fly.qB Go.BinOp.and .i64 k 4503599627370495))+4503599627370496)))]),(IntKind.wrap .i64 ((Int.fdiv k (2^52))-1075))))
def qzj  (x:((List Bool)×(List Bool)×Int×Bool))(m:(List Bool))(e:Int):Option Int :=
 (QC (x.1,(IntKind.wrap .i64 (x.2.2.1-(min x.2.2.1 e))))).bind fun x0=>
 (JO (m,x.2.1)).bind fun x1=>
 (QC (x1,(IntKind.wrap .i64 (e-(min x.2.2.1 e))))).bind fun x2=>
 (bif(decide ((jy (qf x0) (qf x2))=0))then
 (bif x.2.2.2 then
 some 1
 else
  some (jy (qf x0) (qf x2)))
 else
  some (jy (qf x0) (qf x2)))
theorem qhm{m:Nat}(h:m<18446744073709551616):qf (wdB (m:Int))=m:=by
 rw[qeC,zg,Jc];exact Kf h
theorem yM(m:Int):(wdB m).length=64:=by rw[qeC,j4]
theorem qqn{a:Nat}(ha:a<9223372036854775808):qB .and .i64 (a:Int) 4503599627370495=((a % 4503599627370496:Nat):Int):=by
 show IntKind.i64.wrap (((BitVec.ofInt 64 (a:Int) &&& BitVec.ofInt 64 ((4503599627370495:Nat):Int)).toNat:Nat):Int)=_
 have h:=and_mask a 52
 rw[show 2^52-1=4503599627370495 from rfl,show 2^52=4503599627370496 from rfl]at h;rw[BitVec.toNat_and,y9 a (by omega),y9 _ (by omega),h];exact w64 (by omega) (by omega)
noncomputable def yk(k:Int):Option (List Bool×Int):=bif decide (0≤k)then some (wdB ((kM k.toNat:Nat):Int),((kE k.toNat:Nat):Int)-1074)else none
theorem qm2(k:Int)(y:List Bool×Int)(hg:(d1 (cI .i64)).good k)(h:yk k=some y):qkc k=some y:=by
 have hk:=QG.1 hg;obtain⟨hc,h⟩:=qi h;have:=soi h;subst this
 have hc:=zW hc;obtain⟨K,rfl⟩:∃K:Nat,k=(K:Int):=⟨k.toNat,by omega⟩
 have e:∀x:Int,List.flatten [wdB x]=wdB x:=fun x=>by simp
 unfold qkc kM kE;rw[e,e,qao,qqn (by omega),zg,show(2:Nat)^52=4503599627370496 from rfl,jH (n:=((K % 4503599627370496:Nat):Int)) (by omega) (by omega),jH (by omega) (by omega)];by_cases h0:K / 4503599627370496=0
 · rw[za (by omega),zr h0,h0];rfl
 · rw[zi (by omega),zp h0,zj,w64 (by omega) (by omega)]
   congr 2
   omega
def qvl(rest:Bool)(M N:Nat):Int:=bif decide (jy M N=0)then(bif rest then 1 else jy M N)else jy M N
def okX(x:List Bool×List Bool×Int×Bool):Bool:=decide (x.1.length≤1000000000)&&decide (x.2.1.length≤1000000000)&&decide (-100000≤x.2.2.1)&&decide (x.2.2.1≤100000)
def QD(p:(List Bool×List Bool×Int×Bool)×List Bool×Int):Option Int :=
 bif okX p.1&&(decide (p.2.1.length≤1000000000)&&(decide (-100000≤p.2.2)&&decide (p.2.2≤100000)))then
  some (qvl p.1.2.2.2 (2^(p.1.2.2.1-min p.1.2.2.1 p.2.2).toNat*qf p.1.1) (2^(p.2.2-min p.1.2.2.1 p.2.2).toNat*(qf p.2.1*qf p.1.2.1)))
 else none
theorem qbz{a:List Bool}{n:Int}(h:n.toNat+a.length≤549755813888):QC (a,n)=some (List.replicate n.toNat false++a):=by
 unfold QC;have:Nat.ble (n.toNat+a.length) 549755813888=true:=by rw[K9];exact h
 simp only[];rw[this];rfl
theorem qqo{a b:List Bool}(h:a.length+b.length+1≤549755813888):JO (a,b)=some (Zc a b):=by
 unfold JO;have:Nat.ble (a.length+b.length+1) 549755813888=true:=by rw[K9];exact h
 simp only[];rw[this];rfl
theorem qvm(p:(List Bool×List Bool×Int×Bool)×List Bool×Int)(y:Int)(hg:(dc (cA (dc (cQ 4 1) (dc (cQ 4 1) (dc (cI .i64) (d1 cB))))) (dc (cQ 4 1) (d1 (cI .i64)))).good p)(h:QD p=some y):qzj p.1 p.2.1 p.2.2=some y:=by
 obtain⟨⟨A,B,E,rest⟩,m,e⟩:=p;obtain⟨hc,h⟩:=qi h;have:=soi h;subst this
 simp only[okX,zk,zD]at hc;obtain⟨⟨⟨⟨h1,h2⟩,h3⟩,h4⟩,h5,h6,h7⟩:=hc;unfold qzj qvl;simp only[];have hm:=qbx m B B.length;rw[w64 (by omega) (by omega),w64 (by omega) (by omega),qbz (by omega),zd,qqo (by omega),zd,
  qbz (show(e-min E e).toNat+(Zc m B).length≤549755813888 by unfold Zc;omega),zd,qbw,qbw,qby]
 cases decide (jy (2^(E-min E e).toNat*qf A) (2^(e-min E e).toNat*(qf m*qf B))=0)
 · rfl
 · cases rest <;> rfl
end
end Su
end
section
namespace Su
open Go Fly
noncomputable section
def QE:Stp (Int×Int×(List Bool)×(List Bool)×Int×Bool×Unit):=fun p0=>(bif(decide (p0.1<p0.2.1))then
 (yk (IntKind.wrap .i64 (p0.2.1-(IntKind.wrap .i64 (Int.tdiv (IntKind.wrap .i64 (p0.2.1-p0.1)) 2))))).bind fun x1=>
 (QD ((p0.2.2.1,p0.2.2.2.1,p0.2.2.2.2.1,p0.2.2.2.2.2.1),x1)).bind fun x2=>
 (bif(decide (0≤x2))then
 some (.inl ((IntKind.wrap .i64 (p0.2.1-(IntKind.wrap .i64 (Int.tdiv (IntKind.wrap .i64 (p0.2.1-p0.1)) 2)))),p0.2.1,p0.2.2.1,p0.2.2.2.1,p0.2.2.2.2.1,p0.2.2.2.2.2.1,()))
 else
  some (.inl (p0.1,(IntKind.wrap .i64 ((IntKind.wrap .i64 (p0.2.1-(IntKind.wrap .i64 (Int.tdiv (IntKind.wrap .i64 (p0.2.1-p0.1)) 2))))-1)),p0.2.2.1,p0.2.2.2.1,p0.2.2.2.2.1,p0.2.2.2.2.2.1,())))
 else
  some (.inr (p0.1,p0.2.1,p0.2.2.1,p0.2.2.2.1,p0.2.2.2.2.1,p0.2.2.2.2.2.1,())))
def qkd  (fu:Nat)(x:((List Bool)×(List Bool)×Int×Bool)):Option Int :=
 (itP fu (QE) ((0:Int),(9218868437227405312:Int),x.1,x.2.1,x.2.2.1,x.2.2.2,())).bind fun x3=>
 some x3.1
theorem qlF{F:Nat}(hF:0<F)(x y:Nat):jy (x*F) (y*F)=jy x y:=by
 unfold jy;by_cases h:x<y
 · rw[zr h,zr (zY h hF)]
 · by_cases h':x=y
   · subst h';simp
   · rw[zp h,zp h']
     have:y*F<x*F:=zY (by omega) hF
     rw[zp (by omega),zp (by omega)]
theorem qvn(N M c a:Nat){e:Int}(he:e=(a:Int)-(c:Int)):jy (2^((0:Int)-min 0 e).toNat*N) (2^(e-min 0 e).toNat*M)=jy (N*2^c) (M*2^a):=by
 by_cases h:a≤c
 · have h1:((0:Int)-min 0 e).toNat=c-a:=by omega
   have h2:(e-min 0 e).toNat=0:=by omega
   have h3:c=(c-a)+a:=by omega
   rw[h1,h2,KS,KC];conv=>rhs;rw[h3,zP,← zt,qlF (zH a)]
   rw[zB N]
 · have h1:((0:Int)-min 0 e).toNat=0:=by omega
   have h2:(e-min 0 e).toNat=a-c:=by omega
   have h3:a=(a-c)+c:=by omega
   rw[h1,h2,KS,KC];conv=>rhs;rw[h3,zP,← zt,qlF (zH c)]
   rw[zB M]
theorem qvo{x y:Nat}:0≤jy x y↔y≤x:=by
 unfold jy;by_cases h:x<y
 · rw[zr h];omega
 · by_cases h':x=y
   · rw[zp h,zr h'];omega
   · rw[zp h,zp h'];omega
theorem qzk(x y:Nat):qvl false x y=jy x y:=by
 unfold qvl;cases decide (jy x y=0) <;> rfl
theorem qxk(k:Nat):kM k<9007199254740992:=by unfold kM;split <;> omega
theorem qqp{k:Nat}(h:k≤9218868437227405312):kE k≤2046:=by unfold kE;omega
theorem qiX{A B m:List Bool}(hA:A.length≤1000000000)(hB:B.length≤1000000000)(hm:m.length≤1000000000){c a:Nat}{e:Int}(he:e=(a:Int)-(c:Int))(ha:a≤50000)(hc:c≤50000) :
 QD ((A,B,(0:Int),false),m,e)=some (jy (qf A*2^c) (qf m*qf B*2^a)):=by
 unfold QD okX;simp only[];rw[za hA,za hB,za hm,za (show(-100000:Int)≤0 by omega),za (show(0:Int)≤100000 by omega),za (show(-100000:Int)≤e by omega),za (show e≤100000 by omega)];simp only[Kq,zf];rw[qzk,qvn _ _ c a he]
def Fle(N D k:Nat):Prop:=D*kV k≤N*2^1074
theorem qiY{N D j k:Nat}(h:j≤k)(hk:Fle N D k):Fle N D j:=Ky (zQ _ (qit h)) hk
theorem qqq(N D:Nat):∀n,∃F,F≤n∧Fle N D F∧(F<n→¬Fle N D (F+1))
 | 0=>⟨0,zw 0,by have e:kV 0=0:=by { unfold kV kM;simp };unfold Fle;rw[e,Vy];exact VX _,fun h=>absurd h (by omega)⟩
 | n+1=>by
  by_cases h:Fle N D (n+1)
  · exact⟨n+1,zw _,h,fun h=>absurd h (by omega)⟩
  · obtain⟨F,h1,h2,h3⟩:=qqq N D n
    refine⟨F,by omega,h2,fun hF=>?_⟩
    by_cases hn:F<n
    · exact h3 hn
    · have:F=n:=by omega
      subst this;exact h
noncomputable def flD(N D:Nat):Nat:=Classical.choose (qqq N D 9218868437227405312)
theorem qke(N D:Nat):flD N D≤9218868437227405312∧Fle N D (flD N D)∧(flD N D<9218868437227405312→¬Fle N D (flD N D+1)):=Classical.choose_spec (qqq N D 9218868437227405312)
theorem qvp{N D k:Nat}(hk:k≤9218868437227405312):Fle N D k↔k≤flD N D:=by
 obtain⟨h1,h2,h3⟩:=qke N D;constructor
 · intro h
   by_cases hl:k≤flD N D
   · exact hl
   · exact absurd (qiY (show flD N D+1≤k by omega) h) (h3 (by omega))
 · intro h;exact qiY h h2
theorem qm3{A B:List Bool}(hA:A.length≤1000000000)(hB:B.length≤1000000000){k:Nat}(hk:k≤9218868437227405312) :
 ∃c,QD ((A,B,(0:Int),false),wdB ((kM k:Nat):Int),((kE k:Nat):Int)-1074)=some c∧(0≤c↔k≤flD (qf A) (qf B)):=by
 have hk1:=qxk k;have hk2:=qqp hk;have hl:(wdB ((kM k:Nat):Int)).length=64:=yM _
 refine⟨_,qiX (c:=1074) (a:=kE k) hA hB (by omega) rfl (by omega) (by omega),?_⟩
 rw[qvo,← qvp hk,qhm (by omega)];unfold Fle kV;rw[zB (kM k) (qf B),zt]
noncomputable def J8(x:List Bool×List Bool×Int×Bool):Option Int:=bif decide (x.1.length≤1000000000)&&decide (x.2.1.length≤1000000000)&&decide (x.2.2.1=0)&&!x.2.2.2 then
 some ((flD (qf x.1) (qf x.2.1):Nat):Int)else none
theorem Zd{A B:List Bool}(hA:A.length≤1000000000)(hB:B.length≤1000000000)(F:Nat)(hF:F=flD (qf A) (qf B)) :
 ∀(n lo hi:Nat),hi-lo≤n→lo≤F→F≤hi→hi≤9218868437227405312 →
 ∃f,itP f QE ((lo:Int),(hi:Int),A,B,(0:Int),false,())=some ((F:Int),(F:Int),A,B,(0:Int),false,())
 | 0,lo,hi,hn,hlo,hhi,hb=>by
  have e1:lo=F:=by omega
  have e2:hi=F:=by omega
  rw[e1,e2];exact js (by simp only[QE];rw[zi (by omega)];rfl)
 | n+1,lo,hi,hn,hlo,hhi,hb=>by
  by_cases hlt:lo<hi
  · obtain⟨k,hk⟩:∃k,k=hi-(hi-lo) / 2:=⟨_,rfl⟩
    have hk1:lo<k:=by omega
    have hk2:k≤hi:=by omega
    obtain⟨c,hc,hc2⟩:=qm3 hA hB (k:=k) (by omega)
    rw[← hF]at hc2;have hw:IntKind.i64.wrap ((hi:Int)-IntKind.i64.wrap (Int.tdiv (IntKind.i64.wrap ((hi:Int)-(lo:Int))) 2))=(k:Int):=by
     rw[w64 (n:=(hi:Int)-(lo:Int)) (by omega) (by omega),show(hi:Int)-(lo:Int)=((hi-lo:Nat):Int) by omega,show(2:Int)=((2:Nat):Int) from rfl,qpP,w64 (n:=(((hi-lo) / 2:Nat):Int)) (by omega) (by omega),w64 (by omega) (by omega)];omega
    have hs:yk (k:Int)=some (wdB ((kM k:Nat):Int),((kE k:Nat):Int)-1074):=by
     unfold yk;rw[za (by omega),zf,zg]
    by_cases hle:k≤F
    · refine jK (s':=((k:Int),(hi:Int),A,B,(0:Int),false,())) ?_ (Zd hA hB F hF n k hi (by omega) (by omega) hhi hb)
      simp only[QE];rw[za (by omega:(lo:Int)<(hi:Int)),zf,hw,hs,zd,hc,zd,za (hc2.2 hle)];rfl
    · refine jK (s':=((lo:Int),((k-1:Nat):Int),A,B,(0:Int),false,())) ?_ (Zd hA hB F hF n lo (k-1) (by omega) hlo (by omega) (by omega))
      simp only[QE];rw[za (by omega:(lo:Int)<(hi:Int)),zf,hw,hs,zd,hc,zd,zi (fun h=>hle (hc2.1 h)),w64 (by omega) (by omega),show(k:Int)-1=((k-1:Nat):Int) by omega];rfl
  · have e1:lo=F:=by omega
    have e2:hi=F:=by omega
    rw[e1,e2];exact js (by simp only[QE];rw[zi (by omega)];rfl)
theorem qm4(x:List Bool×List Bool×Int×Bool)(y:Int)(hg:(d1 (cA (dc (cQ 4 1) (dc (cQ 4 1) (dc (cI .i64) (d1 cB)))))).good x)(h:J8 x=some y):∃n,qkd n x=some y:=by
 obtain⟨A,B,E,rest⟩:=x;obtain⟨hc,h⟩:=qi h;have:=soi h;subst this
 simp only[zk,zD,Vw]at hc;obtain⟨⟨⟨h1,h2⟩,h3⟩,h4⟩:=hc;subst h3 h4
 have hb:=(qke (qf A) (qf B)).1
 obtain⟨f,hf⟩:=Zd h1 h2 _ rfl 9218868437227405312 0 9218868437227405312 (by omega) (by omega) hb (by omega)
 refine⟨f,?_⟩
 unfold qkd;simp only[];have hf':itP f QE ((0:Int),(9218868437227405312:Int),A,B,(0:Int),false,())=_:=hf
 rw[hf'];rfl
end
end Su
end
section
namespace Su
open Go Fly
noncomputable section
def qkf  (x:((List Bool)×(List Bool)×Int×Bool))(mode:Int):Option (Int×Int) :=
 (J8 x).bind fun x0=>
 (yk x0).bind fun x1=>
 (QD (x,x1)).bind fun x2=>
 (bif(!(decide (x2=0)))then
 (QD (x,(List.flatten [(wdB 1)]),(-1022))).bind fun x3=>
 (bif(decide (x3<0))then
 some (mode,(Fly.qB Go.BinOp.or .u8 (Fly.qB Go.BinOp.or .u8 0 1) 2),x0,(decide (x2=0)),(List.flatten [(wdB 1)]),x.1,x.2.1,x.2.2.1,x.2.2.2,())
 else
  some (mode,(Fly.qB Go.BinOp.or .u8 0 1),x0,(decide (x2=0)),(List.flatten [(wdB 1)]),x.1,x.2.1,x.2.2.1,x.2.2.2,())).bind fun x4=>
  some (x4.1,x4.2.1,x4.2.2.1,x4.2.2.2.1,x4.2.2.2.2.1,x4.2.2.2.2.2.1,x4.2.2.2.2.2.2.1,x4.2.2.2.2.2.2.2.1,x4.2.2.2.2.2.2.2.2.1,())
 else
  some (mode,(0:Int),x0,(decide (x2=0)),(List.flatten [(wdB 1)]),x.1,x.2.1,x.2.2.1,x.2.2.2,())).bind fun x5=>
  (bif(decide (x5.1=1))then
  some (x5.1,x5.2.1,x5.2.2.1,x5.2.2.2.1,x5.2.2.2.2.1,(!x5.2.2.2.1),x5.2.2.2.2.2.1,x5.2.2.2.2.2.2.1,x5.2.2.2.2.2.2.2.1,x5.2.2.2.2.2.2.2.2.1,())
 else
  (bif(!(decide (x5.1=2)))then
  (yk x5.2.2.1).bind fun x6=>
  (bif(decide (9218868437227405311<x5.2.2.1))then
  (yG ((wdB ((9007199254740991:Nat):Int)),x5.2.2.2.2.1)).bind fun x7=>
  some (x5.1,x5.2.1,x5.2.2.1,x5.2.2.2.1,x5.2.2.2.2.1,false,x7,(((2045:Nat):Int)-1074),x5.2.2.2.2.2.1,x5.2.2.2.2.2.2.1,x5.2.2.2.2.2.2.2.1,x5.2.2.2.2.2.2.2.2.1,())
 else
  some (x5.1,x5.2.1,x5.2.2.1,x5.2.2.2.1,x5.2.2.2.2.1,false,x6.1,x6.2,x5.2.2.2.2.2.1,x5.2.2.2.2.2.2.1,x5.2.2.2.2.2.2.2.1,x5.2.2.2.2.2.2.2.2.1,())).bind fun x8=>
  (QC (x8.2.2.2.2.2.2.1,(1:Int))).bind fun x9=>
  (yG (x9,x8.2.2.2.2.1)).bind fun x10=>
  (QD ((x8.2.2.2.2.2.2.2.2.1,x8.2.2.2.2.2.2.2.2.2.1,x8.2.2.2.2.2.2.2.2.2.2.1,x8.2.2.2.2.2.2.2.2.2.2.2.1),x10,(IntKind.wrap .i64 (x8.2.2.2.2.2.2.2.1-1)))).bind fun x11=>
  (bif(decide (0<x11))then
  some (x8.1,x8.2.1,x8.2.2.1,x8.2.2.2.1,x8.2.2.2.2.1,true,x8.2.2.2.2.2.2.2.2.1,x8.2.2.2.2.2.2.2.2.2.1,x8.2.2.2.2.2.2.2.2.2.2.1,x8.2.2.2.2.2.2.2.2.2.2.2.1,())
 else
  (bif(decide (x11=0))then
  some (x8.1,x8.2.1,x8.2.2.1,x8.2.2.2.1,x8.2.2.2.2.1,(decide ((Int.tmod x8.2.2.1 2)=1)),x8.2.2.2.2.2.2.2.2.1,x8.2.2.2.2.2.2.2.2.2.1,x8.2.2.2.2.2.2.2.2.2.2.1,x8.2.2.2.2.2.2.2.2.2.2.2.1,())
 else
  some (x8.1,x8.2.1,x8.2.2.1,x8.2.2.2.1,x8.2.2.2.2.1,false,x8.2.2.2.2.2.2.2.2.1,x8.2.2.2.2.2.2.2.2.2.1,x8.2.2.2.2.2.2.2.2.2.2.1,x8.2.2.2.2.2.2.2.2.2.2.2.1,())))
 else
  some (x5.1,x5.2.1,x5.2.2.1,x5.2.2.2.1,x5.2.2.2.2.1,false,x5.2.2.2.2.2.1,x5.2.2.2.2.2.2.1,x5.2.2.2.2.2.2.2.1,x5.2.2.2.2.2.2.2.2.1,())).bind fun x12=>
  some (x12.1,x12.2.1,x12.2.2.1,x12.2.2.2.1,x12.2.2.2.2.1,x12.2.2.2.2.2.1,x12.2.2.2.2.2.2.1,x12.2.2.2.2.2.2.2.1,x12.2.2.2.2.2.2.2.2.1,x12.2.2.2.2.2.2.2.2.2.1,())).bind fun x13=>
  (bif(decide (x13.2.2.1≤9218868437227405311))then
  (bif x13.2.2.2.2.2.1 then
  some (x13.1,x13.2.1,(IntKind.wrap .i64 (x13.2.2.1+1)),x13.2.2.2.1,x13.2.2.2.2.1,x13.2.2.2.2.2.1,x13.2.2.2.2.2.2.1,x13.2.2.2.2.2.2.2.1,x13.2.2.2.2.2.2.2.2.1,x13.2.2.2.2.2.2.2.2.2.1,())
 else
  some (x13.1,x13.2.1,x13.2.2.1,x13.2.2.2.1,x13.2.2.2.2.1,x13.2.2.2.2.2.1,x13.2.2.2.2.2.2.1,x13.2.2.2.2.2.2.2.1,x13.2.2.2.2.2.2.2.2.1,x13.2.2.2.2.2.2.2.2.2.1,())).bind fun x14=>
  (bif(decide (9218868437227405311<x14.2.2.1))then
  (bif(decide (x14.1=2))then
  some ((9218868437227405311:Int),(Fly.qB Go.BinOp.or .u8 (Fly.qB Go.BinOp.or .u8 x14.2.1 4) 1))
 else
  some ((9218868437227405312:Int),(Fly.qB Go.BinOp.or .u8 (Fly.qB Go.BinOp.or .u8 x14.2.1 4) 1)))
 else
  some (x14.2.2.1,x14.2.1))
 else
  (bif(decide (9218868437227405311<x13.2.2.1))then
  (bif(decide (x13.1=2))then
  some ((9218868437227405311:Int),(Fly.qB Go.BinOp.or .u8 (Fly.qB Go.BinOp.or .u8 x13.2.1 4) 1))
 else
  some ((9218868437227405312:Int),(Fly.qB Go.BinOp.or .u8 (Fly.qB Go.BinOp.or .u8 x13.2.1 4) 1)))
 else
  some (x13.2.2.1,x13.2.1)))
theorem qqr:List.flatten [wdB 1]=wdB 1:=by simp
abbrev MgS:=Int×(Int×Int×Bool×List Bool×List Bool×List Bool×Int×Bool×Unit)
abbrev MgT:=Int×(Int×Int×Bool×List Bool×Bool×List Bool×List Bool×Int×Bool×Unit)
def qqs(x5:MgS):Option MgT:=(bif(decide (x5.1=1))then
 some (x5.1,x5.2.1,x5.2.2.1,x5.2.2.2.1,x5.2.2.2.2.1,(!x5.2.2.2.1),x5.2.2.2.2.2.1,x5.2.2.2.2.2.2.1,x5.2.2.2.2.2.2.2.1,x5.2.2.2.2.2.2.2.2.1,())
 else
  (bif(!(decide (x5.1=2)))then
  (yk x5.2.2.1).bind fun x6=>
  (bif(decide (9218868437227405311<x5.2.2.1))then
  (yG ((wdB ((9007199254740991:Nat):Int)),x5.2.2.2.2.1)).bind fun x7=>
  some (x5.1,x5.2.1,x5.2.2.1,x5.2.2.2.1,x5.2.2.2.2.1,false,x7,(((2045:Nat):Int)-1074),x5.2.2.2.2.2.1,x5.2.2.2.2.2.2.1,x5.2.2.2.2.2.2.2.1,x5.2.2.2.2.2.2.2.2.1,())
 else
  some (x5.1,x5.2.1,x5.2.2.1,x5.2.2.2.1,x5.2.2.2.2.1,false,x6.1,x6.2,x5.2.2.2.2.2.1,x5.2.2.2.2.2.2.1,x5.2.2.2.2.2.2.2.1,x5.2.2.2.2.2.2.2.2.1,())).bind fun x8=>
  (QC (x8.2.2.2.2.2.2.1,(1:Int))).bind fun x9=>
  (yG (x9,x8.2.2.2.2.1)).bind fun x10=>
  (QD ((x8.2.2.2.2.2.2.2.2.1,x8.2.2.2.2.2.2.2.2.2.1,x8.2.2.2.2.2.2.2.2.2.2.1,x8.2.2.2.2.2.2.2.2.2.2.2.1),x10,(IntKind.wrap .i64 (x8.2.2.2.2.2.2.2.1-1)))).bind fun x11=>
  (bif(decide (0<x11))then
  some (x8.1,x8.2.1,x8.2.2.1,x8.2.2.2.1,x8.2.2.2.2.1,true,x8.2.2.2.2.2.2.2.2.1,x8.2.2.2.2.2.2.2.2.2.1,x8.2.2.2.2.2.2.2.2.2.2.1,x8.2.2.2.2.2.2.2.2.2.2.2.1,())
 else
  (bif(decide (x11=0))then
  some (x8.1,x8.2.1,x8.2.2.1,x8.2.2.2.1,x8.2.2.2.2.1,(decide ((Int.tmod x8.2.2.1 2)=1)),x8.2.2.2.2.2.2.2.2.1,x8.2.2.2.2.2.2.2.2.2.1,x8.2.2.2.2.2.2.2.2.2.2.1,x8.2.2.2.2.2.2.2.2.2.2.2.1,())
 else
  some (x8.1,x8.2.1,x8.2.2.1,x8.2.2.2.1,x8.2.2.2.2.1,false,x8.2.2.2.2.2.2.2.2.1,x8.2.2.2.2.2.2.2.2.2.1,x8.2.2.2.2.2.2.2.2.2.2.1,x8.2.2.2.2.2.2.2.2.2.2.2.1,())))
 else
  some (x5.1,x5.2.1,x5.2.2.1,x5.2.2.2.1,x5.2.2.2.2.1,false,x5.2.2.2.2.2.1,x5.2.2.2.2.2.2.1,x5.2.2.2.2.2.2.2.1,x5.2.2.2.2.2.2.2.2.1,())).bind fun x12=>
  some (x12.1,x12.2.1,x12.2.2.1,x12.2.2.2.1,x12.2.2.2.2.1,x12.2.2.2.2.2.1,x12.2.2.2.2.2.2.1,x12.2.2.2.2.2.2.2.1,x12.2.2.2.2.2.2.2.2.1,x12.2.2.2.2.2.2.2.2.2.1,()))
def qqt(x13:MgT):Option (Int×Int):=(bif(decide (x13.2.2.1≤9218868437227405311))then
 (bif x13.2.2.2.2.2.1 then
 some (x13.1,x13.2.1,(IntKind.wrap .i64 (x13.2.2.1+1)),x13.2.2.2.1,x13.2.2.2.2.1,x13.2.2.2.2.2.1,x13.2.2.2.2.2.2.1,x13.2.2.2.2.2.2.2.1,x13.2.2.2.2.2.2.2.2.1,x13.2.2.2.2.2.2.2.2.2.1,())
 else
  some (x13.1,x13.2.1,x13.2.2.1,x13.2.2.2.1,x13.2.2.2.2.1,x13.2.2.2.2.2.1,x13.2.2.2.2.2.2.1,x13.2.2.2.2.2.2.2.1,x13.2.2.2.2.2.2.2.2.1,x13.2.2.2.2.2.2.2.2.2.1,())).bind fun x14=>
  (bif(decide (9218868437227405311<x14.2.2.1))then
  (bif(decide (x14.1=2))then
  some ((9218868437227405311:Int),(Fly.qB Go.BinOp.or .u8 (Fly.qB Go.BinOp.or .u8 x14.2.1 4) 1))
 else
  some ((9218868437227405312:Int),(Fly.qB Go.BinOp.or .u8 (Fly.qB Go.BinOp.or .u8 x14.2.1 4) 1)))
 else
  some (x14.2.2.1,x14.2.1))
 else
  (bif(decide (9218868437227405311<x13.2.2.1))then
  (bif(decide (x13.1=2))then
  some ((9218868437227405311:Int),(Fly.qB Go.BinOp.or .u8 (Fly.qB Go.BinOp.or .u8 x13.2.1 4) 1))
 else
  some ((9218868437227405312:Int),(Fly.qB Go.BinOp.or .u8 (Fly.qB Go.BinOp.or .u8 x13.2.1 4) 1)))
 else
  some (x13.2.2.1,x13.2.1)))
def qqu(x:List Bool×List Bool×Int×Bool)(mode x0 x2:Int):Option MgS:=(bif(!(decide (x2=0)))then
 (QD (x,(List.flatten [(wdB 1)]),(-1022))).bind fun x3=>
 (bif(decide (x3<0))then
 some (mode,(Fly.qB Go.BinOp.or .u8 (Fly.qB Go.BinOp.or .u8 0 1) 2),x0,(decide (x2=0)),(List.flatten [(wdB 1)]),x.1,x.2.1,x.2.2.1,x.2.2.2,())
 else
  some (mode,(Fly.qB Go.BinOp.or .u8 0 1),x0,(decide (x2=0)),(List.flatten [(wdB 1)]),x.1,x.2.1,x.2.2.1,x.2.2.2,())).bind fun x4=>
  some (x4.1,x4.2.1,x4.2.2.1,x4.2.2.2.1,x4.2.2.2.2.1,x4.2.2.2.2.2.1,x4.2.2.2.2.2.2.1,x4.2.2.2.2.2.2.2.1,x4.2.2.2.2.2.2.2.2.1,())
 else
  some (mode,(0:Int),x0,(decide (x2=0)),(List.flatten [(wdB 1)]),x.1,x.2.1,x.2.2.1,x.2.2.2,()))
theorem qzl(x:List Bool×List Bool×Int×Bool)(mode:Int):qkf x mode=(J8 x).bind fun x0=>(yk x0).bind fun x1=>(QD (x,x1)).bind fun x2=>(qqu x mode x0 x2).bind fun x5=>(qqs x5).bind qqt:=rfl
theorem qvq{A B:List Bool}(hA:A.length≤1000000000)(hB:B.length≤1000000000)(x0 x2:Int):∃f0,qqu (A,B,(0:Int),false) 0 x0 x2=some (0,f0,x0,decide (x2=0),wdB 1,A,B,(0:Int),false,()):=by
 obtain⟨c1,l1⟩:∃c1,QD ((A,B,(0:Int),false),wdB 1,(-1022:Int))=some c1:=by
  have hk:(-1022:Int)=((52:Nat):Int)-((1074:Nat):Int):=by omega
  exact⟨_,qiX hA hB (by rw[yM];omega) hk (by omega) (by omega)⟩
 unfold qqu;rw[qqr];cases decide (x2=0)with
 | true=>exact⟨_,rfl⟩
 | false=>
  simp only[VF,zf,l1,zd];cases decide (c1<0)with
  | true=>exact⟨_,rfl⟩
  | false=>exact⟨_,rfl⟩
theorem qvr(F:Nat)(hF:F≤9218868437227405312)(f0:Int)(d u:Bool)(o A B:List Bool):∃fl,qqt (0,f0,(F:Int),d,o,u,A,B,(0:Int),false,())= some (((F+(bif decide (F≤9218868437227405311)then u.toNat else 0):Nat):Int),fl):=by
 unfold qqt;simp only[];by_cases h:F≤9218868437227405311
 · rw[za h,za (show(F:Int)≤9218868437227405311 by omega)]
   cases u with
   | false=>
    simp only[zf,zj,zd,Bool.toNat_false,Ks];rw[zi (show¬(9218868437227405311:Int)<(F:Int) by omega)];exact⟨_,rfl⟩
   | true=>
    have hw:IntKind.i64.wrap ((F:Int)+1)=((F+1:Nat):Int):=by rw[w64 (by omega) (by omega)];omega
    simp only[zf,zd,Bool.toNat_true,hw];by_cases h2:F+1≤9218868437227405311
    · rw[zi (show¬(9218868437227405311:Int)<((F+1:Nat):Int) by omega)]
      exact⟨_,rfl⟩
    · rw[za (show(9218868437227405311:Int)<((F+1:Nat):Int) by omega)]
      have e:F+1=9218868437227405312:=by omega
      rw[zi (show¬(0:Int)=2 by omega),e];exact⟨_,rfl⟩
 · have hF2:F=9218868437227405312:=by omega
   rw[zi h,zi (show¬(F:Int)≤9218868437227405311 by omega),za (show(9218868437227405311:Int)<(F:Int) by omega),hF2];exact⟨_,rfl⟩
theorem qeE{a b:List Bool}(h:max a.length b.length+1≤549755813888):yG (a,b)=some (Qo a b):=by
 unfold yG;have:Nat.ble (max a.length b.length+1) 549755813888=true:=by rw[K9];exact h
 simp only[];rw[this];rfl
theorem qqv{x y:Nat}:0<jy x y↔y<x:=by
 unfold jy;by_cases h:x<y
 · rw[zr h];omega
 · by_cases h':x=y
   · rw[zp h,zr h'];omega
   · rw[zp h,zp h'];omega
theorem qqw{x y:Nat}:jy x y=0↔x=y:=by
 unfold jy;by_cases h:x<y
 · rw[zr h];omega
 · by_cases h':x=y
   · rw[zp h,zr h'];omega
   · rw[zp h,zp h'];omega
theorem qvs{A B:List Bool}(hA:A.length≤1000000000)(hB:B.length≤1000000000){F:Nat}(hF:F≤9218868437227405312)(f0:Int)(d:Bool) :
 ∃u,qqs (0,f0,(F:Int),d,wdB 1,A,B,(0:Int),false,())=some (0,f0,(F:Int),d,wdB 1,u,A,B,(0:Int),false,()) ∧
  (F≤9218868437227405311→u=(decide (qf B*jf F<qf A*P75)||(decide (qf B*jf F=qf A*P75)&&decide (F % 2=1)))):=by
 have hkM:=qxk F;have hkE:=qqp hF;have hsp:yk (F:Int)=some (wdB ((kM F:Nat):Int),((kE F:Nat):Int)-1074):=by
  unfold yk;rw[za (by omega),zf,zg]
 have n1 : ¬(0:Int)=1:=by omega
 have n2 : ¬(0:Int)=2:=by omega
 unfold qqs;simp only[zi n1,zi n2,zj,VF,zf,hsp,zd];by_cases hkt:F≤9218868437227405311
 · rw[zi (show¬(9218868437227405311:Int)<(F:Int) by omega)]
   simp only[zj,zd];have s1:QC (wdB ((kM F:Nat):Int),(1:Int))=some (List.replicate (1:Int).toNat false++wdB ((kM F:Nat):Int)):=qbz (by rw[yM];show 1+64≤_;omega)
   have hl1:(List.replicate (1:Int).toNat false++wdB ((kM F:Nat):Int)).length=65:=by rw[zJ,yM];rfl
   have hv1:qf (List.replicate (1:Int).toNat false++wdB ((kM F:Nat):Int))=2*kM F:=by rw[qbw,qhm (by omega)];rfl
   generalize List.replicate (1:Int).toNat false++wdB ((kM F:Nat):Int)=L1 at s1 hl1 hv1
   have s2:yG (L1,wdB 1)=some (Qo L1 (wdB 1)):=qeE (by rw[hl1,yM];omega)
   have hl2:=qbu L1 (wdB 1)
   rw[hl1,yM]at hl2;have hv2:=qeA L1 (wdB 1)
   rw[hv1,show qf (wdB 1)=1 from qhm (m:=1) (by omega)]at hv2;have s3:IntKind.i64.wrap (((kE F:Nat):Int)-1074-1)=((kE F:Nat):Int)-1075:=by rw[w64 (by omega) (by omega)];omega
   have s4:=qiX (A:=A) (B:=B) (m:=Qo L1 (wdB 1)) (c:=1075) (a:=kE F) (e:=((kE F:Nat):Int)-1075) hA hB (by omega) rfl (by omega) (by omega)
   have em:qf (Qo L1 (wdB 1))*qf B*2^kE F=qf B*jf F:=by rw[hv2,qbl,zB (2*kM F+1),zt]
   rw[em,← qer]at s4;rw[s1,zd,s2,zd,s3,s4,zd];have hpar:decide (Int.tmod (F:Int) 2=1)=decide (F % 2=1):=by
    rw[show(2:Int)=((2:Nat):Int) from rfl,qpQ];by_cases h:F % 2=1
    · rw[za h,za (by omega)]
    · rw[zi h,zi (by omega)]
   rw[hpar];generalize qf A*P75=X at *
   generalize qf B*jf F=Y at *
   refine⟨_,?_,fun _=>rfl⟩
   by_cases c1:Y<X
   · rw[za (qqv.2 c1),za c1];rfl
   · rw[zi (fun h=>c1 (qqv.1 h)),zi c1]
     by_cases c2:Y=X
     · rw[za (qqw.2 c2.symm),za c2];rfl
     · rw[zi (fun h=>c2 (qqw.1 h).symm),zi c2];rfl
 · rw[za (show(9218868437227405311:Int)<(F:Int) by omega)]
   simp only[zf,zd];have t1:yG (wdB ((9007199254740991:Nat):Int),wdB 1)=some (Qo (wdB ((9007199254740991:Nat):Int)) (wdB 1)):=qeE (by rw[yM,yM];omega)
   have hl0:=qbu (wdB ((9007199254740991:Nat):Int)) (wdB 1)
   rw[yM,yM]at hl0;generalize Qo (wdB ((9007199254740991:Nat):Int)) (wdB 1)=L0 at t1 hl0
   have t2:QC (L0,(1:Int))=some (List.replicate (1:Int).toNat false++L0):=qbz (by show 1+L0.length≤_;omega)
   have hl1:(List.replicate (1:Int).toNat false++L0).length≤66:=by rw[zJ];show 1+L0.length≤66;omega
   generalize List.replicate (1:Int).toNat false++L0=L1 at t2 hl1
   have t3:yG (L1,wdB 1)=some (Qo L1 (wdB 1)):=qeE (by rw[yM];omega)
   have hl2:=qbu L1 (wdB 1)
   rw[yM]at hl2;have t4:=qiX (A:=A) (B:=B) (m:=Qo L1 (wdB 1)) (c:=1075) (a:=2045) (e:=IntKind.i64.wrap (((2045:Nat):Int)-1074-1)) hA hB (by omega) (by decide) (by omega) (by omega)
   generalize jy (qf A*2^1075) (qf (Qo L1 (wdB 1))*qf B*2^2045)=c3 at t4
   rw[t1];simp only[zd];rw[t2,zd,t3,zd,t4,zd];cases decide (0<c3)with
   | true=>exact⟨_,rfl,fun h=>absurd h hkt⟩
   | false=>
    cases decide (c3=0)with
    | true=>exact⟨_,rfl,fun h=>absurd h hkt⟩
    | false=>exact⟨_,rfl,fun h=>absurd h hkt⟩
theorem p75s:(2:Nat)^1075=2*2^1074:=by decide +kernel
theorem qm5{A B:List Bool}(hA:A.length≤1000000000)(hB:B.length≤1000000000)(hD:qf B≠0):∃K:Nat,(∃fl,qkf (A,B,(0:Int),false) 0=some (((K:Nat):Int),fl))∧Nr (qf A) (qf B) K:=by
 obtain⟨b1,b2,b3⟩:=qke (qf A) (qf B)
 have hfl:J8 (A,B,(0:Int),false)=some ((flD (qf A) (qf B):Nat):Int):=by
  unfold J8;simp only[];rw[za hA,za hB];rfl
 generalize flD (qf A) (qf B)=F at *
 have hsp:yk (F:Int)=some (wdB ((kM F:Nat):Int),((kE F:Nat):Int)-1074):=by
  unfold yk;rw[za (by omega),zf,zg]
 have hkE:=qqp b1;have l0:=qiX (A:=A) (B:=B) (m:=wdB ((kM F:Nat):Int)) (c:=1074) (a:=kE F) hA hB (by rw[yM];omega) rfl (by omega) (by omega)
 obtain⟨f0,h1⟩:=qvq hA hB (F:Int) (jy (qf A*2^1074) (qf (wdB ((kM F:Nat):Int))*qf B*2^kE F))
 obtain⟨u,h2,h3⟩:=qvs hA hB b1 f0 (decide (jy (qf A*2^1074) (qf (wdB ((kM F:Nat):Int))*qf B*2^kE F)=0))
 obtain⟨fl,h4⟩:=qvr F b1 f0 (decide (jy (qf A*2^1074) (qf (wdB ((kM F:Nat):Int))*qf B*2^kE F)=0)) u (wdB 1) A B
 refine⟨F+(bif decide (F≤9218868437227405311)then u.toNat else 0),⟨fl,?_⟩,?_⟩
 · rw[qzl]
   refine obs hfl ?_
   refine obs hsp ?_
   refine obs l0 ?_
   refine obs h1 ?_
   exact obs h2 h4
 · clear h1 h2 h4 l0 hsp hfl
   have hDp:0<qf B:=Nat.pos_of_ne_zero hD
   unfold Fle at b2 b3;have e75:qf A*P75=2*(qf A*2^1074):=by { rw[qer,p75s];generalize (2:Nat)^1074=Z;exact Vx _ _ _ }
   have lo:∀j,j<F→qf B*jf j<qf A*P75:=fun j hj=>by
    have:=Vr (qhc hj) hDp
    rw[Vx]at this;omega
   have hi:F<9218868437227405312→∀j,F+1≤j→qf A*P75<qf B*jf j:=fun h j hj=>by
    have:=Vr (qhd hj) hDp
    rw[Vx]at this;have:=b3 h
    omega
   have top:yu=9218868437227405311:=rfl
   by_cases hkt:F≤9218868437227405311
   · have hu:=h3 hkt
     rw[za hkt,zf];by_cases c1:qf B*jf F<qf A*P75
     · rw[za c1,Bool.true_or]at hu
       subst hu;refine⟨.inr (.inl (by show qf B*jf (F+1-1)<_;rw[KQ];exact c1)),fun h=>.inl (hi (by omega) _ (zw _)),by show F+1≤_;omega⟩
     · rw[zi c1,VP]at hu
       by_cases c2:qf B*jf F=qf A*P75
       · rw[za c2,z7]at hu
         by_cases c3:F % 2=1
         · rw[za c3]at hu
           subst hu;refine⟨.inr (.inr ⟨by show qf B*jf (F+1-1)=_;rw[KQ];exact c2,by show(F+1) % 2=0;omega⟩),fun h=>.inl (hi (by omega) _ (zw _)),by show F+1≤_;omega⟩
         · rw[zi c3]at hu
           subst hu;refine⟨?_,fun h=>.inr ⟨c2.symm,by show F % 2=0;omega⟩,by show F≤_;omega⟩
           by_cases h0:F=0
           · exact .inl h0
           · exact .inr (.inl (lo (F-1) (by omega)))
       · rw[zi c2,V6]at hu
         subst hu;refine⟨?_,fun h=>.inl (by show qf A*P75<qf B*jf F;omega),by show F≤_;omega⟩
         by_cases h0:F=0
         · exact .inl h0
         · exact .inr (.inl (lo (F-1) (by omega)))
   · rw[zi hkt,zj,Ks]
     exact⟨.inr (.inl (lo (F-1) (by omega))),fun h=>absurd h (by omega),by omega⟩
end
end Su
end
section
namespace Su
open Go Fly
noncomputable section
def qvt  (q:(Bool×(List Bool)×List Bool)):Option Int :=
 (bif(decide ((qj (qf q.2.1):Int)=0))then
 some 0
 else
  (bif q.1 then
  some (-1)
 else
  some 1))
def qeF(neg:Bool)(x:((List Bool)×(List Bool)×Int×Bool))(mode:Int) :=
 bif neg then
 (bif(decide (mode=2))then
 (qkf x 1).bind fun x3=>
 (bif neg then
 (YC ((IntKind.wrap .i64 (0-x3.1)),true)).bind fun x4=>
 some (x4,x3.2)
 else
  (YC (x3.1,false)).bind fun x5=>
  some (x5,x3.2))
 else
  (qkf x mode).bind fun x6=>
  (bif neg then
  (YC ((IntKind.wrap .i64 (0-x6.1)),true)).bind fun x7=>
  some (x7,x6.2)
 else
  (YC (x6.1,false)).bind fun x8=>
  some (x8,x6.2)))
 else
  (qkf x mode).bind fun x9=>
  (bif neg then
  (YC ((IntKind.wrap .i64 (0-x9.1)),true)).bind fun x10=>
  some (x10,x9.2)
 else
  (YC (x9.1,false)).bind fun x11=>
  some (x11,x9.2))
def qqx  (neg:Bool)(x:((List Bool)×(List Bool)×Int×Bool))(mode:Int):Option (Int×Int) :=
 (bif neg then
 (bif(decide (mode=1))then
 (qkf x 2).bind fun x0=>
 (bif neg then
 (YC ((IntKind.wrap .i64 (0-x0.1)),true)).bind fun x1=>
 some (x1,x0.2)
 else
  (YC (x0.1,false)).bind fun x2=>
  some (x2,x0.2))
 else
  (qeF neg x mode))
 else
  (qeF neg x mode))
end
end Su
end
section
namespace Su
open Go Fly
noncomputable section
def qqy  (q:(Bool×(List Bool)×List Bool))(mode:Int):Option (Int×Int) :=
 (qvt q).bind fun x0=>
 (bif(decide (x0=0))then
 some ((0:Int),(0:Int))
 else
  (qqx q.1 (q.2.1,q.2.2,(0:Int),false) mode).bind fun x1=>
  some x1)
theorem qvu{D:Nat}(hD:0<D):Nr 0 D 0:=by
 refine⟨.inl rfl,fun _=>.inl ?_,VX _⟩
 rw[K7];have:0<jf 0:=by
  rw[qbl];exact WF (by omega) (zH _)
 exact WF hD this
theorem qm6{A B:List Bool}(hA:A.length≤1000000000)(hB:B.length≤1000000000)(hD:qf B≠0):∃K:Nat,(∃fl,qqy (false,A,B) 0=some (((K:Nat):Int),fl))∧Nr (qf A) (qf B) K:=by
 by_cases h0:qf A=0
 · refine⟨0,⟨0,?_⟩,?_⟩
   · unfold qqy qvt
     simp only[h0];rfl
   · rw[h0];exact qvu (Nat.pos_of_ne_zero hD)
 · obtain⟨K,⟨fl,h1⟩,h2⟩:=qm5 hA hB hD
   refine⟨K,⟨fl,?_⟩,h2⟩
   have hK:K≤9218868437227405312:=by have:=h2.2.2;unfold yu at this;omega
   have hb:=jE h0;have hq:YC ((K:Int),false)=some (K:Int):=by
    unfold YC;simp only[];rw[za (by omega),za (by omega),zi (show¬(K:Int)<0 by omega),Int.natAbs_natCast];simp
   unfold qqy qvt;simp only[];rw[zi (show¬(qj (qf A):Int)=0 by omega)];simp only[zj,zd];rw[zi (show¬(1:Int)=0 by omega),zj];unfold qqx qeF;simp only[zj,h1,zd,hq]
end
end Su
end
section
namespace Su
open Go Fly
noncomputable section
def qbA:Stp (ByteArray×Int×Unit):=fun p0=>(bif(decide (p0.2.1<(ByteArray.size p0.1:Int)))then
 (bif(decide (0≤p0.2.1))then
 ((p0.1)[p0.2.1.toNat]?).bind fun x1=>
 (bif(decide (48≤(UInt8.toNat x1:Int)))then
 (bif(decide (0≤p0.2.1))then
 ((p0.1)[p0.2.1.toNat]?).bind fun x2=>
 (bif(decide ((UInt8.toNat x2:Int)≤57))then
 some (.inl (p0.1,(IntKind.wrap .i64 (p0.2.1+1)),()))
 else
  some (.inr (p0.1,p0.2.1,())))
 else none)
 else
  some (.inr (p0.1,p0.2.1,())))
 else none)
 else
  some (.inr (p0.1,p0.2.1,())))
def qvv  (fu:Nat)(s:ByteArray)(i:Int):Option Int :=
 (itP fu (qbA) (s,i,())).bind fun x3=>
 some x3.2.1
theorem qBI{S:List UInt8}(hS:S.length≤1000000):∀(d i:Nat),i+d=S.length→je (d+1) qbA (bs S,(i:Int),()) (bs S,((rn S i:Nat):Int),()):=fun d=>by
 induction d with
 | zero=>
  intro i hi;have e:rn S i=i:=by unfold rn;rw[Js fun c h=>by rw[zA (by omega)]at h;cases h];rfl
  rw[e];refine je.stop ?_
  unfold qbA;simp only[qe];rw[zi (by omega)];rfl
 | succ d ih=>
  intro i hi;obtain⟨c,hc⟩:∃c,S[i]?=some c:=⟨_,zl (by omega)⟩
  have w:IntKind.i64.wrap ((i:Int)+1)=((i+1:Nat):Int):=by rw[w64 (by omega) (by omega)];omega
  cases hd:isD c with
  | true=>
   have e:rn S i=rn S (i+1):=by unfold rn;rw[J5 hc hd,zy];omega
   have hcc:=jP.1 hd;rw[e];refine je.next ?_ (ih (i+1) (by omega))
   unfold qbA;simp only[qe,zg,qW,hc,zd,w];rw[za (by omega),za (by omega),za (by omega),za (by omega)];rfl
  | false=>
   have e:rn S i=i:=by unfold rn;rw[Js fun c' h=>by rw[hc]at h;cases h;exact hd];rfl
   have hcc : ¬(48≤c.toNat∧c.toNat≤57):=fun h=>by rw[jP.2 h]at hd;cases hd
   rw[e];refine(je.stop (K:=d+1) ?_)
   unfold qbA;simp only[qe,zg,qW,hc,zd];rw[za (by omega),za (by omega)];by_cases h1:48≤c.toNat
   · rw[za (show(48:Int)≤((c.toNat:Nat):Int) by omega),zi (show¬((c.toNat:Nat):Int)≤57 by omega)];rfl
   · rw[zi (show¬(48:Int)≤((c.toNat:Nat):Int) by omega)];rfl
def Ju(p:ByteArray×Int):Option Int:=bif(decide (0≤p.2)&&decide (p.2≤((lb p.1).length:Int)))&&Nat.ble (lb p.1).length 1000000 then some ((rn (lb p.1) p.2.toNat:Nat):Int)else none
theorem qvw(p:ByteArray×Int)(y:Int)(hg:(dc cS (d1 (cI .i64))).good p)(h:Ju p=some y):∃n,qvv n p.1 p.2=some y:=by
 obtain⟨s,i⟩:=p;clear hg;refine⟨2000000,?_⟩
 revert h;refine onB (P:=fun s=>Ju (s,i)=some y→qvv 2000000 s i=some y) (fun S h=>?_) s
 obtain⟨h1,h2⟩:=qi h;have:=soi h2;subst this
 simp only[zk]at h1;obtain⟨⟨a1,a2⟩,a3⟩:=h1;have a3:S.length≤1000000:=zm a3
 have a1:=zW a1;obtain⟨k,rfl⟩:=zV a1;have a2:(k:Int)≤((S.length:Nat):Int):=zW a2
 unfold qvv;exact obs (qBI a3 (S.length-k) k (by omega) 2000000 (by omega)) rfl
theorem qkg{S:List UInt8}{i:Nat}(hS:S.length≤1000000)(hi:i≤S.length):Ju (bs S,(i:Int))=some ((rn S i:Nat):Int):=by
 unfold Ju;show(bif(decide ((0:Int)≤(i:Int))&&decide ((i:Int)≤((S.length:Nat):Int)))&&Nat.ble S.length 1000000 then _ else _)=_
 rw[za (by omega),za (by omega),zo (by omega)];rfl
end
end Su
end
