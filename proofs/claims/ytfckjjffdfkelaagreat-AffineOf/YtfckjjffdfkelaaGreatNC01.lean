/-
  What functions of the program compute, in plain Lean, and that the evaluator finds it.
-/
import Derived.Test.YtfckjjffdfkelaaGreatSuSd
import Derived.Test.YtfckjjffdfkelaaGreatRb
set_option linter.unusedVariables false
set_option linter.unusedSimpArgs false
set_option maxRecDepth 10000
section
namespace Su
open Go Fly
noncomputable section
def qn3  (f:Int):Option (Bool×Int×Int) :=
 some ((decide ((Int.fdiv f (2^63))=1)),(IntKind.wrap .i64 (Fly.qD Go.BinOp.and .u64 (Int.fdiv f (2^52)) 2047)),(Fly.qD Go.BinOp.and .u64 f 4503599627370495))
def qt9  (neg:Bool)(exp:Int)(frac:Int):Option (Int×Int) :=
 (bif(decide (exp<0))then
 some ((0:Int),(1:Int))
 else
  (bif(decide (2047<exp))then
  some ((0:Int),(1:Int))
 else
  (bif(decide (4503599627370495<frac))then
  some ((0:Int),(1:Int))
 else
  (bif neg then
  some ((Fly.qD Go.BinOp.or .u64 (Fly.qD Go.BinOp.or .u64 (IntKind.wrap .u64 ((IntKind.wrap .u64 exp)*(2^52))) frac) 9223372036854775808),(0:Int))
 else
  some ((Fly.qD Go.BinOp.or .u64 (IntKind.wrap .u64 ((IntKind.wrap .u64 exp)*(2^52))) frac),(0:Int))))))
def qlW(f:Int):Option (Bool×Int×Int):=some (bS f.toNat,((bK f.toNat / 4503599627370496:Nat):Int),((f.toNat % 4503599627370496:Nat):Int))
theorem qn4(f:Nat)(h:f<18446744073709551616):decide (Int.fdiv (f:Int) (2^63)=1)=bS f:=by
 rw[JD];refine bB ?_
 rw[ZW];constructor
 · intro h;have:f / 2^63=1:=by omega
   rw[this];rfl
 · intro h;omega
theorem qGV(f:Nat)(h:f<18446744073709551616):IntKind.i64.wrap (qD .and .u64 (Int.fdiv (f:Int) (2^52)) 2047)=((bK f / 4503599627370496:Nat):Int):=by
 have h1:=qcF (f / 2^52) 2047 11 rfl (by omega) (by omega)
 rw[JD,show(2047:Int)=((2047:Nat):Int) from rfl,h1];unfold bK;rw[w64 (by omega) (by omega)]
 congr 1;omega
theorem qDO(f:Nat)(h:f<18446744073709551616):qD .and .u64 (f:Int) 4503599627370495=((f % 4503599627370496:Nat):Int):=qcF f 4503599627370495 52 rfl h (by omega)
theorem qrH(f:Int)(y:Bool×Int×Int)(hg:(d1 (cI .u64)).good f)(h:qlW f=some y):qn3 f=some y:=by
 obtain⟨n,rfl,hn⟩:=q9 hg;have:=soi h;subst this
 unfold qn3;rw[qn4 n hn,qGV n hn,qDO n hn,zl]
def ZX(p:Bool×Int×Int):Option (Int×Int):=bif decide (0≤p.2.1)&&decide (p.2.1≤2047)&&decide (p.2.2≤4503599627370495)then some (((sgN p.1+4503599627370496*p.2.1.toNat+p.2.2.toNat:Nat):Int),0)else some (0,1)
theorem qua(p:Bool×Int×Int)(y:Int×Int)(hg:(dc cB (dc (cI .i64) (d1 (cI .u64)))).good p)(h:ZX p=some y):qt9 p.1 p.2.1 p.2.2=some y:=by
 obtain⟨neg,e,fr⟩:=p;obtain⟨_,he,hf⟩:=hg;have he:=YK.1 he;obtain⟨F,rfl,hF⟩:=q9 hf;unfold ZX at h;unfold qt9;simp only[]at h ⊢;by_cases h1:e<0
 · rw[zk (show¬(0:Int)≤e by omega)]at h
   rw[zf h1];exact h
 · rw[zf (show(0:Int)≤e by omega)]at h
   rw[zk h1,zh];by_cases h2:2047<e
   · rw[zk (show¬e≤2047 by omega)]at h
     rw[zf h2];exact h
   · rw[zf (show e≤2047 by omega)]at h
     rw[zk h2,zh];by_cases h3:(4503599627370495:Int)<(F:Int)
     · rw[zk (show¬(F:Int)≤4503599627370495 by omega)]at h
       rw[zf h3];exact h
     · rw[zf (show(F:Int)≤4503599627370495 by omega)]at h
       rw[zk h3,zh];obtain⟨E,rfl⟩:∃E:Nat,e=(E:Int):=⟨e.toNat,by omega⟩
       have e1:IntKind.u64.wrap (E:Int)=(E:Int):=jS (by omega) (by omega)
       have e2:IntKind.u64.wrap ((E:Int)*2^52)=((E*2^52:Nat):Int):=by
        rw[show(2:Int)^52=((2^52:Nat):Int) from rfl,← Kq];exact jS (by omega) (by omega)
       have e3:qD .or .u64 ((E*2^52:Nat):Int) (F:Int)=((E*2^52+F:Nat):Int):=by
        rw[qcE _ _ (by omega) hF,qeZ (by omega)]
       rw[e1,e2,e3];have h:=soi h;subst h;cases neg with
       | true=>
        rw[zd,qy2 _ (by omega)];simp[sgN];omega
       | false=>simp[sgN];omega
end
end Su
end
section
namespace Su
open Go Fly
noncomputable section
def qn5  (f:Int):Option Int :=
 (bif(decide (((((bK f.toNat) / 4503599627370496):Nat):Int)=2047))then
 (bif(decide ((((f.toNat % 4503599627370496):Nat):Int)=0))then
 some 3
 else
  (bif(decide (((((bK f.toNat) / 4503599627370496):Nat):Int)=2047))then
  some 4
 else
  (bif(decide (((((bK f.toNat) / 4503599627370496):Nat):Int)=0))then
  (bif(decide ((((f.toNat % 4503599627370496):Nat):Int)=0))then
  some 0
 else
  (bif(decide (((((bK f.toNat) / 4503599627370496):Nat):Int)=0))then
  some 1
 else
  some 2))
 else
  (bif(decide (((((bK f.toNat) / 4503599627370496):Nat):Int)=0))then
  some 1
 else
  some 2))))
 else
  (bif(decide (((((bK f.toNat) / 4503599627370496):Nat):Int)=2047))then
  some 4
 else
  (bif(decide (((((bK f.toNat) / 4503599627370496):Nat):Int)=0))then
  (bif(decide ((((f.toNat % 4503599627370496):Nat):Int)=0))then
  some 0
 else
  (bif(decide (((((bK f.toNat) / 4503599627370496):Nat):Int)=0))then
  some 1
 else
  some 2))
 else
  (bif(decide (((((bK f.toNat) / 4503599627370496):Nat):Int)=0))then
  some 1
 else
  some 2))))
def qDP  (f:Int):Option Int :=
 (bif(decide ((Int.fdiv f (2^63))=1))then
 some (IntKind.wrap .i64 (0-(IntKind.wrap .i64 (Fly.qD Go.BinOp.andNot .u64 f 9223372036854775808))))
 else
  some (IntKind.wrap .i64 (Fly.qD Go.BinOp.andNot .u64 f 9223372036854775808)))
def pInf  (neg:Bool):Option Int :=
 some (((((sgN neg)+(4503599627370496*(Int.toNat 2047)))+(Int.toNat 0)):Nat):Int)
def qub :Option Int :=
 some 9221120237041090560
def qlX(f:Int):Option Int:=some (qE (bK f.toNat):Int)
theorem qrI(f:Int)(y:Int)(hg:(d1 (cI .u64)).good f)(h:qlX f=some y):qn5 f=some y:=by
 obtain⟨n,rfl,hn⟩:=q9 hg;have:=soi h;subst this
 unfold qn5;have hk:bK n=bK n / 4503599627370496*4503599627370496+n % 4503599627370496:=by unfold bK;omega
 have he:bK n / 4503599627370496≤2047:=by have:=qgd n;omega
 have hf:n % 4503599627370496<4503599627370496:=Vr _ (by decide)
 have hc:qE (bK n)=_:=(congrArg qE hk).trans (qy4 he hf)
 rw[zl,hc];generalize bK n / 4503599627370496=e at *
 generalize n % 4503599627370496=f at *
 rw[show(2047:Int)=((2047:Nat):Int) from rfl,show(0:Int)=((0:Nat):Int) from rfl];simp only[qdu,qcI];by_cases h1:e=2047
 · by_cases h2:f=0 <;> simp[h1,h2]
 · by_cases h3:e=0
   · by_cases h2:f=0 <;> simp[h3,h2]
   · simp[h1,h3]
def quc(f:Int):Option Int:=some (Q7 f.toNat)
theorem qy7(f:Int)(y:Int)(hg:(d1 (cI .u64)).good f)(h:quc f=some y):qDP f=some y:=by
 obtain⟨n,rfl,hn⟩:=q9 hg;have:=soi h;subst this
 unfold qDP;have hl:=qgd n;rw[qn4 n hn,qhN n hn,zl];unfold Q7;rw[show n % 9223372036854775808=bK n from rfl];have e1:IntKind.i64.wrap (bK n:Int)=(bK n:Int):=w64 (by omega) (by omega)
 rw[e1];cases bS n with
 | true=>rw[zd,zd,w64 (by omega) (by omega),Int.zero_sub]
 | false=>rfl
def qud(neg:Bool):Option Int:=some ((sgN neg+9218868437227405312:Nat):Int)
theorem qy8(neg:Bool)(y:Int)(hg:(d1 cB).good neg)(h:qud neg=some y):pInf neg=some y:=by
 have:=soi h;subst this
 cases neg <;> rfl
end
end Su
end
section
namespace Su
open Go Fly
noncomputable section
def qn6  (f:Int):Option (Int×Int) :=
 (bif(decide ((((qE (bK f.toNat)):Nat):Int)=2))then
 some ((Fly.qD Go.BinOp.or .u64 4503599627370496 (((f.toNat % 4503599627370496):Nat):Int)),(IntKind.wrap .i64 (((((bK f.toNat) / 4503599627370496):Nat):Int)-1075)))
 else
  (bif(decide ((((qE (bK f.toNat)):Nat):Int)=1))then
  some ((((f.toNat % 4503599627370496):Nat):Int),(-1074))
 else
  some ((0:Int),(0:Int))))
def qDQ  (f:Int):Option Bool :=
 some (decide ((((qE (bK f.toNat)):Nat):Int)=4))
def qlY(f:Int):Option (Int×Int):=some ((spM (bK f.toNat):Int),spE (bK f.toNat))
theorem qrJ(f:Int)(y:Int×Int)(hg:(d1 (cI .u64)).good f)(h:qlY f=some y):qn6 f=some y:=by
 obtain⟨n,rfl,hn⟩:=q9 hg;have:=soi h;subst this
 unfold qn6;rw[zl];have hk:bK n % 4503599627370496=n % 4503599627370496:=by unfold bK;omega
 have hl:=qgd n;rw[← hk];generalize bK n=k at *
 have h2:decide (((qE k:Nat):Int)=2)=decide (4503599627370496≤k∧k≤9218868437227405311):=by
  rw[show(2:Int)=((2:Nat):Int) from rfl,qn2,Zs]
  (repeat' split) <;> simp <;> omega
 have h1:decide (((qE k:Nat):Int)=1)=decide (0<k∧k<4503599627370496):=by
  rw[show(1:Int)=((1:Nat):Int) from rfl,qn2,Zs]
  (repeat' split) <;> simp <;> omega
 rw[h2,h1];unfold spM spE;by_cases c2:4503599627370496≤k∧k≤9218868437227405311
 · have hf:jT k=true:=qZ.2 (by omega)
   have e1:qD .or .u64 4503599627370496 ((k % 4503599627370496:Nat):Int)=((kM k:Nat):Int):=by
    have:=qcE 4503599627370496 (k % 4503599627370496) (by omega) (by omega)
    rw[show((4503599627370496:Nat):Int)=4503599627370496 from rfl]at this;rw[this];have h3:=qeZ (x:=k % 4503599627370496) (y:=1) (r:=52) (by omega)
    rw[show(1*2^52:Nat)=4503599627370496 from rfl]at h3;rw[h3];unfold kM;rw[zZ (by omega)];omega
   rw[zf c2,zd,e1,hf,w64 (by omega) (by omega),beq_dec,zk (by omega)];simp only[zd,Kl,zY];unfold kE
   congr 2;omega
 · rw[zk c2,zh]
   by_cases c1:0<k∧k<4503599627370496
   · have hf:jT k=true:=qZ.2 (by omega)
     rw[zf c1,zd,hf,beq_dec,zk (by omega)];simp only[zd,Kl,zY];unfold kE kM;rw[Kp (by omega),show k / 4503599627370496=0 by omega];rfl
   · rw[zk c1,zh]
     by_cases c0:k=0
     · subst c0;rfl
     · have hf:jT k=false:=qlU.2 (by omega)
       rw[hf];rfl
def que(f:Int):Option Bool:=some (qP (bK f.toNat))
theorem qy9(f:Int)(y:Bool)(hg:(d1 (cI .u64)).good f)(h:que f=some y):qDQ f=some y:=by
 have:=soi h;subst this
 unfold qDQ;rw[qe0]
end
end Su
end
section
namespace Su
open Go Fly
noncomputable section
def qDR  (a:Int)(b:Int):Option (Int×Bool) :=
 (bif(qP (bK a.toNat))then
 some ((0:Int),false)
 else
  (bif(qP (bK b.toNat))then
  some ((0:Int),false)
 else
  (bif(decide ((Q7 a.toNat)<(Q7 b.toNat)))then
  some ((-1),true)
 else
  (bif(decide ((Q7 b.toNat)<(Q7 a.toNat)))then
  some ((1:Int),true)
 else
  some ((0:Int),true)))))
def qDS  (f:Int):Option Int :=
 (bif(qP (bK f.toNat))then
 some f
 else
  some (Fly.qD Go.BinOp.xor .u64 f 9223372036854775808))
def qDT  (f:Int):Option Int :=
 (bif(qP (bK f.toNat))then
 some f
 else
  some (Fly.qD Go.BinOp.andNot .u64 f 9223372036854775808))
def quf(p:Int×Int):Option (Int×Bool):=some (qcG p.1.toNat p.2.toNat,qgW p.1.toNat p.2.toNat)
def qug(f:Int):Option Int:=some (QS f.toNat:Int)
def quh(f:Int):Option Int:=some (yE f.toNat:Int)
theorem qza(p:Int×Int)(y:Int×Bool)(hg:(dc (cI .u64) (d1 (cI .u64))).good p)(h:quf p=some y):qDR p.1 p.2=some y:=by
 obtain⟨a,b⟩:=p;have:=soi h;subst this
 unfold qDR qcG qgW qt8;cases qP (bK a.toNat)with
 | true=>rfl
 | false=>
  cases qP (bK b.toNat)with
  | true=>rfl
  | false=>
   simp only[zh,Xf];cases decide (Q7 a.toNat<Q7 b.toNat)with
   | true=>rfl
   | false=>cases decide (Q7 b.toNat<Q7 a.toNat) <;> rfl
theorem qzb(f:Int)(y:Int)(hg:(d1 (cI .u64)).good f)(h:qug f=some y):qDS f=some y:=by
 obtain⟨n,rfl,hn⟩:=q9 hg;have:=soi h;subst this
 unfold qDS QS;rw[zl,qy3 n hn];cases qP (bK n)with
 | true=>rfl
 | false=>
  rw[zh,zh];cases hs:bS n with
  | true=>
   have:=ZW.1 hs
   rw[zZ (by omega),zd];rfl
  | false=>
   have:=Yw.1 hs
   rw[Kp (by omega),zh]
theorem qzc(f:Int)(y:Int)(hg:(d1 (cI .u64)).good f)(h:quh f=some y):qDT f=some y:=by
 obtain⟨n,rfl,hn⟩:=q9 hg;have:=soi h;subst this
 unfold qDT yE;rw[zl,qhN n hn];cases qP (bK n) <;> rfl
end
end Su
end
section
namespace Su
open Go Fly
noncomputable section
def qui  (a:Int)(b:Int):Option Bool :=
 (bif(qgW a.toNat b.toNat)then
 some (decide ((qcG a.toNat b.toNat)<0))
 else
  some false)
def qpE(p:Int×Int):Option Bool:=some (QX p.1.toNat p.2.toNat)
theorem quj(p:Int×Int)(y:Bool)(hg:(dc (cI .u64) (d1 (cI .u64))).good p)(h:qpE p=some y):qui p.1 p.2=some y:=by
 have:=soi h;subst this
 unfold qui QX;cases qgW p.1.toNat p.2.toNat <;> rfl
end
end Su
end
section
namespace Su
open Go Fly
noncomputable section
def At  (a:(List Int))(i:Int):Option Int :=
 (bif(decide (i<(List.length a:Int)))then
 (idx a i).bind fun x0=>
 some (IntKind.wrap .u64 x0)
 else
  some 0)
end
end Su
end
section
namespace Su
open Go Fly
noncomputable section
def qcK:((List Int)×Unit)→Option (((List Int)×Unit) ⊕ ((List Int)×Unit)):=fun p0=>(bif(decide (0<(List.length p0.1:Int)))then
 (idx p0.1 (IntKind.wrap .i64 ((List.length p0.1:Int)-1))).bind fun x1=>
 (bif(decide (x1=0))then
 (bif(true&&((true&&(decide (0≤(IntKind.wrap .i64 ((List.length p0.1:Int)-1)))))&&(decide ((IntKind.wrap .i64 ((List.length p0.1:Int)-1))≤(List.length p0.1:Int)))))then
 some (.inl ((List.take (Int.toNat ((IntKind.wrap .i64 ((List.length p0.1:Int)-1))-0)) (List.drop 0 p0.1)),()))
 else none)
 else
  some (.inr (p0.1,())))
 else
  some (.inr (p0.1,())))
def qDU  (fu:Nat)(a:(List Int)):Option (List Int) :=
 (itP fu (qcK) (a,())).bind fun x2=>
 some x2.1
def qa:List Int→Nat
 | []=>0
 | x::l=>x.toNat+4294967296*qa l
def ofF:Nat→Nat→List Int
 | 0,_=>[]
 | k+1,n=>if n=0 then[]else((n % 4294967296:Nat):Int)::ofF k (n / 4294967296)
def ofN(n:Nat):List Int:=ofF (n.log2 / 32+1) n
theorem quk:∀(k j n:Nat),n<4294967296^k→n<4294967296^j→ofF k n=ofF j n
 | 0,0,_,_,_=>rfl
 | 0,j+1,n,h,_=>by
  have:n=0:=by simpa using h
  subst this;rfl
 | k+1,0,n,_,h=>by
  have:n=0:=by simpa using h
  subst this;rfl
 | k+1,j+1,n,h1,h2=>by
  unfold ofF;by_cases h0:n=0
  · simp[h0]
  · simp only[h0,Xu]
    rw[quk k j (n / 4294967296)]
    · rw[Kx]at h1;exact Wy (by rw[zL];exact h1)
    · rw[Kx]at h2;exact Wy (by rw[zL];exact h2)
theorem qjA(n:Nat):n<4294967296^(n.log2 / 32+1):=by
 have h:=@Nat.lt_log2_self n
 have e:(4294967296:Nat)^(n.log2 / 32+1)=2^(32*(n.log2 / 32+1)):=by rw[Nat.pow_mul]
 rw[e];exact Ki h (Kf (by omega) (by omega))
theorem Yx:ofN 0=[]:=rfl
theorem qlZ{n:Nat}(h:n≠0):ofN n=((n % 4294967296:Nat):Int)::ofN (n / 4294967296):=by
 have:ofN n=ofF (n.log2 / 32+1) n:=rfl
 rw[this];unfold ofF;rw[zZ h]
 congr 1
 have hl:=qjA n;rw[Kx]at hl;exact quk _ _ _ (Wy (by rw[zL];exact hl)) (qjA _)
def Wd(l:List Int):Prop:=∀x∈l,0≤x∧x<4294967296
theorem Wd.nil:Wd []:=fun _ h=>by cases h
theorem Wd.cons{x:Int}{l:List Int}(h0:0≤x)(h1:x<4294967296)(h:Wd l):Wd (x::l):=fun y hy=>by
 rcases zJ.1 hy with rfl | hy
 · exact⟨h0,h1⟩
 · exact h y hy
theorem Wd.tail{x:Int}{l:List Int}(h:Wd (x::l)):Wd l:=fun y hy=>h y (zp _ hy)
theorem Wd.head{x:Int}{l:List Int}(h:Wd (x::l)):0≤x∧x<4294967296:=h x (zu ..)
theorem Wd.app{a b:List Int}(h:Wd a)(h':Wd b):Wd (a++b):=fun x hx=>by
 rcases zM.1 hx with hx | hx
 · exact h x hx
 · exact h' x hx
theorem Wd.left{a b:List Int}(h:Wd (a++b)):Wd a:=fun x hx=>h x (K9 _ hx)
theorem Wd.right{a b:List Int}(h:Wd (a++b)):Wd b:=fun x hx=>h x (Wc _ hx)
theorem Wd.of{l:List Int}(h:∀x∈l,gU 1 x):Wd l:=fun x hx=>qeW.1 (h x hx)
theorem yq:∀(a b:List Int),qa (a++b)=qa a+4294967296^a.length*qa b
 | [],b=>by simp[qa]
 | x::a,b=>by simp only[Vv,qa,yq a b,zq,Kx];rw[KO,← zR,zL 4294967296 (4294967296^a.length)];omega
theorem ql0{x:Int}{n:Nat}(h0:0≤x)(h1:x<4294967296)(h:x.toNat+4294967296*n≠0):ofN (x.toNat+4294967296*n)=x::ofN n:=by
 rw[qlZ h];have e1:(x.toNat+4294967296*n) % 4294967296=x.toNat:=by omega
 have e2:(x.toNat+4294967296*n) / 4294967296=n:=by omega
 rw[e1,e2]
 congr 1;omega
theorem ql1:∀(k n:Nat),n<4294967296^k→qa (ofF k n)=n
 | 0,n,h=>by
  have:n=0:=by simpa using h
  subst this;rfl
 | k+1,n,h=>by
  unfold ofF;by_cases h0:n=0
  · simp[h0,qa]
  · simp only[h0,Xu,qa]
    rw[ql1 k _ (by rw[Kx]at h;exact Wy (by rw[zL];exact h))];omega
@[simp] theorem valN_ofN (n:Nat):qa (ofN n)=n:=ql1 _ _ (qjA n)
theorem qul:∀(k n:Nat),Wd (ofF k n)
 | 0,_=>.nil
 | k+1,n=>by
  unfold ofF;split
  · exact .nil
  · exact .cons (by omega) (by omega) (qul k _)
theorem ZY(n:Nat):Wd (ofN n):=qul _ _
theorem qpF:∀(l:List Int),Wd l→l.getLast?≠some 0→ofN (qa l)=l
 | [],_,_=>rfl
 | [x],h,hl=>by
  have:=h.head
  have hx:x≠0:=fun e=>hl (by simp[e])
  simp only[qa,VB];have:=ql0 (x:=x) (n:=0) this.1 this.2 (by omega)
  simpa[Yx]using this
 | x::y::l,h,hl=>by
  have hl':(y::l).getLast?≠some 0:=by rwa [List.getLast?_cons_cons]at hl
  have ih:=qpF (y::l) h.tail hl'
  have hnz:qa (y::l)≠0:=fun e=>by rw[e,Yx]at ih;cases ih
  show ofN (x.toNat+4294967296*qa (y::l))=_
  rw[ql0 h.head.1 h.head.2 (by omega),ih]
theorem qjB(l:List Int):qa (l++[0])=qa l:=by rw[yq];simp[qa]
theorem qhO(q:Unit):∀(k:Nat) (l:List Int),l.length=k→Wd l→k≤maxLen→∃n,itP n qcK (l,q)=some (ofN (qa l),q)
 | 0,l,hk,_,_=>by
  have:=Ka.1 hk;subst this
  exact QL (by simp[qcK,qa,Yx])
 | k+1,l,hk,hw,hm=>by
  rw[jb]at hm;rcases List.eq_nil_or_concat l with rfl | ⟨l',x,rfl⟩
  · simp at hk
  · simp only[List.concat_eq_append,zw,zq,zB]at hk hw ⊢
    have hlen:l'.length=k:=by omega
    have hx:=hw.right.head;have e1:IntKind.i64.wrap (((l'++[x]).length:Int)-1)=(l'.length:Int):=by rw[w64] <;> simp <;> omega
    by_cases h0:x=0
    · subst h0
      refine QK (s':=(l',q)) ?_ (by rw[qjB];exact qhO q k l' hlen hw.left (by rw[jb];omega))
      simp only[qcK,e1];simp[jB];rw[zf (by omega)];rfl
    · have hv:ofN (qa (l'++[x]))=l'++[x]:=qpF _ hw (by simp[h0])
      rw[hv];refine QL ?_
      simp only[qcK,e1];simp[jB,h0]
def qjC(a:List Int):Option (List Int):=some (ofN (qa a))
theorem qzd(a y:List Int)(hg:(d1 (cQ 1 1)).good a)(h:qjC a=some y):∃n,qDU n a=some y:=by
 obtain⟨n,hn⟩:=qhO () a.length a rfl (Wd.of hg.1) hg.2
 refine⟨n,?_⟩
 have:=soi h;subst this
 unfold qDU;rw[hn];rfl
end
end Su
end
section
namespace Su
open Go Fly
noncomputable section
def qjD:((List Int)×(List Int)×Nat×Int×Int×Int×(List T)×Unit)→Option (((List Int)×(List Int)×Nat×Int×Int×Int×(List T)×Unit) ⊕ ((List Int)×(List Int)×Nat×Int×Int×Int×(List T)×Unit)):=fun p0=>(bif(decide (p0.2.2.2.2.2.1<p0.2.2.2.2.1))then
 (At p0.1 p0.2.2.2.2.2.1).bind fun x1=>
 (At p0.2.1 p0.2.2.2.2.2.1).bind fun x2=>
 (bif((true&&(Nat.beq p0.2.2.1 p0.2.2.2.2.2.2.1.length))&&(Nat.ble (p0.2.2.2.2.2.2.1.length+(List.length [(T.s (.int .u32 (IntKind.wrap .u32 (IntKind.wrap .u64 (p0.2.2.2.1+(IntKind.wrap .u64 (x1+x2)))))))])) 549755813888))then
 some (.inl (p0.1,p0.2.1,(List.length (p0.2.2.2.2.2.2.1++[(T.s (.int .u32 (IntKind.wrap .u32 (IntKind.wrap .u64 (p0.2.2.2.1+(IntKind.wrap .u64 (x1+x2)))))))])),(Int.fdiv (IntKind.wrap .u64 (p0.2.2.2.1+(IntKind.wrap .u64 (x1+x2)))) (2^32)),p0.2.2.2.2.1,(IntKind.wrap .i64 (p0.2.2.2.2.2.1+1)),(p0.2.2.2.2.2.2.1++[(T.s (.int .u32 (IntKind.wrap .u32 (IntKind.wrap .u64 (p0.2.2.2.1+(IntKind.wrap .u64 (x1+x2)))))))]),()))
 else none)
 else
  some (.inr (p0.1,p0.2.1,p0.2.2.1,p0.2.2.2.1,p0.2.2.2.2.1,p0.2.2.2.2.2.1,p0.2.2.2.2.2.2.1,())))
def Add  (fu:Nat)(a:(List Int))(b:(List Int)):Option (List Int) :=
 (itP fu (qjD) (a,b,0,(0:Int),(max (List.length a:Int) (List.length b:Int)),(0:Int),[],())).bind fun x3=>
 (bif((true&&(Nat.beq x3.2.2.1 x3.2.2.2.2.2.2.1.length))&&(Nat.ble (x3.2.2.2.2.2.2.1.length+(List.length [(T.s (.int .u32 (IntKind.wrap .u32 x3.2.2.2.1)))])) 549755813888))then
 (Su.sub (x3.2.2.2.2.2.2.1++[(T.s (.int .u32 (IntKind.wrap .u32 x3.2.2.2.1)))]) 0 (List.length (x3.2.2.2.2.2.2.1++[(T.s (.int .u32 (IntKind.wrap .u32 x3.2.2.2.1)))]))).bind fun x4=>
 (Su.sub (x3.2.2.2.2.2.2.1++[(T.s (.int .u32 (IntKind.wrap .u32 x3.2.2.2.1)))]) 0 (List.length (x3.2.2.2.2.2.2.1++[(T.s (.int .u32 (IntKind.wrap .u32 x3.2.2.2.1)))]))).bind fun x5=>
 ((jW 1 x4).bind fun x6=>
 some (ofN (qa x6))).bind fun x7=>
 some x7
 else none)
def qbX:((List Int)×(List Int)×Int×Unit)→Option (((List Int)×(List Int)×Int×Unit) ⊕ (Lp ((List Int)×(List Int)×Int×Unit) Int)):=fun p0=>(bif(decide (0≤p0.2.2.1))then
 (At p0.1 p0.2.2.1).bind fun x1=>
 (At p0.2.1 p0.2.2.1).bind fun x2=>
 (bif(!(decide (x1=x2)))then
 (bif(decide (x1<x2))then
 some (.inr (.ret (-1)))
 else
  some (.inr (.ret 1)))
 else
  some (.inl (p0.1,p0.2.1,(IntKind.wrap .i64 (p0.2.2.1-1)),())))
 else
  some (.inr (.exit 0 (p0.1,p0.2.1,p0.2.2.1,()))))
def Cmp  (fu:Nat)(a:(List Int))(b:(List Int)):Option Int :=
 (itP fu (qbX) (a,b,(IntKind.wrap .i64 ((max (List.length a:Int) (List.length b:Int))-1)),())).bind fun x3=>
 (match x3 with
 | .exit i4 p5=>(bif(Nat.beq i4 0)then
  some 0
 else none)
 | .ret o6=>some o6)
def New  (x:Int):Option (List Int) :=
 some (ofN (qa [(IntKind.wrap .u32 x),(IntKind.wrap .u32 (Int.fdiv x (2^32)))]))
def Yy:ByteArray:=⟨⟨[0,1,2,2,3,3,3,3,4,4,4,4,4,4,4,4,5,5,5,5,5,5,5,5,5,5,5,5,5,5,5,5,6,6,6,6,6,6,6,6,6,6,6,6,6,6,6,6,6,6,6,6,6,6,6,6,6,6,6,6,6,6,6,6,7,7,7,7,7,7,7,7,7,7,7,7,7,7,7,7,7,7,7,7,7,7,7,7,7,7,7,7,7,7,7,7,7,7,7,7,7,7,7,7,7,7,7,7,7,7,7,7,7,7,7,7,7,7,7,7,7,7,7,7,7,7,7,7,8,8,8,8,8,8,8,8,8,8,8,8,8,8,8,8,8,8,8,8,8,8,8,8,8,8,8,8,8,8,8,8,8,8,8,8,8,8,8,8,8,8,8,8,8,8,8,8,8,8,8,8,8,8,8,8,8,8,8,8,8,8,8,8,8,8,8,8,8,8,8,8,8,8,8,8,8,8,8,8,8,8,8,8,8,8,8,8,8,8,8,8,8,8,8,8,8,8,8,8,8,8,8,8,8,8,8,8,8,8,8,8,8,8,8,8,8,8,8,8,8,8,8,8,8,8,8,8]⟩⟩
def qhP  (x:Int):Option Int :=
 (bif(decide (65536≤x))then
 (bif(decide (256≤(Int.fdiv x (2^16))))then
 (bif(decide (0≤(IntKind.wrap .u8 (Int.fdiv (Int.fdiv x (2^16)) (2^8)))))then
 ((Yy)[(Int.toNat (IntKind.wrap .u8 (Int.fdiv (Int.fdiv x (2^16)) (2^8))))]?).bind fun x0=>
 some (IntKind.wrap .i64 ((IntKind.wrap .i64 (16+8))+(IntKind.wrap .i64 (UInt8.toNat x0:Int))))
 else none)
 else
  (bif(decide (0≤(IntKind.wrap .u8 (Int.fdiv x (2^16)))))then
  ((Yy)[(Int.toNat (IntKind.wrap .u8 (Int.fdiv x (2^16))))]?).bind fun x1=>
  some (IntKind.wrap .i64 (16+(IntKind.wrap .i64 (UInt8.toNat x1:Int))))
 else none))
 else
  (bif(decide (256≤x))then
  (bif(decide (0≤(IntKind.wrap .u8 (Int.fdiv x (2^8)))))then
  ((Yy)[(Int.toNat (IntKind.wrap .u8 (Int.fdiv x (2^8))))]?).bind fun x2=>
  some (IntKind.wrap .i64 ((IntKind.wrap .i64 (0+8))+(IntKind.wrap .i64 (UInt8.toNat x2:Int))))
 else none)
 else
  (bif(decide (0≤(IntKind.wrap .u8 x)))then
  ((Yy)[(Int.toNat (IntKind.wrap .u8 x))]?).bind fun x3=>
  some (IntKind.wrap .i64 (0+(IntKind.wrap .i64 (UInt8.toNat x3:Int))))
 else none)))
def nth(a:List Int)(i:Nat):Int:=a[i]?.getD 0
theorem jU{a:List Int}(h:Wd a)(i:Nat):0≤nth a i∧nth a i<4294967296:=by
 unfold nth;cases hi:a[i]? with
 | none=>exact⟨Vy _,by decide⟩
 | some x=>exact h x (KF hi)
theorem Q8{a:List Int}(h:Wd a)(i:Nat):At a (i:Int)=some (nth a i):=by
 unfold At nth;by_cases hi:i<a.length
 · have hx:=h a[i] (XQ hi)
   have e:((i:Int)<(a.length:Int)):=by omega
   simp only[jB,zD hi,zf e,zd,zi,Option.getD_some];rw[jS hx.1 (by omega)]
 · have e : ¬((i:Int)<(a.length:Int)):=by omega
   rw[K5 (by omega),zk e];rfl
theorem qR(a:List Int)(i:Nat):qa (a.take (i+1))=qa (a.take i)+4294967296^i*(nth a i).toNat:=by
 unfold nth;by_cases hi:i<a.length
 · rw[Xo hi,yq,zD hi]
   simp[qa,Kj,Vq (Wl hi)]
 · rw[zS (by omega),zS (by omega),K5 (by omega)];simp
theorem YL(l:List T):sub l 0 l.length=some l:=by
 unfold sub;rw[show Nat.ble (0+l.length) l.length=true by rw[VW];omega];simp
theorem Q9(l:List Int):jW 1 (l.map fun x=>T.s (.int .u32 x))=some l:=qeu (u:=1) (by decide) l
abbrev eW(x:Int):T:=T.s (.int .u32 x)
theorem ql2(a b:List Int)(ha:Wd a)(hb:Wd b)(N:Nat)(hN:N≤549755813887):∀(k i:Nat) (out:List Int) (c:Int),i+k=N→out.length=i→Wd out→0≤c→c≤1 →
 qa out+4294967296^i*c.toNat=qa (a.take i)+qa (b.take i) →
 ∃(out':List Int) (c':Int),out'.length=N∧Wd out'∧0≤c'∧c'≤1∧qa out'+4294967296^N*c'.toNat=qa (a.take N)+qa (b.take N) ∧
  ∃n,itP n qjD (a,b,i,c,(N:Int),(i:Int),out.map eW,())=some (a,b,N,c',(N:Int),(N:Int),out'.map eW,())
 | 0,i,out,c,hk,ho,hw,hc0,hc1,hv=>by
  have:i=N:=by omega
  subst this;exact⟨out,c,ho,hw,hc0,hc1,hv,QL (by simp[qjD])⟩
 | k+1,i,out,c,hk,ho,hw,hc0,hc1,hv=>by
  have hi:(i:Int)<N:=by omega
  obtain⟨x0,x1⟩:=jU ha i;obtain⟨y0,y1⟩:=jU hb i;have e1:IntKind.u64.wrap (nth a i+nth b i)=nth a i+nth b i:=jS (by omega) (by omega)
  have e2:IntKind.u64.wrap (c+(nth a i+nth b i))=c+(nth a i+nth b i):=jS (by omega) (by omega)
  have e3:IntKind.i64.wrap ((i:Int)+1)=((i+1:Nat):Int):=by rw[w64 (by omega) (by omega)];rfl
  obtain⟨s,hs⟩:∃s:Nat,c+(nth a i+nth b i)=(s:Int):=⟨(c+(nth a i+nth b i)).toNat,by omega⟩
  have e6:IntKind.u64.wrap (s:Int)=(s:Int):=jS (by omega) (by omega)
  have e4:IntKind.u32.wrap (s:Int)=((s % 4294967296:Nat):Int):=by rw[wrap_u32];omega
  have e5:Int.fdiv (s:Int) (2^32)=((s / 4294967296:Nat):Int):=by
   rw[Vs _ (by decide)];rfl
  obtain⟨out',c',h1,h2,h3,h4,h5,h6⟩:=ql2 a b ha hb N hN k (i+1) (out++[((s % 4294967296:Nat):Int)]) ((s / 4294967296:Nat):Int) (by omega) (by simp[ho])
   (hw.app (.cons (by omega) (by omega) .nil)) (by omega) (by omega) (by
     rw[yq,qR,qR,ho];simp only[qa,VB,Kr,zl];have hp:4294967296^(i+1)*(s / 4294967296)+4294967296^i*(s % 4294967296)=4294967296^i*s:=by
      rw[Kx,zR,← KO];congr 1;omega
     have hq:4294967296^i*s=4294967296^i*c.toNat+4294967296^i*(nth a i).toNat+4294967296^i*(nth b i).toNat:=by
      rw[← KO,← KO];congr 1;omega
     omega)
  refine⟨out',c',h1,h2,h3,h4,h5,QK ?_ h6⟩
  simp only[qjD,Q8 ha,Q8 hb,zi,e1,e3,hs,e6,e4,e5,zf hi,zd];have hb1:Nat.beq i (out.map eW).length=true:=by rw[zr,ho];exact VA _
  have hb2:Nat.ble ((out.map eW).length+[eW ((s % 4294967296:Nat):Int)].length) 549755813888=true:=by
   rw[VW,zr,ho];simp;omega
  rw[hb1,hb2];simp[ho]
def sm(n:Nat):Bool:=Nat.ble n.log2 8796093022208
def ql3(p:List Int×List Int):Option (List Int):=bif Nat.ble (max p.1.length p.2.length) 549755813887 then some (ofN (qa p.1+qa p.2))else none
theorem qDV(p:List Int×List Int)(y:List Int)(hg:(dc (cQ 1 1) (d1 (cQ 1 1))).good p)(h:ql3 p=some y):∃n,Add n p.1 p.2=some y:=by
 obtain⟨a,b⟩:=p;obtain⟨⟨ha,la⟩,hb,lb⟩:=hg;obtain⟨hm,h⟩:=qi h;have:=soi h;subst this
 have hm:=zo hm;obtain⟨out,c,h1,h2,h3,h4,h5,n,h6⟩:=ql2 a b (Wd.of ha) (Wd.of hb) (max a.length b.length) hm (max a.length b.length) 0 [] 0 (by omega) rfl .nil (by omega) (by omega) (by simp[qa])
 refine⟨n,?_⟩
 unfold Add;have em:max (a.length:Int) (b.length:Int)=((max a.length b.length:Nat):Int):=by omega
 rw[em];rw[show(a,b,0,(0:Int),((max a.length b.length:Nat):Int),(0:Int),([]:List T),())=(a,b,0,(0:Int),((max a.length b.length:Nat):Int),((0:Nat):Int),([]:List Int).map eW,()) from rfl,h6];simp only[zi];have e4:IntKind.u32.wrap c=c:=qn0 h3 (by omega)
 have hb1:Nat.beq (max a.length b.length) (out.map eW).length=true:=by rw[zr,h1];exact VA _
 have hb2:Nat.ble ((out.map eW).length+[eW c].length) 549755813888=true:=by
  rw[VW,zr,h1];simp;omega
 have hu:jW 1 (out.map eW++[eW c])=some (out++[c]):=by
  have:=Q9 (out++[c])
  rwa [KN]at this
 rw[e4,hb1,hb2];simp only[zG,zd,YL,zi,hu];have hv:qa (out++[c])=qa a+qa b:=by
  rw[yq,h1];simp only[qa,VB,Kr];rw[h5,zS (by omega),zS (by omega)]
 show some (ofN (qa (out++[c])))=_
 rw[hv]
theorem qum(a b x y B:Nat)(hx:a<B)(hy:b<B)(hne:x≠y):JC (a+B*x) (b+B*y)=if x<y then -1 else 1:=by
 unfold JC;by_cases h:x<y
 · have:B*x+B≤B*y:=by rw[← qHN];exact KB _ h
   rw[Kp (by omega),Kp h]
 · have:B*y+B≤B*x:=by rw[← qHN];exact KB _ (by omega)
   rw[zZ (by omega),zZ (by omega),zZ h]
theorem jo:∀(a:List Int),Wd a→qa a<4294967296^a.length
 | [],_=>by simp[qa]
 | x::a,h=>by
  have:=jo a h.tail
  have:=h.head
  simp only[qa,zq,Kx];omega
theorem yO{a:List Int}(h:Wd a)(i:Nat):qa (a.take i)<4294967296^i:=by
 have h1:=jo (a.take i) (fun x hx=>h x (VR hx))
 exact Ki h1 (Kf (by omega) (by rw[Kj];omega))
def qn7(a b:List Int)(i:Nat)(o:Option (Lp (List Int×List Int×Int×Unit) Int)):Prop :=
 (JC (qa (a.take i)) (qa (b.take i))=0∧o=some (.exit 0 (a,b,-1,())))∨(JC (qa (a.take i)) (qa (b.take i))≠0∧o=some (.ret (JC (qa (a.take i)) (qa (b.take i)))))
theorem ql4(a b:List Int)(ha:Wd a)(hb:Wd b):∀(i:Nat),i≤9223372036854775807→∃n,qn7 a b i (itP n qbX (a,b,(i:Int)-1,()))
 | 0,_=>⟨1,.inl ⟨by simp[JC,qa],by simp[itP,qbX]⟩⟩
 | i+1,hi=>by
  obtain⟨x0,x1⟩:=jU ha i;obtain⟨y0,y1⟩:=jU hb i;have e0:((i+1:Nat):Int)-1=(i:Int):=by omega
  rw[e0];have e3:IntKind.i64.wrap ((i:Int)-1)=(i:Int)-1:=w64 (by omega) (by omega)
  by_cases hxy:nth a i=nth b i
  · obtain⟨n,hn⟩:=ql4 a b ha hb i (by omega)
    refine⟨n+1,?_⟩
    have hst:qbX (a,b,(i:Int),())=some (.inl (a,b,(i:Int)-1,())):=by
     simp[qbX,Q8 ha,Q8 hb,hxy,e3]
    rw[qC,hst];have he:JC (qa (a.take (i+1))) (qa (b.take (i+1)))=JC (qa (a.take i)) (qa (b.take i)):=by
     rw[qR,qR,hxy];unfold JC;simp
    unfold qn7 at hn ⊢
    rw[he];exact hn
  · refine⟨1,.inr ?_⟩
    have he:=qum (qa (a.take i)) (qa (b.take i)) (nth a i).toNat (nth b i).toNat (4294967296^i) (yO ha i) (yO hb i) (by omega)
    rw[← qR,← qR]at he;rw[he,qC];by_cases hlt:nth a i<nth b i
    · rw[Kp (by omega)]
      exact⟨by decide,by simp[qbX,Q8 ha,Q8 hb,hxy,hlt]⟩
    · rw[zZ (by omega)]
      exact⟨by decide,by simp[qbX,Q8 ha,Q8 hb,hxy,hlt]⟩
def qCq(p:List Int×List Int):Option Int:=some (JC (qa p.1) (qa p.2))
theorem qDW(p:List Int×List Int)(y:Int)(hg:(dc (cQ 1 1) (d1 (cQ 1 1))).good p)(h:qCq p=some y):∃n,Cmp n p.1 p.2=some y:=by
 obtain⟨a,b⟩:=p;obtain⟨⟨ha,la⟩,hb,lb⟩:=hg;have:=soi h;subst this
 have la':a.length≤9223372036854775807:=by have:=la;rw[jb]at this;exact this
 have lb':b.length≤9223372036854775807:=by have:=lb;rw[jb]at this;exact this
 have em:max (a.length:Int) (b.length:Int)=((max a.length b.length:Nat):Int):=by omega
 obtain⟨n,hn⟩:=ql4 a b (Wd.of ha) (Wd.of hb) (max a.length b.length) (by omega)
 refine⟨n,?_⟩
 unfold Cmp;rw[em,w64 (by omega) (by omega)];unfold qn7 at hn;rw[zS (by omega),zS (by omega)]at hn;rcases hn with⟨h1,h2⟩ | ⟨h1,h2⟩
 · rw[h2,h1];rfl
 · rw[h2];rfl
end
end Su
end
section
namespace Su
open Go Fly
noncomputable section
def Len  (a:(List Int)):Option Int :=
 (bif(decide ((((List.length (ofN (qa a))):Nat):Int)=0))then
 some 0
 else
  (idx (ofN (qa a)) (IntKind.wrap .i64 ((((List.length (ofN (qa a))):Nat):Int)-1))).bind fun x0=>
  (qhP x0).bind fun x1=>
  some (IntKind.wrap .i64 ((IntKind.wrap .i64 (32*(IntKind.wrap .i64 ((((List.length (ofN (qa a))):Nat):Int)-1))))+x1)))
abbrev qgf:=((List Int)×Nat×(List Int)×Int×Int×Int×Int×Int×(List Int)×Int×Int×(List T)×Unit)
def qgg:qgf→Option (qgf ⊕ qgf):=fun p2=>(bif(decide (p2.2.2.2.2.2.2.2.2.2.2.1<p2.2.2.2.2.2.2.2.2.2.1))then
 (idx p2.2.2.2.2.2.2.2.2.1 p2.2.2.2.2.2.2.2.2.2.2.1).bind fun x3=>
 (bif((true&&(decide (0≤(IntKind.wrap .i64 (p2.2.2.2.2.2.1+p2.2.2.2.2.2.2.2.2.2.2.1)))))&&(decide ((IntKind.wrap .i64 (p2.2.2.2.2.2.1+p2.2.2.2.2.2.2.2.2.2.2.1))<(p2.2.1:Int))))then
 ((p2.2.2.2.2.2.2.2.2.2.2.2.1)[(0+(Int.toNat (IntKind.wrap .i64 (p2.2.2.2.2.2.1+p2.2.2.2.2.2.2.2.2.2.2.1))))]?).bind fun x4=>
 (ldT x4 0 false 1).bind fun x5=>
 (asI .u32 (.t x5)).bind fun x6=>
 (bif((true&&(decide (0≤(IntKind.wrap .i64 (p2.2.2.2.2.2.1+p2.2.2.2.2.2.2.2.2.2.2.1)))))&&(decide ((IntKind.wrap .i64 (p2.2.2.2.2.2.1+p2.2.2.2.2.2.2.2.2.2.2.1))<(p2.2.1:Int))))then
 ((p2.2.2.2.2.2.2.2.2.2.2.2.1)[(0+(Int.toNat (IntKind.wrap .i64 (p2.2.2.2.2.2.1+p2.2.2.2.2.2.2.2.2.2.2.1))))]?).bind fun x7=>
 (asI .u32 (.t x7)).bind fun x8=>
 some (.inl (p2.1,p2.2.1,p2.2.2.1,p2.2.2.2.1,p2.2.2.2.2.1,p2.2.2.2.2.2.1,p2.2.2.2.2.2.2.1,(Int.fdiv (IntKind.wrap .u64 (p2.2.2.2.2.2.2.2.1+(IntKind.wrap .u64 ((IntKind.wrap .u64 ((IntKind.wrap .u64 p2.2.2.2.2.2.2.1)*(IntKind.wrap .u64 x3)))+(IntKind.wrap .u64 x6))))) (2^32)),p2.2.2.2.2.2.2.2.2.1,p2.2.2.2.2.2.2.2.2.2.1,(IntKind.wrap .i64 (p2.2.2.2.2.2.2.2.2.2.2.1+1)),(List.set p2.2.2.2.2.2.2.2.2.2.2.2.1 (0+(Int.toNat (IntKind.wrap .i64 (p2.2.2.2.2.2.1+p2.2.2.2.2.2.2.2.2.2.2.1)))) (T.s (.int .u32 (IntKind.wrap .u32 (IntKind.wrap .u64 (p2.2.2.2.2.2.2.2.1+(IntKind.wrap .u64 ((IntKind.wrap .u64 ((IntKind.wrap .u64 p2.2.2.2.2.2.2.1)*(IntKind.wrap .u64 x3)))+(IntKind.wrap .u64 x6))))))))),()))
 else none)
 else none)
 else
  some (.inr (p2.1,p2.2.1,p2.2.2.1,p2.2.2.2.1,p2.2.2.2.2.1,p2.2.2.2.2.2.1,p2.2.2.2.2.2.2.1,p2.2.2.2.2.2.2.2.1,p2.2.2.2.2.2.2.2.2.1,p2.2.2.2.2.2.2.2.2.2.1,p2.2.2.2.2.2.2.2.2.2.2.1,p2.2.2.2.2.2.2.2.2.2.2.2.1,())))
def qgh(fu:Nat):((List Int)×Nat×(List Int)×Int×Int×(List T)×Unit)→Option (((List Int)×Nat×(List Int)×Int×Int×(List T)×Unit) ⊕ ((List Int)×Nat×(List Int)×Int×Int×(List T)×Unit)):=fun p0=>(bif(decide (p0.2.2.2.2.1<p0.2.2.2.1))then
 (idx p0.2.2.1 p0.2.2.2.2.1).bind fun x1=>
 (itP fu (qgg) (p0.1,p0.2.1,p0.2.2.1,p0.2.2.2.1,p0.2.2.2.2.1,p0.2.2.2.2.1,x1,(0:Int),p0.1,(List.length p0.1:Int),(0:Int),p0.2.2.2.2.2.1,())).bind fun x9=>
 (bif((true&&(decide (0≤(IntKind.wrap .i64 (x9.2.2.2.2.2.1+(List.length x9.1:Int))))))&&(decide ((IntKind.wrap .i64 (x9.2.2.2.2.2.1+(List.length x9.1:Int)))<(x9.2.1:Int))))then
 ((x9.2.2.2.2.2.2.2.2.2.2.2.1)[(0+(Int.toNat (IntKind.wrap .i64 (x9.2.2.2.2.2.1+(List.length x9.1:Int)))))]?).bind fun x10=>
 (asI .u32 (.t x10)).bind fun x11=>
 some (.inl (x9.1,x9.2.1,x9.2.2.1,x9.2.2.2.1,(IntKind.wrap .i64 (x9.2.2.2.2.1+1)),(List.set x9.2.2.2.2.2.2.2.2.2.2.2.1 (0+(Int.toNat (IntKind.wrap .i64 (x9.2.2.2.2.2.1+(List.length x9.1:Int))))) (T.s (.int .u32 (IntKind.wrap .u32 x9.2.2.2.2.2.2.2.1)))),()))
 else none)
 else
  some (.inr (p0.1,p0.2.1,p0.2.2.1,p0.2.2.2.1,p0.2.2.2.2.1,p0.2.2.2.2.2.1,())))
def Mul  (fu:Nat)(a:(List Int))(b:(List Int)):Option (List Int) :=
 (bif(((true&&(decide (0≤(IntKind.wrap .i64 ((List.length a:Int)+(List.length b:Int))))))&&(decide ((IntKind.wrap .i64 ((List.length a:Int)+(List.length b:Int)))≤(IntKind.wrap .i64 ((List.length a:Int)+(List.length b:Int))))))&&(decide ((IntKind.wrap .i64 ((List.length a:Int)+(List.length b:Int)))≤549755813888)))then
 (itP fu (qgh fu) (b,(Int.toNat (IntKind.wrap .i64 ((List.length a:Int)+(List.length b:Int)))),a,(List.length a:Int),(0:Int),(List.replicate (Int.toNat (IntKind.wrap .i64 ((List.length a:Int)+(List.length b:Int)))) (T.s (.int .u32 0))),())).bind fun x12=>
 (Su.sub x12.2.2.2.2.2.1 0 x12.2.1).bind fun x13=>
 (Su.sub x12.2.2.2.2.2.1 0 x12.2.1).bind fun x14=>
 (Su.sub x12.2.2.2.2.2.1 0 x12.2.1).bind fun x15=>
 ((jW 1 x13).bind fun x16=>
 some (ofN (qa x16))).bind fun x17=>
 some x17
 else none)
theorem qaG:∀(l:List Int) (j:Nat) (y:Int),j<l.length→qa (l.set j y)+4294967296^j*(nth l j).toNat=qa l+4294967296^j*y.toNat
 | [],j,y,h=>by simp at h
 | x::l,0,y,_=>by simp[qa,nth];omega
 | x::l,j+1,y,h=>by
  have ih:=qaG l j y (by simpa using h)
  have e:nth (x::l) (j+1)=nth l j:=by simp[nth]
  rw[e];simp only[Wu,qa,Kx];have h1:4294967296^j*4294967296*(nth l j).toNat=4294967296*(4294967296^j*(nth l j).toNat):=by rw[zL (4294967296^j) 4294967296,zR]
  have h2:4294967296^j*4294967296*y.toNat=4294967296*(4294967296^j*y.toNat):=by rw[zL (4294967296^j) 4294967296,zR]
  rw[h1,h2];omega
theorem Wd.set{l:List Int}(h:Wd l){y:Int}(h0:0≤y)(h1:y<4294967296)(j:Nat):Wd (l.set j y):=fun x hx=>by
 rcases Wv hx with hx | rfl
 · exact h x hx
 · exact⟨h0,h1⟩
theorem qbY{l:List Int}{j k:Nat}(y:Int)(h:j≠k):nth (l.set j y) k=nth l k:=by unfold nth;rw[Kt h]
theorem ZZ{l:List Int}{j:Nat}(h:j<l.length):(l.map eW)[j]?=some (eW (nth l j)):=by
 rw[KQ,zD h];simp[nth,zD h]
theorem qe1(l:List Int)(j:Nat)(y:Int):(l.map eW).set j (eW y)=(l.set j y).map eW:=by rw[WO]
theorem QM(κ:IntKind)(y:Int):asI κ (.t (.s (.int κ y)))=some y:=by simp[asI]
theorem Y8(y:Int):ldT (eW y) 0 false 1=some (eW y):=rfl
theorem qun(a b:List Int)(hb:Wd b)(x t:Int)(hx0:0≤x)(hx1:x<4294967296)(i:Nat)(hlen:a.length+b.length≤549755813888)(hi:i<a.length)(out0:List Int):∀(m k:Nat) (out:List Int) (c:Int),k+m=b.length→out.length=a.length+b.length→Wd out →
 0≤c→c<4294967296→(∀j,i+k≤j→nth out j=nth out0 j)→qa out+4294967296^(i+k)*c.toNat=qa out0+4294967296^i*(x.toNat*qa (b.take k)) →
 ∃(out':List Int) (c':Int),out'.length=a.length+b.length∧Wd out'∧0≤c'∧c'<4294967296∧(∀j,i+b.length≤j→nth out' j=nth out0 j)∧qa out'+4294967296^(i+b.length)*c'.toNat=qa out0+4294967296^i*(x.toNat*qa b) ∧
  ∃N,∀n,N≤n→itP n qgg (b,a.length+b.length,a,(a.length:Int),t,(i:Int),x,c,b,(b.length:Int),(k:Int),out.map eW,()) =
   some (b,a.length+b.length,a,(a.length:Int),t,(i:Int),x,c',b,(b.length:Int),(b.length:Int),out'.map eW,())
 | 0,k,out,c,hk,ho,hw,hc0,hc1,hz,hv=>by
  have:k=b.length:=by omega
  subst this;refine⟨out,c,ho,hw,hc0,hc1,hz,by rw[zS (zE _)]at hv;exact hv,1,fun n hn=>?_⟩
  obtain⟨n,rfl⟩:∃q,n=q+1:=⟨n-1,by omega⟩
  rw[qC];simp[qgg]
 | m+1,k,out,c,hk,ho,hw,hc0,hc1,hz,hv=>by
  have hkb:k<b.length:=by omega
  have hj:i+k<out.length:=by omega
  obtain⟨y0,y1⟩:=jU hb k;obtain⟨o0,o1⟩:=jU hw (i+k)
  have hy:idx b (k:Int)=some (nth b k):=by rw[jB,zD hkb];simp[nth,zD hkb]
  obtain⟨X,rfl⟩:∃X:Nat,x=(X:Int):=⟨x.toNat,by omega⟩
  obtain⟨Y,hY⟩:∃Y:Nat,nth b k=(Y:Int):=⟨(nth b k).toNat,by omega⟩
  obtain⟨Z,hZ⟩:∃Z:Nat,nth out (i+k)=(Z:Int):=⟨(nth out (i+k)).toNat,by omega⟩
  obtain⟨C,rfl⟩:∃C:Nat,c=(C:Int):=⟨c.toNat,by omega⟩
  have hXY:X*Y≤4294967295*4294967295:=Vd (by omega) (by omega)
  have e0:IntKind.i64.wrap ((i:Int)+(k:Int))=((i+k:Nat):Int):=by rw[w64 (by omega) (by omega)];rfl
  have e1:IntKind.u64.wrap (X:Int)=X:=jS (by omega) (by omega)
  have e2:IntKind.u64.wrap (Y:Int)=Y:=jS (by omega) (by omega)
  have e3:IntKind.u64.wrap (Z:Int)=Z:=jS (by omega) (by omega)
  have e4:IntKind.u64.wrap ((X:Int)*(Y:Int))=((X*Y:Nat):Int):=by rw[← Kq];exact jS (by omega) (by omega)
  have e5:IntKind.u64.wrap (((X*Y:Nat):Int)+(Z:Int))=((X*Y+Z:Nat):Int):=by rw[jS (by omega) (by omega)];rfl
  have e6:IntKind.u64.wrap ((C:Int)+((X*Y+Z:Nat):Int))=((C+(X*Y+Z):Nat):Int):=by rw[jS (by omega) (by omega)];rfl
  have e9:IntKind.i64.wrap ((k:Int)+1)=((k+1:Nat):Int):=by rw[w64 (by omega) (by omega)];rfl
  generalize hS:C+(X*Y+Z)=S at *
  have e7:IntKind.u32.wrap (S:Int)=((S % 4294967296:Nat):Int):=by rw[wrap_u32];omega
  have e8:Int.fdiv (S:Int) (2^32)=((S / 4294967296:Nat):Int):=by
   rw[Vs _ (by decide)];rfl
  have hset:=qaG out (i+k) ((S % 4294967296:Nat):Int) hj
  rw[hZ]at hset;obtain⟨out',c',h1,h2,h3,h4,h5,h6,N,h7⟩:=qun a b hb (X:Int) t hx0 hx1 i hlen hi out0 m (k+1) (out.set (i+k) ((S % 4294967296:Nat):Int)) ((S / 4294967296:Nat):Int) (by omega) (by simp[ho])
   (hw.set (by omega) (by omega) _) (by omega) (by omega) (fun j hj=>by rw[qbY _ (by omega)];exact hz j (by omega)) (by
     simp only[zl]at hset hv ⊢;rw[qR,hY];simp only[zl];have hp:4294967296^(i+(k+1))*(S / 4294967296)+4294967296^(i+k)*(S % 4294967296)=4294967296^(i+k)*S:=by
      rw[← KD,Kx,zR,← KO];congr 1;omega
     have hq:4294967296^(i+k)*S=4294967296^(i+k)*C+4294967296^(i+k)*(X*Y)+4294967296^(i+k)*Z:=by
      rw[← hS,KO,KO,KD]
     have hr:4294967296^i*(X*(qa (b.take k)+4294967296^k*Y))=4294967296^i*(X*qa (b.take k))+4294967296^(i+k)*(X*Y):=by
      rw[KO,KO,zW]
      congr 1
      rw[WB X,zR]
     rw[hr];omega)
  refine⟨out',c',h1,h2,h3,h4,h5,h6,N+1,fun n hn=>?_⟩
  obtain⟨n,rfl⟩:∃q,n=q+1:=⟨n-1,by omega⟩
  have hst:qgg (b,a.length+b.length,a,(a.length:Int),t,(i:Int),(X:Int),(C:Int),b,(b.length:Int),(k:Int),out.map eW,()) =
   some (.inl (b,a.length+b.length,a,(a.length:Int),t,(i:Int),(X:Int),((S / 4294967296:Nat):Int),b,(b.length:Int),((k+1:Nat):Int),(out.set (i+k) ((S % 4294967296:Nat):Int)).map eW,())):=by
   have d1:decide ((k:Int)<(b.length:Int))=true:=zf (by omega)
   have d2:decide ((0:Int)≤((i+k:Nat):Int))=true:=zf (by omega)
   have d3:decide (((i+k:Nat):Int)<((a.length+b.length:Nat):Int))=true:=zf (by omega)
   have hg:(out.map eW)[0+((i+k:Nat):Int).toNat]?=some (eW (Z:Int)):=by
    rw[zQ,zl,ZZ hj,hZ]
   simp only[qgg,d1,zd,hy,hY,zi,e0,d2,d3,zG,hg,Y8,QM,e1,e2,e3,e4,e5,e6,e7,e8,e9];simp only[zQ,zl,qe1]
  rw[qC,hst];exact h7 n (by omega)
theorem qpG(a b:List Int)(ha:Wd a)(hb:Wd b)(hlen:a.length+b.length≤549755813888):∀(m i:Nat) (out:List Int),i+m=a.length→out.length=a.length+b.length→Wd out→(∀j,i+b.length≤j→nth out j=0) →
 qa out=qa (a.take i)*qa b →
 ∃out':List Int,out'.length=a.length+b.length∧Wd out'∧qa out'=qa a*qa b ∧
  ∃N,∀fu,N≤fu→∀n,N≤n→itP n (qgh fu) (b,a.length+b.length,a,(a.length:Int),(i:Int),out.map eW,())=some (b,a.length+b.length,a,(a.length:Int),(a.length:Int),out'.map eW,())
 | 0,i,out,hk,ho,hw,hz,hv=>by
  have:i=a.length:=by omega
  subst this;refine⟨out,ho,hw,by rw[zS (zE _)]at hv;exact hv,1,fun fu _ n hn=>?_⟩
  obtain⟨n,rfl⟩:∃q,n=q+1:=⟨n-1,by omega⟩
  rw[qC];simp[qgh]
 | m+1,i,out,hk,ho,hw,hz,hv=>by
  have hia:i<a.length:=by omega
  obtain⟨x0,x1⟩:=jU ha i;have hx:idx a (i:Int)=some (nth a i):=by rw[jB,zD hia];simp[nth,zD hia]
  obtain⟨o1,c,g1,g2,g3,g4,g5,g6,N1,g7⟩:=qun a b hb (nth a i) (i:Int) x0 x1 i hlen hia out b.length 0 out 0 (by omega) ho hw (by omega) (by omega) (fun _ _=>rfl) (by simp[qa])
  have hj:i+b.length<o1.length:=by omega
  have hnz:nth o1 (i+b.length)=0:=by rw[g5 _ (zE _)];exact hz _ (zE _)
  have hset:=qaG o1 (i+b.length) c hj
  rw[hnz]at hset;obtain⟨out',h1,h2,h3,N2,h4⟩:=qpG a b ha hb hlen m (i+1) (o1.set (i+b.length) c) (by omega) (by simp[g1]) (g2.set g3 g4 _)
   (fun j hj=>by rw[qbY _ (by omega),g5 j (by omega)];exact hz j (by omega)) (by
     have e:qa (a.take (i+1))*qa b=qa (a.take i)*qa b+4294967296^i*((nth a i).toNat*qa b):=by
      rw[qR,zV,zR]
     simp only[W5,VB,Kr]at hset;omega)
  refine⟨out',h1,h2,h3,max N1 N2+1,fun fu hfu n hn=>?_⟩
  obtain⟨n,rfl⟩:∃q,n=q+1:=⟨n-1,by omega⟩
  have e9:IntKind.i64.wrap ((i:Int)+1)=((i+1:Nat):Int):=by rw[w64 (by omega) (by omega)];rfl
  have e0:IntKind.i64.wrap ((i:Int)+(b.length:Int))=((i+b.length:Nat):Int):=by rw[w64 (by omega) (by omega)];rfl
  have e7:IntKind.u32.wrap c=c:=qn0 g3 g4
  have hst:qgh fu (b,a.length+b.length,a,(a.length:Int),(i:Int),out.map eW,())=some (.inl (b,a.length+b.length,a,(a.length:Int),((i+1:Nat):Int),(o1.set (i+b.length) c).map eW,())):=by
   have d1:decide ((i:Int)<(a.length:Int))=true:=zf (by omega)
   have d2:decide ((0:Int)≤((i+b.length:Nat):Int))=true:=zf (by omega)
   have d3:decide (((i+b.length:Nat):Int)<((a.length+b.length:Nat):Int))=true:=zf (by omega)
   have hg:(o1.map eW)[0+((i+b.length:Nat):Int).toNat]?=some (eW 0):=by
    rw[zQ,zl,ZZ hj,hnz]
   have g7':=g7 fu (by omega)
   simp only[XN]at g7';simp only[qgh,d1,zd,hx,zi,g7',e0,d2,d3,zG,hg,QM,e7,e9];simp only[zQ,zl,qe1]
  rw[qC,hst];exact h4 fu (by omega) n (by omega)
theorem Z0(n:Nat):qa (List.replicate n 0)=0:=by
 induction n with
 | zero=>rfl
 | succ n ih=>simp[Wj,qa,ih]
def qaH(p:List Int×List Int):Option (List Int):=bif Nat.ble (p.1.length+p.2.length) 549755813888 then some (ofN (qa p.1*qa p.2))else none
theorem qDX(p:List Int×List Int)(y:List Int)(hg:(dc (cQ 1 1) (d1 (cQ 1 1))).good p)(h:qaH p=some y):∃n,Mul n p.1 p.2=some y:=by
 obtain⟨a,b⟩:=p;obtain⟨⟨ha,la⟩,hb,lb⟩:=hg;obtain⟨hm,h⟩:=qi h;have:=soi h;subst this
 have hlen:a.length+b.length≤549755813888:=zo hm
 obtain⟨out,h1,h2,h3,N,h4⟩:=qpG a b (Wd.of ha) (Wd.of hb) hlen a.length 0 (List.replicate (a.length+b.length) 0) (by omega) (by simp) (fun x hx=>by
  have:=(Vj.1 hx).2;subst this;exact⟨Vy _,by decide⟩) (fun j _=>by unfold nth;rw[Vt];split <;> rfl) (by simp[Z0,qa])
 refine⟨N,?_⟩
 have e0:IntKind.i64.wrap ((a.length:Int)+(b.length:Int))=((a.length+b.length:Nat):Int):=by rw[w64 (by omega) (by omega)];rfl
 have d1:decide ((0:Int)≤((a.length+b.length:Nat):Int))=true:=zf (by omega)
 have d2:decide (((a.length+b.length:Nat):Int)≤((a.length+b.length:Nat):Int))=true:=zf (by omega)
 have d3:decide (((a.length+b.length:Nat):Int)≤549755813888)=true:=zf (by omega)
 have h4':=h4 N (zE _) N (zE _)
 rw[We,XN]at h4';unfold Mul;simp only[e0,d1,d2,d3,zG,zd,zl];rw[show(T.s (.int .u32 0))=eW 0 from rfl,h4'];have hs:sub (out.map eW) 0 (a.length+b.length)=some (out.map eW):=by
  have:=YL (out.map eW)
  rwa [zr,h1]at this
 simp only[zi,hs,Q9];show some (ofN (qa out))=_
 rw[h3]
end
end Su
end
