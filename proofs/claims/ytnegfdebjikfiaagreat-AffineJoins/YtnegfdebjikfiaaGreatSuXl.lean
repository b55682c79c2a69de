/-
  An evaluator of the program's functions over trees of values, proved sound. No condition.
-/
import Derived.Test.YtnegfdebjikfiaaGreatSuSd
import Derived.Test.YtnegfdebjikfiaaGreatRb
set_option linter.unusedVariables false
set_option linter.unusedSimpArgs false
section
namespace Su
open Go Fly
abbrev Stp(S:Type):Type:=S→Option (S ⊕ S)
noncomputable section
variable {P:Program} {B:Bts}
theorem jz{h:BtsOK P B}(hc:B.fns.mp (fun f fn=>match fn.body with | some c=>okC fn.ntmps B.tbl f c | none=>true)=B.fns.mp fun _ _=>true){pr:qq}(hpr:j6 P B.tbl h.sound pr)
 {f:Nat} {α ρ:Type} {d:Dec α} {e:Dec ρ} {g:α→Option ρ} (X:Nat→α→Option ρ) (hgo:(B.go.get f).isSome=true) (heq:∀fu a,qcF B.tbl pr (shN B.tbl pr fu 9) fu f (d.enc a) e.dec=X fu a)
 (ok:∀a y,d.good a→g a=some y→∃n,X n a=some y):Ok1 P B.tbl h.sound f (prim d e g) :=
 qdV hc hpr hgo fun a y hg h=>by
  obtain⟨n,hn⟩:=ok a y hg h;exact⟨n,9,n,(heq n a).trans hn⟩
theorem qF{h:BtsOK P B}(hc:B.fns.mp (fun f fn=>match fn.body with | some c=>okC fn.ntmps B.tbl f c | none=>true)=B.fns.mp fun _ _=>true){pr:qq}(hpr:j6 P B.tbl h.sound pr)
 {f:Nat} {α ρ:Type} {d:Dec α} {e:Dec ρ} {g:α→Option ρ} (X:α→Option ρ) (hgo:(B.go.get f).isSome=true) (heq:∀fu a,qcF B.tbl pr (shN B.tbl pr fu 9) fu f (d.enc a) e.dec=X a)
 (ok:∀a y,d.good a→g a=some y→X a=some y):Ok1 P B.tbl h.sound f (prim d e g) :=
 qdV hc hpr hgo fun a y hg h=>⟨0,9,0,(heq 0 a).trans (ok a y hg h)⟩
theorem fnL{h:BtsOK P B}(hc:B.fns.mp (fun f fn=>match fn.body with | some c=>okC fn.ntmps B.tbl f c | none=>true)=B.fns.mp fun _ _=>true){pr:qq}(hpr:j6 P B.tbl h.sound pr)
 {f:Nat} {α ρ:Type} {d:Dec α} {e:Dec ρ} {g:α→Option ρ} (hgo:(B.go.get f).isSome=true) (heq:∀fu a,qcF B.tbl pr (shN B.tbl pr fu 9) fu f (d.enc a) e.dec=g a):Ok1 P B.tbl h.sound f (prim d e g) :=
 qdV hc hpr hgo fun a y _ h=>⟨0,9,0,(heq 0 a).trans h⟩
end
end Su
end
section
namespace Su
open Go Fly
noncomputable section
def qlX  (f:Int):Option (Bool×Int×Int) :=
 some ((decide ((Int.fdiv f (2^63))=1)),(IntKind.wrap .i64 (Fly.qz Go.BinOp.and .u64 (Int.fdiv f (2^52)) 2047)),(Fly.qz Go.BinOp.and .u64 f 4503599627370495))
def qry  (neg:Bool)(exp:Int)(frac:Int):Option (Int×Int) :=
 (bif(decide (exp<0))then
 some ((0:Int),(1:Int))
 else
  (bif(decide (2047<exp))then
  some ((0:Int),(1:Int))
 else
  (bif(decide (4503599627370495<frac))then
  some ((0:Int),(1:Int))
 else
  (bif neg then
  some ((Fly.qz Go.BinOp.or .u64 (Fly.qz Go.BinOp.or .u64 (IntKind.wrap .u64 ((IntKind.wrap .u64 exp)*(2^52))) frac) 9223372036854775808),(0:Int))
 else
  some ((Fly.qz Go.BinOp.or .u64 (IntKind.wrap .u64 ((IntKind.wrap .u64 exp)*(2^52))) frac),(0:Int))))))
def qj3(f:Int):Option (Bool×Int×Int):=some (bS f.toNat,((bK f.toNat / 4503599627370496:Nat):Int),((f.toNat % 4503599627370496:Nat):Int))
theorem qlY(f:Nat)(h:f<18446744073709551616):decide (Int.fdiv (f:Int) (2^63)=1)=bS f:=by
 rw[yQ];refine bB ?_
 rw[JU];constructor
 · intro h;have:f / 2^63=1:=by omega
   rw[this];rfl
 · intro h;omega
theorem qEg(f:Nat)(h:f<18446744073709551616):IntKind.i64.wrap (qz .and .u64 (Int.fdiv (f:Int) (2^52)) 2047)=((bK f / 4503599627370496:Nat):Int):=by
 have h1:=YG (f / 2^52) 2047 11 rfl (by omega) (by omega)
 rw[yQ,show(2047:Int)=((2047:Nat):Int) from rfl,h1];unfold bK;rw[w64 (by omega) (by omega)]
 congr 1;omega
theorem qBj(f:Nat)(h:f<18446744073709551616):qz .and .u64 (f:Int) 4503599627370495=((f % 4503599627370496:Nat):Int):=YG f 4503599627370495 52 rfl h (by omega)
theorem qpk(f:Int)(y:Bool×Int×Int)(hg:(d1 (cI .u64)).good f)(h:qj3 f=some y):qlX f=some y:=by
 obtain⟨n,rfl,hn⟩:=qG hg;have:=soi h;subst this
 unfold qlX;rw[qlY n hn,qEg n hn,qBj n hn,zm]
def YH(p:Bool×Int×Int):Option (Int×Int):=bif decide (0≤p.2.1)&&decide (p.2.1≤2047)&&decide (p.2.2≤4503599627370495)then some (((sgN p.1+4503599627370496*p.2.1.toNat+p.2.2.toNat:Nat):Int),0)else some (0,1)
theorem qrz(p:Bool×Int×Int)(y:Int×Int)(hg:(dc cB (dc (cI .i64) (d1 (cI .u64)))).good p)(h:YH p=some y):qry p.1 p.2.1 p.2.2=some y:=by
 obtain⟨neg,e,fr⟩:=p;obtain⟨_,he,hf⟩:=hg;have he:=qbv.1 he;obtain⟨F,rfl,hF⟩:=qG hf;unfold YH at h;unfold qry;simp only[]at h ⊢;by_cases h1:e<0
 · rw[zh (show¬(0:Int)≤e by omega)]at h
   rw[zd h1];exact h
 · rw[zd (show(0:Int)≤e by omega)]at h
   rw[zh h1,zi];by_cases h2:2047<e
   · rw[zh (show¬e≤2047 by omega)]at h
     rw[zd h2];exact h
   · rw[zd (show e≤2047 by omega)]at h
     rw[zh h2,zi];by_cases h3:(4503599627370495:Int)<(F:Int)
     · rw[zh (show¬(F:Int)≤4503599627370495 by omega)]at h
       rw[zd h3];exact h
     · rw[zd (show(F:Int)≤4503599627370495 by omega)]at h
       rw[zh h3,zi];obtain⟨E,rfl⟩:∃E:Nat,e=(E:Int):=⟨e.toNat,by omega⟩
       have e1:IntKind.u64.wrap (E:Int)=(E:Int):=Jv (by omega) (by omega)
       have e2:IntKind.u64.wrap ((E:Int)*2^52)=((E*2^52:Nat):Int):=by
        rw[show(2:Int)^52=((2^52:Nat):Int) from rfl,← Vc];exact Jv (by omega) (by omega)
       have e3:qz .or .u64 ((E*2^52:Nat):Int) (F:Int)=((E*2^52+F:Nat):Int):=by
        rw[qbA _ _ (by omega) hF,qdW (by omega)]
       rw[e1,e2,e3];have h:=soi h;subst h;cases neg with
       | true=>
        rw[zf,qxc _ (by omega)];simp[sgN];omega
       | false=>simp[sgN];omega
end
end Su
end
section
namespace Su
open Go Fly
noncomputable section
def qlZ  (f:Int):Option Int :=
 (bif(decide (((((bK f.toNat) / 4503599627370496):Nat):Int)=2047))then
 (bif(decide ((((f.toNat % 4503599627370496):Nat):Int)=0))then
 some 3
 else
  (bif(decide (((((bK f.toNat) / 4503599627370496):Nat):Int)=2047))then
  some 4
 else
  (bif(decide (((((bK f.toNat) / 4503599627370496):Nat):Int)=0))then
  (bif(decide ((((f.toNat % 4503599627370496):Nat):Int)=0))then
  some 0
 else
  (bif(decide (((((bK f.toNat) / 4503599627370496):Nat):Int)=0))then
  some 1
 else
  some 2))
 else
  (bif(decide (((((bK f.toNat) / 4503599627370496):Nat):Int)=0))then
  some 1
 else
  some 2))))
 else
  (bif(decide (((((bK f.toNat) / 4503599627370496):Nat):Int)=2047))then
  some 4
 else
  (bif(decide (((((bK f.toNat) / 4503599627370496):Nat):Int)=0))then
  (bif(decide ((((f.toNat % 4503599627370496):Nat):Int)=0))then
  some 0
 else
  (bif(decide (((((bK f.toNat) / 4503599627370496):Nat):Int)=0))then
  some 1
 else
  some 2))
 else
  (bif(decide (((((bK f.toNat) / 4503599627370496):Nat):Int)=0))then
  some 1
 else
  some 2))))
def qBk  (f:Int):Option Int :=
 (bif(decide ((Int.fdiv f (2^63))=1))then
 some (IntKind.wrap .i64 (0-(IntKind.wrap .i64 (Fly.qz Go.BinOp.andNot .u64 f 9223372036854775808))))
 else
  some (IntKind.wrap .i64 (Fly.qz Go.BinOp.andNot .u64 f 9223372036854775808)))
def pInf  (neg:Bool):Option Int :=
 some (((((sgN neg)+(4503599627370496*(Int.toNat 2047)))+(Int.toNat 0)):Nat):Int)
def qBl :Option Int :=
 some 9221120237041090560
def qj4(f:Int):Option Int:=some (qA (bK f.toNat):Int)
theorem qpl(f:Int)(y:Int)(hg:(d1 (cI .u64)).good f)(h:qj4 f=some y):qlZ f=some y:=by
 obtain⟨n,rfl,hn⟩:=qG hg;have:=soi h;subst this
 unfold qlZ;have hk:bK n=bK n / 4503599627370496*4503599627370496+n % 4503599627370496:=by unfold bK;omega
 have he:bK n / 4503599627370496≤2047:=by have:=qaw n;omega
 have hf:n % 4503599627370496<4503599627370496:=Vo _ (by decide)
 have hc:qA (bK n)=_:=(congrArg qA hk).trans (qnp he hf)
 rw[zm,hc];generalize bK n / 4503599627370496=e at *
 generalize n % 4503599627370496=f at *
 rw[show(2047:Int)=((2047:Nat):Int) from rfl,show(0:Int)=((0:Nat):Int) from rfl];simp only[Jq,qbC];by_cases h1:e=2047
 · by_cases h2:f=0 <;> simp[h1,h2]
 · by_cases h3:e=0
   · by_cases h2:f=0 <;> simp[h3,h2]
   · simp[h1,h3]
def qrA(f:Int):Option Int:=some (yf f.toNat)
theorem qxd(f:Int)(y:Int)(hg:(d1 (cI .u64)).good f)(h:qrA f=some y):qBk f=some y:=by
 obtain⟨n,rfl,hn⟩:=qG hg;have:=soi h;subst this
 unfold qBk;have hl:=qaw n;rw[qlY n hn,qgD n hn,zm];unfold yf;rw[show n % 9223372036854775808=bK n from rfl];have e1:IntKind.i64.wrap (bK n:Int)=(bK n:Int):=w64 (by omega) (by omega)
 rw[e1];cases bS n with
 | true=>rw[zf,zf,w64 (by omega) (by omega),Int.zero_sub]
 | false=>rfl
def qrB(neg:Bool):Option Int:=some ((sgN neg+9218868437227405312:Nat):Int)
theorem qxe(neg:Bool)(y:Int)(hg:(d1 cB).good neg)(h:qrB neg=some y):pInf neg=some y:=by
 have:=soi h;subst this
 cases neg <;> rfl
end
end Su
end
section
namespace Su
open Go Fly
noncomputable section
def ql0  (f:Int):Option (Int×Int) :=
 (bif(decide ((((qA (bK f.toNat)):Nat):Int)=2))then
 some ((Fly.qz Go.BinOp.or .u64 4503599627370496 (((f.toNat % 4503599627370496):Nat):Int)),(IntKind.wrap .i64 (((((bK f.toNat) / 4503599627370496):Nat):Int)-1075)))
 else
  (bif(decide ((((qA (bK f.toNat)):Nat):Int)=1))then
  some ((((f.toNat % 4503599627370496):Nat):Int),(-1074))
 else
  some ((0:Int),(0:Int))))
def qBm  (f:Int):Option Bool :=
 some (decide ((((qA (bK f.toNat)):Nat):Int)=4))
def qj5(f:Int):Option (Int×Int):=some ((spM (bK f.toNat):Int),spE (bK f.toNat))
theorem qpm(f:Int)(y:Int×Int)(hg:(d1 (cI .u64)).good f)(h:qj5 f=some y):ql0 f=some y:=by
 obtain⟨n,rfl,hn⟩:=qG hg;have:=soi h;subst this
 unfold ql0;rw[zm];have hk:bK n % 4503599627370496=n % 4503599627370496:=by unfold bK;omega
 have hl:=qaw n;rw[← hk];generalize bK n=k at *
 have h2:decide (((qA k:Nat):Int)=2)=decide (4503599627370496≤k∧k≤9218868437227405311):=by
  rw[show(2:Int)=((2:Nat):Int) from rfl,qim,Jp]
  (repeat' split) <;> simp <;> omega
 have h1:decide (((qA k:Nat):Int)=1)=decide (0<k∧k<4503599627370496):=by
  rw[show(1:Int)=((1:Nat):Int) from rfl,qim,Jp]
  (repeat' split) <;> simp <;> omega
 rw[h2,h1];unfold spM spE;by_cases c2:4503599627370496≤k∧k≤9218868437227405311
 · have hf:jo k=true:=qT.2 (by omega)
   have e1:qz .or .u64 4503599627370496 ((k % 4503599627370496:Nat):Int)=((kM k:Nat):Int):=by
    have:=qbA 4503599627370496 (k % 4503599627370496) (by omega) (by omega)
    rw[show((4503599627370496:Nat):Int)=4503599627370496 from rfl]at this;rw[this];have h3:=qdW (x:=k % 4503599627370496) (y:=1) (r:=52) (by omega)
    rw[show(1*2^52:Nat)=4503599627370496 from rfl]at h3;rw[h3];unfold kM;rw[zP (by omega)];omega
   rw[zd c2,zf,e1,hf,w64 (by omega) (by omega),beq_dec,zh (by omega)];simp only[zf,zX,zW];unfold kE
   congr 2;omega
 · rw[zh c2,zi]
   by_cases c1:0<k∧k<4503599627370496
   · have hf:jo k=true:=qT.2 (by omega)
     rw[zd c1,zf,hf,beq_dec,zh (by omega)];simp only[zf,zX,zW];unfold kE kM;rw[zR (by omega),show k / 4503599627370496=0 by omega];rfl
   · rw[zh c1,zi]
     by_cases c0:k=0
     · subst c0;rfl
     · have hf:jo k=false:=qe4.2 (by omega)
       rw[hf];rfl
def qrC(f:Int):Option Bool:=some (qB (bK f.toNat))
theorem qxf(f:Int)(y:Bool)(hg:(d1 (cI .u64)).good f)(h:qrC f=some y):qBm f=some y:=by
 have:=soi h;subst this
 unfold qBm;rw[JB]
end
end Su
end
section
namespace Su
open Go Fly
noncomputable section
def qBn  (a:Int)(b:Int):Option (Int×Bool) :=
 (bif(qB (bK a.toNat))then
 some ((0:Int),false)
 else
  (bif(qB (bK b.toNat))then
  some ((0:Int),false)
 else
  (bif(decide ((yf a.toNat)<(yf b.toNat)))then
  some ((-1),true)
 else
  (bif(decide ((yf b.toNat)<(yf a.toNat)))then
  some ((1:Int),true)
 else
  some ((0:Int),true)))))
def qBo  (f:Int):Option Int :=
 (bif(qB (bK f.toNat))then
 some f
 else
  some (Fly.qz Go.BinOp.xor .u64 f 9223372036854775808))
def qBp  (f:Int):Option Int :=
 (bif(qB (bK f.toNat))then
 some f
 else
  some (Fly.qz Go.BinOp.andNot .u64 f 9223372036854775808))
def qrD(p:Int×Int):Option (Int×Bool):=some (jZ p.1.toNat p.2.toNat,qcO p.1.toNat p.2.toNat)
def qrE(f:Int):Option Int:=some (yG f.toNat:Int)
def qrF(f:Int):Option Int:=some (jT f.toNat:Int)
theorem qxg(p:Int×Int)(y:Int×Bool)(hg:(dc (cI .u64) (d1 (cI .u64))).good p)(h:qrD p=some y):qBn p.1 p.2=some y:=by
 obtain⟨a,b⟩:=p;have:=soi h;subst this
 unfold qBn jZ qcO qdC;cases qB (bK a.toNat)with
 | true=>rfl
 | false=>
  cases qB (bK b.toNat)with
  | true=>rfl
  | false=>
   simp only[zi,VY];cases decide (yf a.toNat<yf b.toNat)with
   | true=>rfl
   | false=>cases decide (yf b.toNat<yf a.toNat) <;> rfl
theorem qxh(f:Int)(y:Int)(hg:(d1 (cI .u64)).good f)(h:qrE f=some y):qBo f=some y:=by
 obtain⟨n,rfl,hn⟩:=qG hg;have:=soi h;subst this
 unfold qBo yG;rw[zm,qno n hn];cases qB (bK n)with
 | true=>rfl
 | false=>
  rw[zi,zi];cases hs:bS n with
  | true=>
   have:=JU.1 hs
   rw[zP (by omega),zf];rfl
  | false=>
   have:=Jo.1 hs
   rw[zR (by omega),zi]
theorem qxi(f:Int)(y:Int)(hg:(d1 (cI .u64)).good f)(h:qrF f=some y):qBp f=some y:=by
 obtain⟨n,rfl,hn⟩:=qG hg;have:=soi h;subst this
 unfold qBp jT;rw[zm,qgD n hn];cases qB (bK n) <;> rfl
end
end Su
end
section
namespace Su
open Go Fly
noncomputable section
def qrG  (a:Int)(b:Int):Option Bool :=
 (bif(qcO a.toNat b.toNat)then
 some (decide ((jZ a.toNat b.toNat)<0))
 else
  some false)
def qns(p:Int×Int):Option Bool:=some (jV p.1.toNat p.2.toNat)
theorem qrH(p:Int×Int)(y:Bool)(hg:(dc (cI .u64) (d1 (cI .u64))).good p)(h:qns p=some y):qrG p.1 p.2=some y:=by
 have:=soi h;subst this
 unfold qrG jV;cases qcO p.1.toNat p.2.toNat <;> rfl
end
end Su
end
section
namespace Su
open Go Fly
noncomputable section
def qnt:(Int×(List Int)×Int×Int×Unit)→Option ((Int×(List Int)×Int×Int×Unit) ⊕ (Lp (Int×(List Int)×Int×Int×Unit) Int)):=fun p1=>(bif(decide (p1.2.2.2.1<p1.2.2.1))then
 (idx p1.2.1 p1.2.2.2.1).bind fun x2=>
 (bif(qB (bK x2.toNat))then
 some (.inr (.ret 9221120237041090560))
 else
  (bif(jV p1.1.toNat x2.toNat)then
  some (.inl (x2,p1.2.1,p1.2.2.1,(IntKind.wrap .i64 (p1.2.2.2.1+1)),()))
 else
  some (.inl (p1.1,p1.2.1,p1.2.2.1,(IntKind.wrap .i64 (p1.2.2.2.1+1)),()))))
 else
  some (.inr (.exit 0 (p1.1,p1.2.1,p1.2.2.1,p1.2.2.2.1,()))))
def qBq  (fu:Nat)(l:(List Int)):Option Int :=
 (bif(decide ((List.length l:Int)=0))then
 some 9221120237041090560
 else
  (idx l 0).bind fun x0=>
  (itP fu (qnt) (x0,l,(List.length l:Int),(0:Int),())).bind fun x3=>
  (match x3 with
 | .exit i4 p5=>(bif(Nat.beq i4 0)then
  some p5.1
 else none)
 | .ret o6=>some o6))
def qnu:(Int×(List Int)×Int×Int×Unit)→Option ((Int×(List Int)×Int×Int×Unit) ⊕ (Lp (Int×(List Int)×Int×Int×Unit) Int)):=fun p1=>(bif(decide (p1.2.2.2.1<p1.2.2.1))then
 (idx p1.2.1 p1.2.2.2.1).bind fun x2=>
 (bif(qB (bK x2.toNat))then
 some (.inr (.ret 9221120237041090560))
 else
  (bif(jV x2.toNat p1.1.toNat)then
  some (.inl (x2,p1.2.1,p1.2.2.1,(IntKind.wrap .i64 (p1.2.2.2.1+1)),()))
 else
  some (.inl (p1.1,p1.2.1,p1.2.2.1,(IntKind.wrap .i64 (p1.2.2.2.1+1)),()))))
 else
  some (.inr (.exit 0 (p1.1,p1.2.1,p1.2.2.1,p1.2.2.2.1,()))))
def qBr  (fu:Nat)(l:(List Int)):Option Int :=
 (bif(decide ((List.length l:Int)=0))then
 some 9221120237041090560
 else
  (idx l 0).bind fun x0=>
  (itP fu (qnu) (x0,l,(List.length l:Int),(0:Int),())).bind fun x3=>
  (match x3 with
 | .exit i4 p5=>(bif(Nat.beq i4 0)then
  some p5.1
 else none)
 | .ret o6=>some o6))
def qrI(l:List Int):Option Int:=match l with
 | [a,b]=>some (qaq a.toNat b.toNat:Int)
 | _=>none
def qrJ(l:List Int):Option Int:=match l with
 | [a,b]=>some (minN a.toNat b.toNat:Int)
 | _=>none
theorem qzT:IntKind.i64.wrap (0+1)=1:=by decide
theorem qzU:IntKind.i64.wrap (1+1)=2:=by decide
theorem qxj(l:List Int)(y:Int)(hg:(d1 (cQ 2 1)).good l)(h:qrI l=some y):∃n,qBq n l=some y:=by
 match l,h with
 | [a,b],h=>
  have:=soi h;subst this
  obtain⟨A,rfl,hA⟩:=qG (hg.1 a (zq ..))
  obtain⟨B,rfl,hB⟩:=qG (hg.1 b (zo _ (zq ..)))
  refine⟨3,?_⟩
  unfold qBq qaq;have i0:idx [(A:Int),(B:Int)] 0=some (A:Int):=rfl
  have i1:idx [(A:Int),(B:Int)] 1=some (B:Int):=rfl
  simp only[zw,zN,i0,zj,qu,qnt,zm,qzT];have d0:decide (((0+1+1:Nat):Int)=0)=false:=by decide
  have d1:decide ((0:Int)<((0+1+1:Nat):Int))=true:=by decide
  have d2:decide ((1:Int)<((0+1+1:Nat):Int))=true:=by decide
  have d3:decide ((2:Int)<((0+1+1:Nat):Int))=false:=by decide
  rw[d0,d1];cases ha:qB (bK A)with
  | true=>rfl
  | false=>
   simp only[zf,zi,VE];cases hAA:jV A A <;> (
    simp only[zf,zi,zj,d2,i1,zm];cases hb:qB (bK B)with
    | true=>rfl
    | false=>
     simp only[zf,zi];cases hAB:jV A B <;> (
      simp only[zf,zi,zj,qzU,d3];rfl))
theorem qxk(l:List Int)(y:Int)(hg:(d1 (cQ 2 1)).good l)(h:qrJ l=some y):∃n,qBr n l=some y:=by
 match l,h with
 | [a,b],h=>
  have:=soi h;subst this
  obtain⟨A,rfl,hA⟩:=qG (hg.1 a (zq ..))
  obtain⟨B,rfl,hB⟩:=qG (hg.1 b (zo _ (zq ..)))
  refine⟨3,?_⟩
  unfold qBr minN;have i0:idx [(A:Int),(B:Int)] 0=some (A:Int):=rfl
  have i1:idx [(A:Int),(B:Int)] 1=some (B:Int):=rfl
  simp only[zw,zN,i0,zj,qu,qnu,zm,qzT];have d0:decide (((0+1+1:Nat):Int)=0)=false:=by decide
  have d1:decide ((0:Int)<((0+1+1:Nat):Int))=true:=by decide
  have d2:decide ((1:Int)<((0+1+1:Nat):Int))=true:=by decide
  have d3:decide ((2:Int)<((0+1+1:Nat):Int))=false:=by decide
  rw[d0,d1];cases ha:qB (bK A)with
  | true=>rfl
  | false=>
   simp only[zf,zi,VE];cases hAA:jV A A <;> (
    simp only[zf,zi,zj,d2,i1,zm];cases hb:qB (bK B)with
    | true=>rfl
    | false=>
     simp only[zf,zi];cases hAB:jV B A <;> (
      simp only[zf,zi,zj,qzU,d3];rfl))
end
end Su
end
section
namespace Su
open Go Fly
noncomputable section
def qBs  (f:Int):Option Bool :=
 (bif(!(decide ((((qA (bK f.toNat)):Nat):Int)=4)))then
 some (!(decide ((((qA (bK f.toNat)):Nat):Int)=3)))
 else
  some false)
def qrK  (f:Int):Option Bool :=
 some (decide ((((qA (bK f.toNat)):Nat):Int)=0))
theorem obs{α β:Type}{a:Option α}{f:α→Option β}{t:α}{r:Option β}(h:a=some t)(h2:f t=r):a.bind f=r:=by rw[h];exact h2
def qrL(f:Int):Option Bool:=some (jo (bK f.toNat))
def qnv(f:Int):Option Bool:=some (Nat.beq (bK f.toNat) 0)
theorem qxl(f:Int)(y:Bool)(hg:(d1 (cI .u64)).good f)(h:qrL f=some y):qBs f=some y:=by
 have:=soi h;subst this
 unfold qBs;rw[← qnq];cases decide (((qA (bK f.toNat):Nat):Int)=4)with
 | true=>rw[Kf,zi,Bool.and_false]
 | false=>rw[zX,zf,zL]
theorem qrM(f:Int)(y:Bool)(hg:(d1 (cI .u64)).good f)(h:qnv f=some y):qrK f=some y:=by
 have:=soi h;subst this
 unfold qrK;rw[Ya]
end
end Su
end
section
namespace Su
noncomputable section
open Go Fly
def qd(a:Int×Int):Nat:=18446744073709551616*a.1.toNat+a.2.toNat
theorem yR(a:Int×Int):qd a=a.1.toNat*18446744073709551616+a.2.toNat:=by unfold qd;rw[Kw]
def hiW(n:Nat):Int:=((n / 18446744073709551616 % 18446744073709551616:Nat):Int)
def loW(n:Nat):Int:=((n % 18446744073709551616:Nat):Int)
def subL:{f:Nat→Nat→Nat // ∀x y,f x y=x+340282366920938463463374607431768211456-y}:=Classical.choice ⟨⟨_,fun _ _=>rfl⟩⟩
def QF(x y:Nat):Nat:=subL.1 x y
theorem qdX(x y:Nat):QF x y=x+340282366920938463463374607431768211456-y:=subL.2 x y
theorem pw{r:Nat}(hr:r≤64):2^(64-r)*2^r=18446744073709551616:=by
 rw[← Kg,Nat.sub_add_cancel hr]
theorem qrN(H L r:Nat)(hr:r≤64)(hL:L<18446744073709551616) :
 (H*2^r) % 18446744073709551616 ||| L / 2^(64-r)=(H*18446744073709551616+L)*2^r / 18446744073709551616 % 18446744073709551616∧L*2^r % 18446744073709551616=(H*18446744073709551616+L)*2^r % 18446744073709551616:=by
 have hW:=pw hr;have hR:=zJ r;have hQ:=zJ (64-r)
 have hx:L / 2^(64-r)<2^r:=by rw[Vs hQ,Kw,hW];exact hL
 have h1:H*2^r % 18446744073709551616=H % 2^(64-r)*2^r:=by rw[← hW,Nat.mul_mod_mul_right]
 refine⟨?_,?_⟩
 · rw[h1,qdW hx]
   have h2:(H*18446744073709551616+L)*2^r / 18446744073709551616=H*2^r+L / 2^(64-r):=by
    have:(H*18446744073709551616+L)*2^r=L*2^r+18446744073709551616*(H*2^r):=by
     rw[Kp,VQ,Kw (H*2^r)];omega
    rw[this,Wc _ _ (by decide)];have h3:L*2^r / 18446744073709551616=L / 2^(64-r):=by rw[← hW,Nat.mul_div_mul_right _ _ hR]
    omega
   rw[h2];have h4:=K6 H (2^(64-r))
   have h5:H*2^r=18446744073709551616*(H / 2^(64-r))+H % 2^(64-r)*2^r:=by
    conv=>lhs;rw[← h4]
    rw[Kp,VQ,hW]
   rw[h5,KD,Nat.mul_add_mod];have h6:H % 2^(64-r)*2^r+L / 2^(64-r)<18446744073709551616:=by
    have h7:=Vo H hQ;have h8:(H % 2^(64-r)+1)*2^r≤2^(64-r)*2^r:=Ks _ h7
    rw[hW,Kp]at h8;omega
   rw[Kq h6]
 · have:(H*18446744073709551616+L)*2^r=18446744073709551616*(H*2^r)+L*2^r:=by
    rw[Kp,VQ,Kw (H*2^r)]
   rw[this,Nat.mul_add_mod]
theorem qrO(H L r:Nat)(hr:r≤64)(hH:H<18446744073709551616)(hL:L<18446744073709551616) :
 H / 2^r=(H*18446744073709551616+L) / 2^r / 18446744073709551616 % 18446744073709551616∧L / 2^r ||| (H*2^(64-r)) % 18446744073709551616=(H*18446744073709551616+L) / 2^r % 18446744073709551616 ∧
 (L*2^(64-r) % 18446744073709551616=0↔(H*18446744073709551616+L) % 2^r=0):=by
 have hW:2^r*2^(64-r)=18446744073709551616:=by rw[Kw];exact pw hr
 have hR:=zJ r;have hQ:=zJ (64-r)
 have hx:L / 2^r<2^(64-r):=by rw[Vs hR,Kw,hW];exact hL
 have h1:H*2^(64-r) % 18446744073709551616=H % 2^r*2^(64-r):=by rw[← hW,Nat.mul_mod_mul_right]
 have hv:H*18446744073709551616+L=L+2^r*(H*2^(64-r)):=by
  rw[← hW,WB,WG]
 have hd:(H*18446744073709551616+L) / 2^r=H*2^(64-r)+L / 2^r:=by
  rw[hv,Wc _ _ hR,WG]
 refine⟨?_,?_,?_⟩
 · rw[zQ,Kw (2^r),← zQ]
   have:(H*18446744073709551616+L) / 18446744073709551616=H:=by omega
   rw[this,Kq];exact VA (Wy _ _) hH
 · rw[h1,qik hx,hd]
   have h4:=K6 H (2^r)
   have h5:H*2^(64-r)=18446744073709551616*(H / 2^r)+H % 2^r*2^(64-r):=by
    conv=>lhs;rw[← h4]
    rw[Kp,VQ,hW]
   rw[h5,KD,Nat.mul_add_mod];have h6:H % 2^r*2^(64-r)+L / 2^r<18446744073709551616:=by
    have h7:=Vo H hR;have h8:(H % 2^r+1)*2^(64-r)≤2^r*2^(64-r):=Ks _ h7
    rw[hW,Kp]at h8;omega
   rw[Kq h6]
 · have e1:L*2^(64-r) % 18446744073709551616=L % 2^r*2^(64-r):=by rw[← hW,Nat.mul_mod_mul_right]
   have e2:(H*18446744073709551616+L) % 2^r=L % 2^r:=by rw[hv,Nat.add_mul_mod_self_left]
   rw[e1,e2];constructor
   · intro h
     rcases Nat.mul_eq_zero.1 h with h | h
     · exact h
     · omega
   · intro h;rw[h,Vg]
theorem qrP(a b:Nat)(ha:a<18446744073709551616)(hb:b<18446744073709551616) :
 let x0:=a % 4294967296;let x1:=a / 4294967296;let y0:=b % 4294967296;let y1:=b / 4294967296
 let t:=x1*y0+x0*y0 / 4294967296
 let w1:=t % 4294967296+x0*y1
 x1*y1+t / 4294967296+w1 / 4294967296=a*b / 18446744073709551616∧x0*y0<18446744073709551616∧t<18446744073709551616∧w1<18446744073709551616∧x1*y1+t / 4294967296+w1 / 4294967296<18446744073709551616∧x1*y0<18446744073709551616∧x0*y1<18446744073709551616∧x1*y1+t / 4294967296<18446744073709551616∧x1*y1<18446744073709551616:=by
 intro x0 x1 y0 y1 t w1;have hx0:x0≤4294967295:=by omega
 have hx1:x1≤4294967295:=by omega
 have hy0:y0≤4294967295:=by omega
 have hy1:y1≤4294967295:=by omega
 have ha':a=x1*4294967296+x0:=by omega
 have hb':b=y1*4294967296+y0:=by omega
 have h00:x0*y0≤4294967295*4294967295:=Va hx0 hy0
 have h10:x1*y0≤4294967295*4294967295:=Va hx1 hy0
 have h01:x0*y1≤4294967295*4294967295:=Va hx0 hy1
 have h11:x1*y1≤4294967295*4294967295:=Va hx1 hy1
 have hab:a*b=x1*y1*18446744073709551616+(x1*y0+x0*y1)*4294967296+x0*y0:=by
  rw[ha',hb',Kp,Ws,Ws];have e1:x1*4294967296*(y1*4294967296)=x1*y1*18446744073709551616:=by
   rw[Nat.mul_mul_mul_comm]
  have e2:x1*4294967296*y0=x1*y0*4294967296:=VQ _ _ _
  have e3:x0*(y1*4294967296)=x0*y1*4294967296:=(zZ _ _ _).symm
  rw[e1,e2,e3];generalize x1*y1=p at *
  generalize x1*y0=q at *
  generalize x0*y1=s at *
  generalize x0*y0=u at *
  omega
 rw[hab];show x1*y1+(x1*y0+x0*y0 / 4294967296) / 4294967296+((x1*y0+x0*y0 / 4294967296) % 4294967296+x0*y1) / 4294967296=_∧x0*y0<_∧x1*y0+x0*y0 / 4294967296<_∧(x1*y0+x0*y0 / 4294967296) % 4294967296+x0*y1<_∧x1*y1+(x1*y0+x0*y0 / 4294967296) / 4294967296+((x1*y0+x0*y0 / 4294967296) % 4294967296+x0*y1) / 4294967296<_∧x1*y0<_∧x0*y1<_∧x1*y1+(x1*y0+x0*y0 / 4294967296) / 4294967296<_∧x1*y1<_
 generalize x1*y1=p at *
 generalize x1*y0=q at *
 generalize x0*y1=s at *
 generalize x0*y0=u at *
 clear ha' hb' hab;omega
end
end Su
end
section
namespace Su
open Go Fly
noncomputable section
def jO:ByteArray:=⟨⟨[0,1,2,2,3,3,3,3,4,4,4,4,4,4,4,4,5,5,5,5,5,5,5,5,5,5,5,5,5,5,5,5,6,6,6,6,6,6,6,6,6,6,6,6,6,6,6,6,6,6,6,6,6,6,6,6,6,6,6,6,6,6,6,6,7,7,7,7,7,7,7,7,7,7,7,7,7,7,7,7,7,7,7,7,7,7,7,7,7,7,7,7,7,7,7,7,7,7,7,7,7,7,7,7,7,7,7,7,7,7,7,7,7,7,7,7,7,7,7,7,7,7,7,7,7,7,7,7,8,8,8,8,8,8,8,8,8,8,8,8,8,8,8,8,8,8,8,8,8,8,8,8,8,8,8,8,8,8,8,8,8,8,8,8,8,8,8,8,8,8,8,8,8,8,8,8,8,8,8,8,8,8,8,8,8,8,8,8,8,8,8,8,8,8,8,8,8,8,8,8,8,8,8,8,8,8,8,8,8,8,8,8,8,8,8,8,8,8,8,8,8,8,8,8,8,8,8,8,8,8,8,8,8,8,8,8,8,8,8,8,8,8,8,8,8,8,8,8,8,8,8,8,8,8,8,8]⟩⟩
def qrQ  (x:Int):Option Int :=
 (bif(decide (4294967296≤x))then
 (bif(decide (65536≤(Int.fdiv x (2^32))))then
 (bif(decide (256≤(Int.fdiv (Int.fdiv x (2^32)) (2^16))))then
 (bif(decide (0≤(IntKind.wrap .u8 (Int.fdiv (Int.fdiv (Int.fdiv x (2^32)) (2^16)) (2^8)))))then
 ((jO)[(Int.toNat (IntKind.wrap .u8 (Int.fdiv (Int.fdiv (Int.fdiv x (2^32)) (2^16)) (2^8))))]?).bind fun x0=>
 some (IntKind.wrap .i64 ((IntKind.wrap .i64 ((IntKind.wrap .i64 (32+16))+8))+(IntKind.wrap .i64 (UInt8.toNat x0:Int))))
 else none)
 else
  (bif(decide (0≤(IntKind.wrap .u8 (Int.fdiv (Int.fdiv x (2^32)) (2^16)))))then
  ((jO)[(Int.toNat (IntKind.wrap .u8 (Int.fdiv (Int.fdiv x (2^32)) (2^16))))]?).bind fun x1=>
  some (IntKind.wrap .i64 ((IntKind.wrap .i64 (32+16))+(IntKind.wrap .i64 (UInt8.toNat x1:Int))))
 else none))
 else
  (bif(decide (256≤(Int.fdiv x (2^32))))then
  (bif(decide (0≤(IntKind.wrap .u8 (Int.fdiv (Int.fdiv x (2^32)) (2^8)))))then
  ((jO)[(Int.toNat (IntKind.wrap .u8 (Int.fdiv (Int.fdiv x (2^32)) (2^8))))]?).bind fun x2=>
  some (IntKind.wrap .i64 ((IntKind.wrap .i64 (32+8))+(IntKind.wrap .i64 (UInt8.toNat x2:Int))))
 else none)
 else
  (bif(decide (0≤(IntKind.wrap .u8 (Int.fdiv x (2^32)))))then
  ((jO)[(Int.toNat (IntKind.wrap .u8 (Int.fdiv x (2^32))))]?).bind fun x3=>
  some (IntKind.wrap .i64 (32+(IntKind.wrap .i64 (UInt8.toNat x3:Int))))
 else none)))
 else
  (bif(decide (65536≤x))then
  (bif(decide (256≤(Int.fdiv x (2^16))))then
  (bif(decide (0≤(IntKind.wrap .u8 (Int.fdiv (Int.fdiv x (2^16)) (2^8)))))then
  ((jO)[(Int.toNat (IntKind.wrap .u8 (Int.fdiv (Int.fdiv x (2^16)) (2^8))))]?).bind fun x4=>
  some (IntKind.wrap .i64 ((IntKind.wrap .i64 ((IntKind.wrap .i64 (0+16))+8))+(IntKind.wrap .i64 (UInt8.toNat x4:Int))))
 else none)
 else
  (bif(decide (0≤(IntKind.wrap .u8 (Int.fdiv x (2^16)))))then
  ((jO)[(Int.toNat (IntKind.wrap .u8 (Int.fdiv x (2^16))))]?).bind fun x5=>
  some (IntKind.wrap .i64 ((IntKind.wrap .i64 (0+16))+(IntKind.wrap .i64 (UInt8.toNat x5:Int))))
 else none))
 else
  (bif(decide (256≤x))then
  (bif(decide (0≤(IntKind.wrap .u8 (Int.fdiv x (2^8)))))then
  ((jO)[(Int.toNat (IntKind.wrap .u8 (Int.fdiv x (2^8))))]?).bind fun x6=>
  some (IntKind.wrap .i64 ((IntKind.wrap .i64 (0+8))+(IntKind.wrap .i64 (UInt8.toNat x6:Int))))
 else none)
 else
  (bif(decide (0≤(IntKind.wrap .u8 x)))then
  ((jO)[(Int.toNat (IntKind.wrap .u8 x))]?).bind fun x7=>
  some (IntKind.wrap .i64 (0+(IntKind.wrap .i64 (UInt8.toNat x7:Int))))
 else none))))
def qBt  (a:Int)(b:Int):Option (Int×Int) :=
 some ((IntKind.wrap .u64 ((IntKind.wrap .u64 ((IntKind.wrap .u64 ((Int.fdiv a (2^32))*(Int.fdiv b (2^32))))+(Int.fdiv (IntKind.wrap .u64 ((IntKind.wrap .u64 ((Int.fdiv a (2^32))*(Fly.qz Go.BinOp.and .u64 b 4294967295)))+(Int.fdiv (IntKind.wrap .u64 ((Fly.qz Go.BinOp.and .u64 a 4294967295)*(Fly.qz Go.BinOp.and .u64 b 4294967295))) (2^32)))) (2^32))))+(Int.fdiv (IntKind.wrap .u64 ((Fly.qz Go.BinOp.and .u64 (IntKind.wrap .u64 ((IntKind.wrap .u64 ((Int.fdiv a (2^32))*(Fly.qz Go.BinOp.and .u64 b 4294967295)))+(Int.fdiv (IntKind.wrap .u64 ((Fly.qz Go.BinOp.and .u64 a 4294967295)*(Fly.qz Go.BinOp.and .u64 b 4294967295))) (2^32)))) 4294967295)+(IntKind.wrap .u64 ((Fly.qz Go.BinOp.and .u64 a 4294967295)*(Int.fdiv b (2^32)))))) (2^32)))),(IntKind.wrap .u64 (a*b)))
def qBu  (a:(Int×Int))(b:(Int×Int)):Option ((Int×Int)×Int) :=
 (bif(decide ((YB 0 a.2 b.2 0)≤1))then
 some (((qaI 0 a.1 b.1 (YB 0 a.2 b.2 0)),(qaI 0 a.2 b.2 0)),(YB 0 a.1 b.1 (YB 0 a.2 b.2 0)))
 else none)
def qBv  (a:(Int×Int))(b:(Int×Int)):Option ((Int×Int)×Int) :=
 (bif(decide ((YB 1 a.2 b.2 0)≤1))then
 some (((qaI 1 a.1 b.1 (YB 1 a.2 b.2 0)),(qaI 1 a.2 b.2 0)),(YB 1 a.1 b.1 (YB 1 a.2 b.2 0)))
 else none)
def qnw(x:Int):Option Int:=some (qn x.toNat:Int)
theorem qEh:((List.range 256).all fun i=>decide ((jO[i]?).map UInt8.toNat=some (qn i)))=true:=by decide +kernel
theorem qrR{i:Nat}(h:i<256):∃b:UInt8,jO[i]?=some b∧b.toNat=qn i:=by
 have:=KA.1 qEh i (List.mem_range.2 h)
 have h2:=Ku this;cases hb:jO[i]? with
 | none=>rw[hb]at h2;cases h2
 | some b=>rw[hb]at h2;exact⟨b,rfl,by simpa using h2⟩
theorem Zx{y base:Nat}(hy:y<256)(hb:base≤64):(bif decide (0≤IntKind.u8.wrap (y:Int))then(jO[(IntKind.u8.wrap (y:Int)).toNat]?).bind fun x0=>some (IntKind.i64.wrap ((base:Int)+IntKind.i64.wrap ((x0.toNat:Nat):Int)))else none)=some ((base+qn y:Nat):Int):=by
 obtain⟨b,h1,h2⟩:=qrR hy;have h8:qn y≤8:=Qn.2 (by simpa using hy)
 rw[wu8 (by omega) (by omega),zd (by omega),zf,zm,h1,zj,h2];have e:IntKind.i64.wrap ((qn y:Nat):Int)=((qn y:Nat):Int):=w64 (by omega) (by omega)
 rw[e,w64 (by omega) (by omega)];rfl
theorem dge(a b:Nat):decide ((a:Int)≤(b:Int))=Nat.ble a b:=by
 rw[qbB];by_cases h:a≤b
 · rw[zd h,zd];omega
 · rw[zh h,zh];omega
theorem qrS(x y:Int)(hg:(d1 (cI .u64)).good x)(h:qnw x=some y):qrQ x=some y:=by
 obtain⟨n,rfl,hn⟩:=qG hg;have:=soi h;subst this
 unfold qrQ;rw[zm];have hs:∀ {k:Nat},2^k≤n→qn n=k+qn (n / 2^k):=fun h=>qe3 h
 have e48:IntKind.i64.wrap (IntKind.i64.wrap (32+16)+8)=((56:Nat):Int):=by decide
 have e32:IntKind.i64.wrap (32+16)=((48:Nat):Int):=by decide
 have e40:IntKind.i64.wrap (32+8)=((40:Nat):Int):=by decide
 have e24:IntKind.i64.wrap (IntKind.i64.wrap (0+16)+8)=((24:Nat):Int):=by decide
 have e16:IntKind.i64.wrap (0+16)=((16:Nat):Int):=by decide
 have e8:IntKind.i64.wrap (0+8)=((8:Nat):Int):=by decide
 have c32:(32:Int)=((32:Nat):Int):=rfl
 have c0:(0:Int)=((0:Nat):Int):=rfl
 have d1:decide ((4294967296:Int)≤(n:Int))=Nat.ble 4294967296 n:=dge 4294967296 n
 have d2:∀m:Nat,decide ((65536:Int)≤(m:Int))=Nat.ble 65536 m:=fun m=>dge 65536 m
 have d3:∀m:Nat,decide ((256:Int)≤(m:Int))=Nat.ble 256 m:=fun m=>dge 256 m
 simp only[yQ,d1,d2,d3,e48,e40,e24,e8];simp only[e32,e16];cases h1:Nat.ble 4294967296 n with
 | true=>
  have b1:=zr h1;rw[zf];cases h2:Nat.ble 65536 (n / 2^32)with
  | true=>
   have b2:=zr h2;rw[zf];cases h3:Nat.ble 256 (n / 2^32 / 2^16)with
   | true=>
    have b3:=zr h3;rw[zf,Zx (by omega) (by omega),hs (k:=56) (by omega)]
    congr 3;rw[zQ,zQ]
   | false=>
    have b3:n / 2^32 / 2^16<256:=Vd fun e=>by rw[zB e]at h3;cases h3
    rw[zi,Zx b3 (by omega),hs (k:=48) (by omega)]
    congr 3;rw[zQ]
  | false=>
   have b2:n / 2^32<65536:=Vd fun e=>by rw[zB e]at h2;cases h2
   rw[zi];cases h3:Nat.ble 256 (n / 2^32)with
   | true=>
    have b3:=zr h3;rw[zf,Zx (by omega) (by omega),hs (k:=40) (by omega)]
    congr 3;rw[zQ]
   | false=>
    have b3:n / 2^32<256:=Vd fun e=>by rw[zB e]at h3;cases h3
    rw[zi,c32,Zx b3 (by omega),hs (k:=32) (by omega)]
 | false=>
  have b1:n<4294967296:=Vd fun e=>by rw[zB e]at h1;cases h1
  rw[zi];cases h2:Nat.ble 65536 n with
  | true=>
   have b2:=zr h2;rw[zf];cases h3:Nat.ble 256 (n / 2^16)with
   | true=>
    have b3:=zr h3;rw[zf,Zx (by omega) (by omega),hs (k:=24) (by omega)]
    congr 3;rw[zQ]
   | false=>
    have b3:n / 2^16<256:=Vd fun e=>by rw[zB e]at h3;cases h3
    rw[zi,Zx b3 (by omega),hs (k:=16) (by omega)]
  | false=>
   have b2:n<65536:=Vd fun e=>by rw[zB e]at h2;cases h2
   rw[zi];cases h3:Nat.ble 256 n with
   | true=>
    have b3:=zr h3;rw[zf,Zx (by omega) (by omega),hs (k:=8) (by omega)]
   | false=>
    have b3:n<256:=Vd fun e=>by rw[zB e]at h3;cases h3
    rw[zi];have:=Zx (base:=0) b3 (by omega)
    rw[Kk]at this;exact this
def qrT(p:Int×Int):Option (Int×Int):=some (hiW (p.1.toNat*p.2.toNat),loW (p.1.toNat*p.2.toNat))
theorem qxm(p:Int×Int)(y:Int×Int)(hg:(dc (cI .u64) (d1 (cI .u64))).good p)(h:qrT p=some y):qBt p.1 p.2=some y:=by
 obtain⟨a,b⟩:=p;obtain⟨A,rfl,hA⟩:=qG hg.1;obtain⟨B,rfl,hB⟩:=qG hg.2;have:=soi h;subst this
 unfold qBt;simp only[zm];have m1:∀X:Nat,X<18446744073709551616→qz .and .u64 (X:Int) 4294967295=((X % 4294967296:Nat):Int):=fun X hX=>YG X 4294967295 32 rfl hX (by omega)
 have hc:=qrP A B hA hB;simp only[]at hc;obtain⟨c1,c2,c3,c4,c5,c6,c7,c8,c9⟩:=hc;have wn:∀X:Nat,X<18446744073709551616→IntKind.u64.wrap (X:Int)=(X:Int):=fun X hX=>Jv (by omega) (by omega)
 have p32:∀X:Nat,X / 2^32=X / 4294967296:=fun X=>rfl
 simp only[m1 A hA,m1 B hB,yQ,p32,← Vc];rw[wn _ c2,wn _ c6,wn _ c7,wn _ c9];simp only[yQ,p32,← Wx];rw[wn _ c3];simp only[m1 _ c3,yQ,p32,← Wx];rw[wn _ c4,wn _ c8];simp only[yQ,p32,← Wx];rw[wn _ c5,c1];unfold hiW loW;have h1:A*B / 18446744073709551616<18446744073709551616:=by rw[← c1];exact c5
 rw[Kq h1,qe1]
 congr 2
def qrU(p:(Int×Int)×Int×Int):Option ((Int×Int)×Int):=some ((hiW (qd p.1+qd p.2),loW (qd p.1+qd p.2)),(((qd p.1+qd p.2) / 340282366920938463463374607431768211456:Nat):Int))
theorem qxn(p:(Int×Int)×Int×Int)(y:(Int×Int)×Int)(hg:(dc cW (d1 cW)).good p)(h:qrU p=some y):qBu p.1 p.2=some y:=by
 obtain⟨⟨a,b⟩,c,d⟩:=p;obtain⟨⟨ha,hb⟩,hc,hd⟩:=hg;obtain⟨A,rfl,hA⟩:=qG ha;obtain⟨B,rfl,hB⟩:=qG hb;obtain⟨C,rfl,hC⟩:=qG hc;obtain⟨D,rfl,hD⟩:=qG hd;have:=soi h;subst this
 unfold qBu;have a0:∀x y c:Int,qaI 0 x y c=(((x.toNat+y.toNat+c.toNat) % 18446744073709551616:Nat):Int):=fun _ _ _=>rfl
 have b0:∀x y c:Int,YB 0 x y c=(((x.toNat+y.toNat+c.toNat) / 18446744073709551616:Nat):Int):=fun _ _ _=>rfl
 simp only[a0,b0,yR,hiW,loW,zm,Int.toNat_zero];rw[zd (by omega),zf]
 congr 2
 · congr 1 <;> congr 1 <;> omega
 · congr 1;omega
noncomputable def qrV(p:(Int×Int)×Int×Int):Option ((Int×Int)×Int):=some ((hiW (QF (qd p.1) (qd p.2)),loW (QF (qd p.1) (qd p.2))),bif Nat.blt (qd p.1) (qd p.2)then 1 else 0)
theorem qxo(a b:Nat):Nat.blt a b=decide (a<b):=by
 cases h:Nat.blt a b with
 | true=>
  have:a<b:=by rw[VR]at h;exact h
  simp[this]
 | false=>symm;simp;refine V6 fun e=>?_;rw[show Nat.blt a b=true by rw[VR];exact e]at h;cases h
theorem qxp(p:(Int×Int)×Int×Int)(y:(Int×Int)×Int)(hg:(dc cW (d1 cW)).good p)(h:qrV p=some y):qBv p.1 p.2=some y:=by
 obtain⟨⟨a,b⟩,c,d⟩:=p;obtain⟨⟨ha,hb⟩,hc,hd⟩:=hg;obtain⟨A,rfl,hA⟩:=qG ha;obtain⟨B,rfl,hB⟩:=qG hb;obtain⟨C,rfl,hC⟩:=qG hc;obtain⟨D,rfl,hD⟩:=qG hd;have:=soi h;subst this
 unfold qBv;have a1:∀x y c:Int,qaI 1 x y c=(((x.toNat+18446744073709551616-y.toNat-c.toNat) % 18446744073709551616:Nat):Int):=fun _ _ _=>rfl
 have b1:∀x y c:Int,YB 1 x y c=(bif Nat.blt x.toNat (y.toNat+c.toNat)then 1 else 0):=fun _ _ _=>rfl
 simp only[a1,b1,qdX,yR,hiW,loW,zm,Int.toNat_zero,Kr,qxo,qbC];by_cases h1:B<D
 · rw[zR h1]
   simp only[Int.toNat_one];rw[zR (by decide)];by_cases h2:A<C+1
   · rw[zR h2,zR (by omega)]
     congr 2
     congr 1 <;> congr 1 <;> omega
   · rw[zP h2,zP (by omega)]
     congr 2
     congr 1 <;> congr 1 <;> omega
 · rw[zP h1]
   simp only[Int.toNat_zero,Kr,WD];rw[zR (by decide)];by_cases h2:A<C
   · rw[zR h2,zR (by omega)]
     congr 2
     congr 1 <;> congr 1 <;> omega
   · rw[zP h2,zP (by omega)]
     congr 2
     congr 1 <;> congr 1 <;> omega
end
end Su
end
