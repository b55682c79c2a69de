/-
  An evaluator of the program's functions over trees of values, proved sound. No condition.
-/
import Derived.Test.YtldhknmacepeiaaGreatDoorSuSd
import Derived.Test.YtldhknmacepeiaaGreatDoorRb
set_option linter.unusedVariables false
set_option linter.unusedSimpArgs false
section
namespace Su
open Go Fly
abbrev Stp(S:Type):Type:=S→Option (S ⊕ S)
noncomputable section
variable {P:Program} {B:Bts}
theorem yT{h:BtsOK P B}(hc:B.fns.mp (fun f fn=>match fn.body with | some c=>okC fn.ntmps B.tbl f c | none=>true)=B.fns.mp fun _ _=>true){pr:qK}(hpr:Ja P B.tbl h.sound pr)
 {f:Nat} {α ρ:Type} {d:Dec α} {e:Dec ρ} {g:α→Option ρ} (X:Nat→α→Option ρ) (hgo:(B.go.get f).isSome=true) (heq:∀fu a,qgp B.tbl pr (shN B.tbl pr fu 9) fu f (d.enc a) e.dec=X fu a)
 (ok:∀a y,d.good a→g a=some y→∃n,X n a=some y):Ok1 P B.tbl h.sound f (prim d e g) :=
 qbc hc hpr hgo fun a y hg h=>by
  obtain⟨n,hn⟩:=ok a y hg h;exact⟨n,9,n,(heq n a).trans hn⟩
theorem yl{h:BtsOK P B}(hc:B.fns.mp (fun f fn=>match fn.body with | some c=>okC fn.ntmps B.tbl f c | none=>true)=B.fns.mp fun _ _=>true){pr:qK}(hpr:Ja P B.tbl h.sound pr)
 {f:Nat} {α ρ:Type} {d:Dec α} {e:Dec ρ} {g:α→Option ρ} (X:α→Option ρ) (hgo:(B.go.get f).isSome=true) (heq:∀fu a,qgp B.tbl pr (shN B.tbl pr fu 9) fu f (d.enc a) e.dec=X a)
 (ok:∀a y,d.good a→g a=some y→X a=some y):Ok1 P B.tbl h.sound f (prim d e g) :=
 qbc hc hpr hgo fun a y hg h=>⟨0,9,0,(heq 0 a).trans (ok a y hg h)⟩
theorem fnL{h:BtsOK P B}(hc:B.fns.mp (fun f fn=>match fn.body with | some c=>okC fn.ntmps B.tbl f c | none=>true)=B.fns.mp fun _ _=>true){pr:qK}(hpr:Ja P B.tbl h.sound pr)
 {f:Nat} {α ρ:Type} {d:Dec α} {e:Dec ρ} {g:α→Option ρ} (hgo:(B.go.get f).isSome=true) (heq:∀fu a,qgp B.tbl pr (shN B.tbl pr fu 9) fu f (d.enc a) e.dec=g a):Ok1 P B.tbl h.sound f (prim d e g) :=
 qbc hc hpr hgo fun a y _ h=>⟨0,9,0,(heq 0 a).trans h⟩
end
end Su
end
section
namespace Su
open Go Fly
noncomputable section
def qjE  (f:Int):Option (Bool×Int×Int) :=
 some ((decide ((Int.fdiv f (2^63))=1)),(IntKind.wrap .i64 (Fly.qR Go.BinOp.and .u64 (Int.fdiv f (2^52)) 2047)),(Fly.qR Go.BinOp.and .u64 f 4503599627370495))
def qo1  (neg:Bool)(exp:Int)(frac:Int):Option (Int×Int) :=
 (bif(decide (exp<0))then
 some ((0:Int),(1:Int))
 else
  (bif(decide (2047<exp))then
  some ((0:Int),(1:Int))
 else
  (bif(decide (4503599627370495<frac))then
  some ((0:Int),(1:Int))
 else
  (bif neg then
  some ((Fly.qR Go.BinOp.or .u64 (Fly.qR Go.BinOp.or .u64 (IntKind.wrap .u64 ((IntKind.wrap .u64 exp)*(2^52))) frac) 9223372036854775808),(0:Int))
 else
  some ((Fly.qR Go.BinOp.or .u64 (IntKind.wrap .u64 ((IntKind.wrap .u64 exp)*(2^52))) frac),(0:Int))))))
def qh7(f:Int):Option (Bool×Int×Int):=some (bS f.toNat,((bK f.toNat / 4503599627370496:Nat):Int),((f.toNat % 4503599627370496:Nat):Int))
theorem fd63(f:Nat)(h:f<18446744073709551616):decide (Int.fdiv (f:Int) (2^63)=1)=bS f:=by
 rw[qay];refine bB ?_
 rw[qw0];constructor
 · intro h;have:f / 2^63=1:=by omega
   rw[this];rfl
 · intro h;omega
theorem qzF(f:Nat)(h:f<18446744073709551616):IntKind.i64.wrap (qR .and .u64 (Int.fdiv (f:Int) (2^52)) 2047)=((bK f / 4503599627370496:Nat):Int):=by
 have h1:=qc6 (f / 2^52) 2047 11 rfl (by omega) (by omega)
 rw[qay,show(2047:Int)=((2047:Nat):Int) from rfl,h1];unfold bK;rw[w64 (by omega) (by omega)]
 congr 1;omega
theorem qw1(f:Nat)(h:f<18446744073709551616):qR .and .u64 (f:Int) 4503599627370495=((f % 4503599627370496:Nat):Int):=qc6 f 4503599627370495 52 rfl h (by omega)
theorem qmH(f:Int)(y:Bool×Int×Int)(hg:(d1 (cI .u64)).good f)(h:qh7 f=some y):qjE f=some y:=by
 obtain⟨n,rfl,hn⟩:=JR hg;have:=soi h;subst this
 unfold qjE;rw[fd63 n hn,qzF n hn,qw1 n hn,zd]
def YD(p:Bool×Int×Int):Option (Int×Int):=bif decide (0≤p.2.1)&&decide (p.2.1≤2047)&&decide (p.2.2≤4503599627370495)then some (((sgN p.1+4503599627370496*p.2.1.toNat+p.2.2.toNat:Nat):Int),0)else some (0,1)
theorem qo2(p:Bool×Int×Int)(y:Int×Int)(hg:(dc cB (dc (cI .i64) (d1 (cI .u64)))).good p)(h:YD p=some y):qo1 p.1 p.2.1 p.2.2=some y:=by
 obtain⟨neg,e,fr⟩:=p;obtain⟨_,he,hf⟩:=hg;have he:=QW.1 he;obtain⟨F,rfl,hF⟩:=JR hf;unfold YD at h;unfold qo1;simp only[]at h ⊢;by_cases h1:e<0
 · rw[zk (show¬(0:Int)≤e by omega)]at h
   rw[zb h1];exact h
 · rw[zb (show(0:Int)≤e by omega)]at h
   rw[zk h1,zm];by_cases h2:2047<e
   · rw[zk (show¬e≤2047 by omega)]at h
     rw[zb h2];exact h
   · rw[zb (show e≤2047 by omega)]at h
     rw[zk h2,zm];by_cases h3:(4503599627370495:Int)<(F:Int)
     · rw[zk (show¬(F:Int)≤4503599627370495 by omega)]at h
       rw[zb h3];exact h
     · rw[zb (show(F:Int)≤4503599627370495 by omega)]at h
       rw[zk h3,zm];obtain⟨E,rfl⟩:∃E:Nat,e=(E:Int):=⟨e.toNat,by omega⟩
       have e1:IntKind.u64.wrap (E:Int)=(E:Int):=jX (by omega) (by omega)
       have e2:IntKind.u64.wrap ((E:Int)*2^52)=((E*2^52:Nat):Int):=by
        rw[show(2:Int)^52=((2^52:Nat):Int) from rfl,← Vx];exact jX (by omega) (by omega)
       have e3:qR .or .u64 ((E*2^52:Nat):Int) (F:Int)=((E*2^52+F:Nat):Int):=by
        rw[ZR _ _ (by omega) hF,qc5 (by omega)]
       rw[e1,e2,e3];have h:=soi h;subst h;cases neg with
       | true=>
        rw[zg,qtu _ (by omega)];simp[sgN];omega
       | false=>simp[sgN];omega
end
end Su
end
section
namespace Su
open Go Fly
noncomputable section
def qjF  (f:Int):Option Int :=
 (bif(decide (((((bK f.toNat) / 4503599627370496):Nat):Int)=2047))then
 (bif(decide ((((f.toNat % 4503599627370496):Nat):Int)=0))then
 some 3
 else
  (bif(decide (((((bK f.toNat) / 4503599627370496):Nat):Int)=2047))then
  some 4
 else
  (bif(decide (((((bK f.toNat) / 4503599627370496):Nat):Int)=0))then
  (bif(decide ((((f.toNat % 4503599627370496):Nat):Int)=0))then
  some 0
 else
  (bif(decide (((((bK f.toNat) / 4503599627370496):Nat):Int)=0))then
  some 1
 else
  some 2))
 else
  (bif(decide (((((bK f.toNat) / 4503599627370496):Nat):Int)=0))then
  some 1
 else
  some 2))))
 else
  (bif(decide (((((bK f.toNat) / 4503599627370496):Nat):Int)=2047))then
  some 4
 else
  (bif(decide (((((bK f.toNat) / 4503599627370496):Nat):Int)=0))then
  (bif(decide ((((f.toNat % 4503599627370496):Nat):Int)=0))then
  some 0
 else
  (bif(decide (((((bK f.toNat) / 4503599627370496):Nat):Int)=0))then
  some 1
 else
  some 2))
 else
  (bif(decide (((((bK f.toNat) / 4503599627370496):Nat):Int)=0))then
  some 1
 else
  some 2))))
def pInf  (neg:Bool):Option Int :=
 some (((((sgN neg)+(4503599627370496*(Int.toNat 2047)))+(Int.toNat 0)):Nat):Int)
def qh8(f:Int):Option Int:=some (j8 (bK f.toNat):Int)
theorem qmI(f:Int)(y:Int)(hg:(d1 (cI .u64)).good f)(h:qh8 f=some y):qjF f=some y:=by
 obtain⟨n,rfl,hn⟩:=JR hg;have:=soi h;subst this
 unfold qjF;have hk:bK n=bK n / 4503599627370496*4503599627370496+n % 4503599627370496:=by unfold bK;omega
 have he:bK n / 4503599627370496≤2047:=by have:=qoZ n;omega
 have hf:n % 4503599627370496<4503599627370496:=K9 _ (by decide)
 have hc:j8 (bK n)=_:=(congrArg j8 hk).trans (qtv he hf)
 rw[zd,hc];generalize bK n / 4503599627370496=e at *
 generalize n % 4503599627370496=f at *
 rw[show(2047:Int)=((2047:Nat):Int) from rfl,show(0:Int)=((0:Nat):Int) from rfl];simp only[Qa,Qe];by_cases h1:e=2047
 · by_cases h2:f=0 <;> simp[h1,h2]
 · by_cases h3:e=0
   · by_cases h2:f=0 <;> simp[h3,h2]
   · simp[h1,h3]
def qo3(neg:Bool):Option Int:=some ((sgN neg+9218868437227405312:Nat):Int)
theorem qtx(neg:Bool)(y:Int)(hg:(d1 cB).good neg)(h:qo3 neg=some y):pInf neg=some y:=by
 have:=soi h;subst this
 cases neg <;> rfl
end
end Su
end
section
namespace Su
open Go Fly
noncomputable section
def qjG  (f:Int):Option (Int×Int) :=
 (bif(decide ((((j8 (bK f.toNat)):Nat):Int)=2))then
 some ((Fly.qR Go.BinOp.or .u64 4503599627370496 (((f.toNat % 4503599627370496):Nat):Int)),(IntKind.wrap .i64 (((((bK f.toNat) / 4503599627370496):Nat):Int)-1075)))
 else
  (bif(decide ((((j8 (bK f.toNat)):Nat):Int)=1))then
  some ((((f.toNat % 4503599627370496):Nat):Int),(-1074))
 else
  some ((0:Int),(0:Int))))
def qw2  (f:Int):Option Bool :=
 some (decide ((((j8 (bK f.toNat)):Nat):Int)=4))
def qh9(f:Int):Option (Int×Int):=some ((spM (bK f.toNat):Int),spE (bK f.toNat))
theorem qmJ(f:Int)(y:Int×Int)(hg:(d1 (cI .u64)).good f)(h:qh9 f=some y):qjG f=some y:=by
 obtain⟨n,rfl,hn⟩:=JR hg;have:=soi h;subst this
 unfold qjG;rw[zd];have hk:bK n % 4503599627370496=n % 4503599627370496:=by unfold bK;omega
 have hl:=qoZ n;rw[← hk];generalize bK n=k at *
 have h2:decide (((j8 k:Nat):Int)=2)=decide (4503599627370496≤k∧k≤9218868437227405311):=by
  rw[show(2:Int)=((2:Nat):Int) from rfl,qo0,Zl]
  (repeat' split) <;> simp <;> omega
 have h1:decide (((j8 k:Nat):Int)=1)=decide (0<k∧k<4503599627370496):=by
  rw[show(1:Int)=((1:Nat):Int) from rfl,qo0,Zl]
  (repeat' split) <;> simp <;> omega
 rw[h2,h1];unfold spM spE;by_cases c2:4503599627370496≤k∧k≤9218868437227405311
 · have hf:qeN k=true:=Zk.2 (by omega)
   have e1:qR .or .u64 4503599627370496 ((k % 4503599627370496:Nat):Int)=((kM k:Nat):Int):=by
    have:=ZR 4503599627370496 (k % 4503599627370496) (by omega) (by omega)
    rw[show((4503599627370496:Nat):Int)=4503599627370496 from rfl]at this;rw[this];have h3:=qc5 (x:=k % 4503599627370496) (y:=1) (r:=52) (by omega)
    rw[show(1*2^52:Nat)=4503599627370496 from rfl]at h3;rw[h3];unfold kM;rw[zw (by omega)];omega
   rw[zb c2,zg,e1,hf,w64 (by omega) (by omega),beq_dec,zk (by omega)];simp only[zg,Vw,Ki];unfold kE
   congr 2;omega
 · rw[zk c2,zm]
   by_cases c1:0<k∧k<4503599627370496
   · have hf:qeN k=true:=Zk.2 (by omega)
     rw[zb c1,zg,hf,beq_dec,zk (by omega)];simp only[zg,Vw,Ki];unfold kE kM;rw[zA (by omega),show k / 4503599627370496=0 by omega];rfl
   · rw[zk c1,zm]
     by_cases c0:k=0
     · subst c0;rfl
     · have hf:qeN k=false:=qoY.2 (by omega)
       rw[hf];rfl
def qo4(f:Int):Option Bool:=some (qeM (bK f.toNat))
theorem qty(f:Int)(y:Bool)(hg:(d1 (cI .u64)).good f)(h:qo4 f=some y):qw2 f=some y:=by
 have:=soi h;subst this
 unfold qw2;rw[qtw]
end
end Su
end
section
namespace Su
open Go Fly
noncomputable section
def qw3  (f:Int):Option Int :=
 (bif(qeM (bK f.toNat))then
 some f
 else
  some (Fly.qR Go.BinOp.andNot .u64 f 9223372036854775808))
def qo5(f:Int):Option Int:=some (qbf f.toNat:Int)
theorem qtz(f:Int)(y:Int)(hg:(d1 (cI .u64)).good f)(h:qo5 f=some y):qw3 f=some y:=by
 obtain⟨n,rfl,hn⟩:=JR hg;have:=soi h;subst this
 unfold qw3 qbf;rw[zd,qmG n hn];cases qeM (bK n) <;> rfl
end
end Su
end
section
namespace Su
open Go Fly
noncomputable section
def At  (a:(List Int))(i:Int):Option Int :=
 (bif(decide (i<(List.length a:Int)))then
 (idx a i).bind fun x0=>
 some (IntKind.wrap .u64 x0)
 else
  some 0)
end
end Su
end
section
namespace Su
open Go Fly
noncomputable section
def qbh:Stp ((List Int)×Unit):=fun p0=>(bif(decide (0<(List.length p0.1:Int)))then
 (idx p0.1 (IntKind.wrap .i64 ((List.length p0.1:Int)-1))).bind fun x1=>
 (bif(decide (x1=0))then
 (bif(true&&((true&&(decide (0≤(IntKind.wrap .i64 ((List.length p0.1:Int)-1)))))&&(decide ((IntKind.wrap .i64 ((List.length p0.1:Int)-1))≤(List.length p0.1:Int)))))then
 some (.inl ((List.take (Int.toNat ((IntKind.wrap .i64 ((List.length p0.1:Int)-1))-0)) (List.drop 0 p0.1)),()))
 else none)
 else
  some (.inr (p0.1,())))
 else
  some (.inr (p0.1,())))
def qw4  (fu:Nat)(a:(List Int)):Option (List Int) :=
 (itP fu (qbh) (a,())).bind fun x2=>
 some x2.1
def qa:List Int→Nat
 | []=>0
 | x::l=>x.toNat+4294967296*qa l
def ofF:Nat→Nat→List Int
 | 0,_=>[]
 | k+1,n=>if n=0 then[]else((n % 4294967296:Nat):Int)::ofF k (n / 4294967296)
def ofN(n:Nat):List Int:=ofF (n.log2 / 32+1) n
theorem qo6:∀(k j n:Nat),n<4294967296^k→n<4294967296^j→ofF k n=ofF j n
 | 0,0,_,_,_=>rfl
 | 0,j+1,n,h,_=>by
  have:n=0:=by simpa using h
  subst this;rfl
 | k+1,0,n,_,h=>by
  have:n=0:=by simpa using h
  subst this;rfl
 | k+1,j+1,n,h1,h2=>by
  unfold ofF;by_cases h0:n=0
  · simp[h0]
  · simp only[h0,WQ]
    rw[qo6 k j (n / 4294967296)]
    · rw[z6]at h1;exact VU (by rw[zF];exact h1)
    · rw[z6]at h2;exact VU (by rw[zF];exact h2)
theorem qgH(n:Nat):n<4294967296^(n.log2 / 32+1):=by
 have h:=@Nat.lt_log2_self n
 have e:(4294967296:Nat)^(n.log2 / 32+1)=2^(32*(n.log2 / 32+1)):=by rw[Nat.pow_mul]
 rw[e];exact Ku h (zX (by omega) (by omega))
theorem JF:ofN 0=[]:=rfl
theorem qbi{n:Nat}(h:n≠0):ofN n=((n % 4294967296:Nat):Int)::ofN (n / 4294967296):=by
 have:ofN n=ofF (n.log2 / 32+1) n:=rfl
 rw[this];unfold ofF;rw[zw h]
 congr 1
 have hl:=qgH n;rw[z6]at hl;exact qo6 _ _ _ (VU (by rw[zF];exact hl)) (qgH _)
def Wd(l:List Int):Prop:=∀x∈l,0≤x∧x<4294967296
theorem Wd.nil:Wd []:=fun _ h=>by cases h
theorem Wd.cons{x:Int}{l:List Int}(h0:0≤x)(h1:x<4294967296)(h:Wd l):Wd (x::l):=fun y hy=>by
 rcases zS.1 hy with rfl | hy
 · exact⟨h0,h1⟩
 · exact h y hy
theorem Wd.tail{x:Int}{l:List Int}(h:Wd (x::l)):Wd l:=fun y hy=>h y (zB _ hy)
theorem Wd.head{x:Int}{l:List Int}(h:Wd (x::l)):0≤x∧x<4294967296:=h x (zE ..)
theorem Wd.app{a b:List Int}(h:Wd a)(h':Wd b):Wd (a++b):=fun x hx=>by
 rcases Kf.1 hx with hx | hx
 · exact h x hx
 · exact h' x hx
theorem Wd.left{a b:List Int}(h:Wd (a++b)):Wd a:=fun x hx=>h x (K4 _ hx)
theorem Wd.right{a b:List Int}(h:Wd (a++b)):Wd b:=fun x hx=>h x (VN _ hx)
theorem Wd.of{l:List Int}(h:∀x∈l,gU 1 x):Wd l:=fun x hx=>qc4.1 (h x hx)
theorem yD:∀(a b:List Int),qa (a++b)=qa a+4294967296^a.length*qa b
 | [],b=>by simp[qa]
 | x::a,b=>by simp only[KJ,qa,yD a b,zu,z6];rw[KF,← zx,zF 4294967296 (4294967296^a.length)];omega
theorem qia{x:Int}{n:Nat}(h0:0≤x)(h1:x<4294967296)(h:x.toNat+4294967296*n≠0):ofN (x.toNat+4294967296*n)=x::ofN n:=by
 rw[qbi h];have e1:(x.toNat+4294967296*n) % 4294967296=x.toNat:=by omega
 have e2:(x.toNat+4294967296*n) / 4294967296=n:=by omega
 rw[e1,e2]
 congr 1;omega
theorem qib:∀(k n:Nat),n<4294967296^k→qa (ofF k n)=n
 | 0,n,h=>by
  have:n=0:=by simpa using h
  subst this;rfl
 | k+1,n,h=>by
  unfold ofF;by_cases h0:n=0
  · simp[h0,qa]
  · simp only[h0,WQ,qa]
    rw[qib k _ (by rw[z6]at h;exact VU (by rw[zF];exact h))];omega
@[simp] theorem valN_ofN (n:Nat):qa (ofN n)=n:=qib _ _ (qgH n)
theorem qo7:∀(k n:Nat),Wd (ofF k n)
 | 0,_=>.nil
 | k+1,n=>by
  unfold ofF;split
  · exact .nil
  · exact .cons (by omega) (by omega) (qo7 k _)
theorem qd6(n:Nat):Wd (ofN n):=qo7 _ _
theorem qkU:∀(l:List Int),Wd l→l.getLast?≠some 0→ofN (qa l)=l
 | [],_,_=>rfl
 | [x],h,hl=>by
  have:=h.head
  have hx:x≠0:=fun e=>hl (by simp[e])
  simp only[qa,VC];have:=qia (x:=x) (n:=0) this.1 this.2 (by omega)
  simpa[JF]using this
 | x::y::l,h,hl=>by
  have hl':(y::l).getLast?≠some 0:=by rwa [List.getLast?_cons_cons]at hl
  have ih:=qkU (y::l) h.tail hl'
  have hnz:qa (y::l)≠0:=fun e=>by rw[e,JF]at ih;cases ih
  show ofN (x.toNat+4294967296*qa (y::l))=_
  rw[qia h.head.1 h.head.2 (by omega),ih]
theorem qgI(l:List Int):qa (l++[0])=qa l:=by rw[yD];simp[qa]
theorem qft(q:Unit):∀(k:Nat) (l:List Int),l.length=k→Wd l→k≤maxLen→∃n,itP n qbh (l,q)=some (ofN (qa l),q)
 | 0,l,hk,_,_=>by
  have:=KK.1 hk;subst this
  exact yS (by simp[qbh,qa,JF])
 | k+1,l,hk,hw,hm=>by
  rw[yG]at hm;rcases VP l with rfl | ⟨l',x,rfl⟩
  · simp at hk
  · simp only[VO,zq,zu,zM]at hk hw ⊢
    have hlen:l'.length=k:=by omega
    have hx:=hw.right.head;have e1:IntKind.i64.wrap (((l'++[x]).length:Int)-1)=(l'.length:Int):=by rw[w64] <;> simp <;> omega
    by_cases h0:x=0
    · subst h0
      refine Qj (s':=(l',q)) ?_ (by rw[qgI];exact qft q k l' hlen hw.left (by rw[yG];omega))
      simp only[qbh,e1];simp[QX];rw[zb (by omega)];rfl
    · have hv:ofN (qa (l'++[x]))=l'++[x]:=qkU _ hw (by simp[h0])
      rw[hv];refine yS ?_
      simp only[qbh,e1];simp[QX,h0]
def qgJ(a:List Int):Option (List Int):=some (ofN (qa a))
theorem qtA(a y:List Int)(hg:(d1 (cQ 1 1)).good a)(h:qgJ a=some y):∃n,qw4 n a=some y:=by
 obtain⟨n,hn⟩:=qft () a.length a rfl (Wd.of hg.1) hg.2
 refine⟨n,?_⟩
 have:=soi h;subst this
 unfold qw4;rw[hn];rfl
end
end Su
end
section
namespace Su
open Go Fly
noncomputable section
def qgK:Stp ((List Int)×(List Int)×Nat×Int×Int×Int×(List T)×Unit):=fun p0=>(bif(decide (p0.2.2.2.2.2.1<p0.2.2.2.2.1))then
 (At p0.1 p0.2.2.2.2.2.1).bind fun x1=>
 (At p0.2.1 p0.2.2.2.2.2.1).bind fun x2=>
 (bif((true&&(Nat.beq p0.2.2.1 p0.2.2.2.2.2.2.1.length))&&(Nat.ble (p0.2.2.2.2.2.2.1.length+(List.length [(T.s (.int .u32 (IntKind.wrap .u32 (IntKind.wrap .u64 (p0.2.2.2.1+(IntKind.wrap .u64 (x1+x2)))))))])) 549755813888))then
 some (.inl (p0.1,p0.2.1,(List.length (p0.2.2.2.2.2.2.1++[(T.s (.int .u32 (IntKind.wrap .u32 (IntKind.wrap .u64 (p0.2.2.2.1+(IntKind.wrap .u64 (x1+x2)))))))])),(Int.fdiv (IntKind.wrap .u64 (p0.2.2.2.1+(IntKind.wrap .u64 (x1+x2)))) (2^32)),p0.2.2.2.2.1,(IntKind.wrap .i64 (p0.2.2.2.2.2.1+1)),(p0.2.2.2.2.2.2.1++[(T.s (.int .u32 (IntKind.wrap .u32 (IntKind.wrap .u64 (p0.2.2.2.1+(IntKind.wrap .u64 (x1+x2)))))))]),()))
 else none)
 else
  some (.inr (p0.1,p0.2.1,p0.2.2.1,p0.2.2.2.1,p0.2.2.2.2.1,p0.2.2.2.2.2.1,p0.2.2.2.2.2.2.1,())))
def Add  (fu:Nat)(a:(List Int))(b:(List Int)):Option (List Int) :=
 (itP fu (qgK) (a,b,0,(0:Int),(max (List.length a:Int) (List.length b:Int)),(0:Int),[],())).bind fun x3=>
 (bif((true&&(Nat.beq x3.2.2.1 x3.2.2.2.2.2.2.1.length))&&(Nat.ble (x3.2.2.2.2.2.2.1.length+(List.length [(T.s (.int .u32 (IntKind.wrap .u32 x3.2.2.2.1)))])) 549755813888))then
 (Su.sub (x3.2.2.2.2.2.2.1++[(T.s (.int .u32 (IntKind.wrap .u32 x3.2.2.2.1)))]) 0 (List.length (x3.2.2.2.2.2.2.1++[(T.s (.int .u32 (IntKind.wrap .u32 x3.2.2.2.1)))]))).bind fun x4=>
 (Su.sub (x3.2.2.2.2.2.2.1++[(T.s (.int .u32 (IntKind.wrap .u32 x3.2.2.2.1)))]) 0 (List.length (x3.2.2.2.2.2.2.1++[(T.s (.int .u32 (IntKind.wrap .u32 x3.2.2.2.1)))]))).bind fun x5=>
 ((yh 1 x4).bind fun x6=>
 some (ofN (qa x6))).bind fun x7=>
 some x7
 else none)
def qaz:((List Int)×(List Int)×Int×Unit)→Option (((List Int)×(List Int)×Int×Unit) ⊕ (Lp ((List Int)×(List Int)×Int×Unit) Int)):=fun p0=>(bif(decide (0≤p0.2.2.1))then
 (At p0.1 p0.2.2.1).bind fun x1=>
 (At p0.2.1 p0.2.2.1).bind fun x2=>
 (bif(!(decide (x1=x2)))then
 (bif(decide (x1<x2))then
 some (.inr (.ret (-1)))
 else
  some (.inr (.ret 1)))
 else
  some (.inl (p0.1,p0.2.1,(IntKind.wrap .i64 (p0.2.2.1-1)),())))
 else
  some (.inr (.exit 0 (p0.1,p0.2.1,p0.2.2.1,()))))
def Cmp  (fu:Nat)(a:(List Int))(b:(List Int)):Option Int :=
 (itP fu (qaz) (a,b,(IntKind.wrap .i64 ((max (List.length a:Int) (List.length b:Int))-1)),())).bind fun x3=>
 (match x3 with
 | .exit i4 p5=>(bif(Nat.beq i4 0)then
  some 0
 else none)
 | .ret o6=>some o6)
def New  (x:Int):Option (List Int) :=
 some (ofN (qa [(IntKind.wrap .u32 x),(IntKind.wrap .u32 (Int.fdiv x (2^32)))]))
def JG:ByteArray:=⟨⟨[0,1,2,2,3,3,3,3,4,4,4,4,4,4,4,4,5,5,5,5,5,5,5,5,5,5,5,5,5,5,5,5,6,6,6,6,6,6,6,6,6,6,6,6,6,6,6,6,6,6,6,6,6,6,6,6,6,6,6,6,6,6,6,6,7,7,7,7,7,7,7,7,7,7,7,7,7,7,7,7,7,7,7,7,7,7,7,7,7,7,7,7,7,7,7,7,7,7,7,7,7,7,7,7,7,7,7,7,7,7,7,7,7,7,7,7,7,7,7,7,7,7,7,7,7,7,7,7,8,8,8,8,8,8,8,8,8,8,8,8,8,8,8,8,8,8,8,8,8,8,8,8,8,8,8,8,8,8,8,8,8,8,8,8,8,8,8,8,8,8,8,8,8,8,8,8,8,8,8,8,8,8,8,8,8,8,8,8,8,8,8,8,8,8,8,8,8,8,8,8,8,8,8,8,8,8,8,8,8,8,8,8,8,8,8,8,8,8,8,8,8,8,8,8,8,8,8,8,8,8,8,8,8,8,8,8,8,8,8,8,8,8,8,8,8,8,8,8,8,8,8,8,8,8,8,8]⟩⟩
def qic  (x:Int):Option Int :=
 (bif(decide (65536≤x))then
 (bif(decide (256≤(Int.fdiv x (2^16))))then
 (bif(decide (0≤(IntKind.wrap .u8 (Int.fdiv (Int.fdiv x (2^16)) (2^8)))))then
 ((JG)[(Int.toNat (IntKind.wrap .u8 (Int.fdiv (Int.fdiv x (2^16)) (2^8))))]?).bind fun x0=>
 some (IntKind.wrap .i64 ((IntKind.wrap .i64 (16+8))+(IntKind.wrap .i64 (UInt8.toNat x0:Int))))
 else none)
 else
  (bif(decide (0≤(IntKind.wrap .u8 (Int.fdiv x (2^16)))))then
  ((JG)[(Int.toNat (IntKind.wrap .u8 (Int.fdiv x (2^16))))]?).bind fun x1=>
  some (IntKind.wrap .i64 (16+(IntKind.wrap .i64 (UInt8.toNat x1:Int))))
 else none))
 else
  (bif(decide (256≤x))then
  (bif(decide (0≤(IntKind.wrap .u8 (Int.fdiv x (2^8)))))then
  ((JG)[(Int.toNat (IntKind.wrap .u8 (Int.fdiv x (2^8))))]?).bind fun x2=>
  some (IntKind.wrap .i64 ((IntKind.wrap .i64 (0+8))+(IntKind.wrap .i64 (UInt8.toNat x2:Int))))
 else none)
 else
  (bif(decide (0≤(IntKind.wrap .u8 x)))then
  ((JG)[(Int.toNat (IntKind.wrap .u8 x))]?).bind fun x3=>
  some (IntKind.wrap .i64 (0+(IntKind.wrap .i64 (UInt8.toNat x3:Int))))
 else none)))
def nth(a:List Int)(i:Nat):Int:=a[i]?.getD 0
theorem yf{a:List Int}(h:Wd a)(i:Nat):0≤nth a i∧nth a i<4294967296:=by
 unfold nth;cases hi:a[i]? with
 | none=>exact⟨WI _,by decide⟩
 | some x=>exact h x (Kv hi)
theorem QE{a:List Int}(h:Wd a)(i:Nat):At a (i:Int)=some (nth a i):=by
 unfold At nth;by_cases hi:i<a.length
 · have hx:=h a[i] (List.getElem_mem hi)
   have e:((i:Int)<(a.length:Int)):=by omega
   simp only[QX,zt hi,zb e,zg,zh,Option.getD_some];rw[jX hx.1 (by omega)]
 · have e : ¬((i:Int)<(a.length:Int)):=by omega
   rw[z7 (by omega),zk e];rfl
theorem jJ(a:List Int)(i:Nat):qa (a.take (i+1))=qa (a.take i)+4294967296^i*(nth a i).toNat:=by
 unfold nth;by_cases hi:i<a.length
 · rw[List.take_succ_eq_append_getElem hi,yD,zt hi]
   simp[qa,zL,Va (Vg hi)]
 · rw[zJ (by omega),zJ (by omega),z7 (by omega)];simp
theorem JS(l:List T):sub l 0 l.length=some l:=by
 unfold sub;rw[show Nat.ble (0+l.length) l.length=true by rw[VH];omega];simp
theorem Jo(l:List Int):yh 1 (l.map fun x=>T.s (.int .u32 x))=some l:=qcB (u:=1) (by decide) l
abbrev eW(x:Int):T:=T.s (.int .u32 x)
theorem qid(a b:List Int)(ha:Wd a)(hb:Wd b)(N:Nat)(hN:N≤549755813887):∀(k i:Nat) (out:List Int) (c:Int),i+k=N→out.length=i→Wd out→0≤c→c≤1 →
 qa out+4294967296^i*c.toNat=qa (a.take i)+qa (b.take i) →
 ∃(out':List Int) (c':Int),out'.length=N∧Wd out'∧0≤c'∧c'≤1∧qa out'+4294967296^N*c'.toNat=qa (a.take N)+qa (b.take N) ∧
  ∃n,itP n qgK (a,b,i,c,(N:Int),(i:Int),out.map eW,())=some (a,b,N,c',(N:Int),(N:Int),out'.map eW,())
 | 0,i,out,c,hk,ho,hw,hc0,hc1,hv=>by
  have:i=N:=by omega
  subst this;exact⟨out,c,ho,hw,hc0,hc1,hv,yS (by simp[qgK])⟩
 | k+1,i,out,c,hk,ho,hw,hc0,hc1,hv=>by
  have hi:(i:Int)<N:=by omega
  obtain⟨x0,x1⟩:=yf ha i;obtain⟨y0,y1⟩:=yf hb i;have e1:IntKind.u64.wrap (nth a i+nth b i)=nth a i+nth b i:=jX (by omega) (by omega)
  have e2:IntKind.u64.wrap (c+(nth a i+nth b i))=c+(nth a i+nth b i):=jX (by omega) (by omega)
  have e3:IntKind.i64.wrap ((i:Int)+1)=((i+1:Nat):Int):=by rw[w64 (by omega) (by omega)];rfl
  obtain⟨s,hs⟩:∃s:Nat,c+(nth a i+nth b i)=(s:Int):=⟨(c+(nth a i+nth b i)).toNat,by omega⟩
  have e6:IntKind.u64.wrap (s:Int)=(s:Int):=jX (by omega) (by omega)
  have e4:IntKind.u32.wrap (s:Int)=((s % 4294967296:Nat):Int):=by rw[wrap_u32];omega
  have e5:Int.fdiv (s:Int) (2^32)=((s / 4294967296:Nat):Int):=by
   rw[Vi _ (by decide)];rfl
  obtain⟨out',c',h1,h2,h3,h4,h5,h6⟩:=qid a b ha hb N hN k (i+1) (out++[((s % 4294967296:Nat):Int)]) ((s / 4294967296:Nat):Int) (by omega) (by simp[ho])
   (hw.app (.cons (by omega) (by omega) .nil)) (by omega) (by omega) (by
     rw[yD,jJ,jJ,ho];simp only[qa,VC,KA,zd];have hp:4294967296^(i+1)*(s / 4294967296)+4294967296^i*(s % 4294967296)=4294967296^i*s:=by
      rw[z6,zx,← KF];congr 1;omega
     have hq:4294967296^i*s=4294967296^i*c.toNat+4294967296^i*(nth a i).toNat+4294967296^i*(nth b i).toNat:=by
      rw[← KF,← KF];congr 1;omega
     omega)
  refine⟨out',c',h1,h2,h3,h4,h5,Qj ?_ h6⟩
  simp only[qgK,QE ha,QE hb,zh,e1,e3,hs,e6,e4,e5,zb hi,zg];have hb1:Nat.beq i (out.map eW).length=true:=by rw[zK,ho];exact Vh _
  have hb2:Nat.ble ((out.map eW).length+[eW ((s % 4294967296:Nat):Int)].length) 549755813888=true:=by
   rw[VH,zK,ho];simp;omega
  rw[hb1,hb2];simp[ho]
def sm(n:Nat):Bool:=Nat.ble n.log2 8796093022208
def qcC(p:List Int×List Int):Option (List Int):=bif Nat.ble (max p.1.length p.2.length) 549755813887 then some (ofN (qa p.1+qa p.2))else none
theorem qw5(p:List Int×List Int)(y:List Int)(hg:(dc (cQ 1 1) (d1 (cQ 1 1))).good p)(h:qcC p=some y):∃n,Add n p.1 p.2=some y:=by
 obtain⟨a,b⟩:=p;obtain⟨⟨ha,la⟩,hb,lb⟩:=hg;obtain⟨hm,h⟩:=qh h;have:=soi h;subst this
 have hm:=zo hm;obtain⟨out,c,h1,h2,h3,h4,h5,n,h6⟩:=qid a b (Wd.of ha) (Wd.of hb) (max a.length b.length) hm (max a.length b.length) 0 [] 0 (by omega) rfl .nil (by omega) (by omega) (by simp[qa])
 refine⟨n,?_⟩
 unfold Add;have em:max (a.length:Int) (b.length:Int)=((max a.length b.length:Nat):Int):=by omega
 rw[em];rw[show(a,b,0,(0:Int),((max a.length b.length:Nat):Int),(0:Int),([]:List T),())=(a,b,0,(0:Int),((max a.length b.length:Nat):Int),((0:Nat):Int),([]:List Int).map eW,()) from rfl,h6];simp only[zh];have e4:IntKind.u32.wrap c=c:=qgG h3 (by omega)
 have hb1:Nat.beq (max a.length b.length) (out.map eW).length=true:=by rw[zK,h1];exact Vh _
 have hb2:Nat.ble ((out.map eW).length+[eW c].length) 549755813888=true:=by
  rw[VH,zK,h1];simp;omega
 have hu:yh 1 (out.map eW++[eW c])=some (out++[c]):=by
  have:=Jo (out++[c])
  rwa [Ks]at this
 rw[e4,hb1,hb2];simp only[Kw,zg,JS,zh,hu];have hv:qa (out++[c])=qa a+qa b:=by
  rw[yD,h1];simp only[qa,VC,KA];rw[h5,zJ (by omega),zJ (by omega)]
 show some (ofN (qa (out++[c])))=_
 rw[hv]
theorem qo8(a b x y B:Nat)(hx:a<B)(hy:b<B)(hne:x≠y):yy (a+B*x) (b+B*y)=if x<y then -1 else 1:=by
 unfold yy;by_cases h:x<y
 · have:B*x+B≤B*y:=by rw[← Nat.mul_succ];exact zU _ h
   rw[zA (by omega),zA h]
 · have:B*y+B≤B*x:=by rw[← Nat.mul_succ];exact zU _ (by omega)
   rw[zw (by omega),zw (by omega),zw h]
theorem yN:∀(a:List Int),Wd a→qa a<4294967296^a.length
 | [],_=>by simp[qa]
 | x::a,h=>by
  have:=yN a h.tail
  have:=h.head
  simp only[qa,zu,z6];omega
theorem yZ{a:List Int}(h:Wd a)(i:Nat):qa (a.take i)<4294967296^i:=by
 have h1:=yN (a.take i) (fun x hx=>h x (K5 hx))
 exact Ku h1 (zX (by omega) (by rw[zL];omega))
def qjH(a b:List Int)(i:Nat)(o:Option (Lp (List Int×List Int×Int×Unit) Int)):Prop :=
 (yy (qa (a.take i)) (qa (b.take i))=0∧o=some (.exit 0 (a,b,-1,())))∨(yy (qa (a.take i)) (qa (b.take i))≠0∧o=some (.ret (yy (qa (a.take i)) (qa (b.take i)))))
theorem qie(a b:List Int)(ha:Wd a)(hb:Wd b):∀(i:Nat),i≤9223372036854775807→∃n,qjH a b i (itP n qaz (a,b,(i:Int)-1,()))
 | 0,_=>⟨1,.inl ⟨by simp[yy,qa],by simp[itP,qaz]⟩⟩
 | i+1,hi=>by
  obtain⟨x0,x1⟩:=yf ha i;obtain⟨y0,y1⟩:=yf hb i;have e0:((i+1:Nat):Int)-1=(i:Int):=by omega
  rw[e0];have e3:IntKind.i64.wrap ((i:Int)-1)=(i:Int)-1:=w64 (by omega) (by omega)
  by_cases hxy:nth a i=nth b i
  · obtain⟨n,hn⟩:=qie a b ha hb i (by omega)
    refine⟨n+1,?_⟩
    have hst:qaz (a,b,(i:Int),())=some (.inl (a,b,(i:Int)-1,())):=by
     simp[qaz,QE ha,QE hb,hxy,e3]
    rw[jr,hst];have he:yy (qa (a.take (i+1))) (qa (b.take (i+1)))=yy (qa (a.take i)) (qa (b.take i)):=by
     rw[jJ,jJ,hxy];unfold yy;simp
    unfold qjH at hn ⊢
    rw[he];exact hn
  · refine⟨1,.inr ?_⟩
    have he:=qo8 (qa (a.take i)) (qa (b.take i)) (nth a i).toNat (nth b i).toNat (4294967296^i) (yZ ha i) (yZ hb i) (by omega)
    rw[← jJ,← jJ]at he;rw[he,jr];by_cases hlt:nth a i<nth b i
    · rw[zA (by omega)]
      exact⟨by decide,by simp[qaz,QE ha,QE hb,hxy,hlt]⟩
    · rw[zw (by omega)]
      exact⟨by decide,by simp[qaz,QE ha,QE hb,hxy,hlt]⟩
def qvy(p:List Int×List Int):Option Int:=some (yy (qa p.1) (qa p.2))
theorem qw6(p:List Int×List Int)(y:Int)(hg:(dc (cQ 1 1) (d1 (cQ 1 1))).good p)(h:qvy p=some y):∃n,Cmp n p.1 p.2=some y:=by
 obtain⟨a,b⟩:=p;obtain⟨⟨ha,la⟩,hb,lb⟩:=hg;have:=soi h;subst this
 have la':a.length≤9223372036854775807:=by have:=la;rw[yG]at this;exact this
 have lb':b.length≤9223372036854775807:=by have:=lb;rw[yG]at this;exact this
 have em:max (a.length:Int) (b.length:Int)=((max a.length b.length:Nat):Int):=by omega
 obtain⟨n,hn⟩:=qie a b (Wd.of ha) (Wd.of hb) (max a.length b.length) (by omega)
 refine⟨n,?_⟩
 unfold Cmp;rw[em,w64 (by omega) (by omega)];unfold qjH at hn;rw[zJ (by omega),zJ (by omega)]at hn;rcases hn with⟨h1,h2⟩ | ⟨h1,h2⟩
 · rw[h2,h1];rfl
 · rw[h2];rfl
end
end Su
end
section
namespace Su
open Go Fly
noncomputable section
def Len  (a:(List Int)):Option Int :=
 (bif(decide ((((List.length (ofN (qa a))):Nat):Int)=0))then
 some 0
 else
  (idx (ofN (qa a)) (IntKind.wrap .i64 ((((List.length (ofN (qa a))):Nat):Int)-1))).bind fun x0=>
  (qic x0).bind fun x1=>
  some (IntKind.wrap .i64 ((IntKind.wrap .i64 (32*(IntKind.wrap .i64 ((((List.length (ofN (qa a))):Nat):Int)-1))))+x1)))
def Bit  (a:(List Int))(i:Int):Option Int :=
 (bif(decide (i<0))then
 some 0
 else
  (bif(decide ((IntKind.wrap .i64 (32*(List.length a:Int)))≤i))then
  some 0
 else
  (idx a (IntKind.wrap .i64 (Int.tdiv i 32))).bind fun x0=>
  (bif(decide (0≤(Int.tmod i 32)))then
  some (IntKind.wrap .u64 (Fly.qR Go.BinOp.and .u32 (Int.fdiv x0 (2^(min (Int.toNat (Int.tmod i 32)) 32))) 1))
 else none)))
def qd7:Stp ((List Int)×Nat×(List Int)×Int×Int×Int×Int×Int×(List Int)×Int×Int×(List T)×Unit):=fun p2=>(bif(decide (p2.2.2.2.2.2.2.2.2.2.2.1<p2.2.2.2.2.2.2.2.2.2.1))then
 (idx p2.2.2.2.2.2.2.2.2.1 p2.2.2.2.2.2.2.2.2.2.2.1).bind fun x3=>
 (bif((true&&(decide (0≤(IntKind.wrap .i64 (p2.2.2.2.2.2.1+p2.2.2.2.2.2.2.2.2.2.2.1)))))&&(decide ((IntKind.wrap .i64 (p2.2.2.2.2.2.1+p2.2.2.2.2.2.2.2.2.2.2.1))<(p2.2.1:Int))))then
 ((p2.2.2.2.2.2.2.2.2.2.2.2.1)[(0+(Int.toNat (IntKind.wrap .i64 (p2.2.2.2.2.2.1+p2.2.2.2.2.2.2.2.2.2.2.1))))]?).bind fun x4=>
 (ldT x4 0 false 1).bind fun x5=>
 (asI .u32 (.t x5)).bind fun x6=>
 (bif((true&&(decide (0≤(IntKind.wrap .i64 (p2.2.2.2.2.2.1+p2.2.2.2.2.2.2.2.2.2.2.1)))))&&(decide ((IntKind.wrap .i64 (p2.2.2.2.2.2.1+p2.2.2.2.2.2.2.2.2.2.2.1))<(p2.2.1:Int))))then
 ((p2.2.2.2.2.2.2.2.2.2.2.2.1)[(0+(Int.toNat (IntKind.wrap .i64 (p2.2.2.2.2.2.1+p2.2.2.2.2.2.2.2.2.2.2.1))))]?).bind fun x7=>
 (asI .u32 (.t x7)).bind fun x8=>
 some (.inl (p2.1,p2.2.1,p2.2.2.1,p2.2.2.2.1,p2.2.2.2.2.1,p2.2.2.2.2.2.1,p2.2.2.2.2.2.2.1,(Int.fdiv (IntKind.wrap .u64 (p2.2.2.2.2.2.2.2.1+(IntKind.wrap .u64 ((IntKind.wrap .u64 ((IntKind.wrap .u64 p2.2.2.2.2.2.2.1)*(IntKind.wrap .u64 x3)))+(IntKind.wrap .u64 x6))))) (2^32)),p2.2.2.2.2.2.2.2.2.1,p2.2.2.2.2.2.2.2.2.2.1,(IntKind.wrap .i64 (p2.2.2.2.2.2.2.2.2.2.2.1+1)),(List.set p2.2.2.2.2.2.2.2.2.2.2.2.1 (0+(Int.toNat (IntKind.wrap .i64 (p2.2.2.2.2.2.1+p2.2.2.2.2.2.2.2.2.2.2.1)))) (T.s (.int .u32 (IntKind.wrap .u32 (IntKind.wrap .u64 (p2.2.2.2.2.2.2.2.1+(IntKind.wrap .u64 ((IntKind.wrap .u64 ((IntKind.wrap .u64 p2.2.2.2.2.2.2.1)*(IntKind.wrap .u64 x3)))+(IntKind.wrap .u64 x6))))))))),()))
 else none)
 else none)
 else
  some (.inr (p2.1,p2.2.1,p2.2.2.1,p2.2.2.2.1,p2.2.2.2.2.1,p2.2.2.2.2.2.1,p2.2.2.2.2.2.2.1,p2.2.2.2.2.2.2.2.1,p2.2.2.2.2.2.2.2.2.1,p2.2.2.2.2.2.2.2.2.2.1,p2.2.2.2.2.2.2.2.2.2.2.1,p2.2.2.2.2.2.2.2.2.2.2.2.1,())))
def qd8(fu:Nat):Stp ((List Int)×Nat×(List Int)×Int×Int×(List T)×Unit):=fun p0=>(bif(decide (p0.2.2.2.2.1<p0.2.2.2.1))then
 (idx p0.2.2.1 p0.2.2.2.2.1).bind fun x1=>
 (itP fu (qd7) (p0.1,p0.2.1,p0.2.2.1,p0.2.2.2.1,p0.2.2.2.2.1,p0.2.2.2.2.1,x1,(0:Int),p0.1,(List.length p0.1:Int),(0:Int),p0.2.2.2.2.2.1,())).bind fun x9=>
 (bif((true&&(decide (0≤(IntKind.wrap .i64 (x9.2.2.2.2.2.1+(List.length x9.1:Int))))))&&(decide ((IntKind.wrap .i64 (x9.2.2.2.2.2.1+(List.length x9.1:Int)))<(x9.2.1:Int))))then
 ((x9.2.2.2.2.2.2.2.2.2.2.2.1)[(0+(Int.toNat (IntKind.wrap .i64 (x9.2.2.2.2.2.1+(List.length x9.1:Int)))))]?).bind fun x10=>
 (asI .u32 (.t x10)).bind fun x11=>
 some (.inl (x9.1,x9.2.1,x9.2.2.1,x9.2.2.2.1,(IntKind.wrap .i64 (x9.2.2.2.2.1+1)),(List.set x9.2.2.2.2.2.2.2.2.2.2.2.1 (0+(Int.toNat (IntKind.wrap .i64 (x9.2.2.2.2.2.1+(List.length x9.1:Int))))) (T.s (.int .u32 (IntKind.wrap .u32 x9.2.2.2.2.2.2.2.1)))),()))
 else none)
 else
  some (.inr (p0.1,p0.2.1,p0.2.2.1,p0.2.2.2.1,p0.2.2.2.2.1,p0.2.2.2.2.2.1,())))
def Mul  (fu:Nat)(a:(List Int))(b:(List Int)):Option (List Int) :=
 (bif(((true&&(decide (0≤(IntKind.wrap .i64 ((List.length a:Int)+(List.length b:Int))))))&&(decide ((IntKind.wrap .i64 ((List.length a:Int)+(List.length b:Int)))≤(IntKind.wrap .i64 ((List.length a:Int)+(List.length b:Int))))))&&(decide ((IntKind.wrap .i64 ((List.length a:Int)+(List.length b:Int)))≤549755813888)))then
 (itP fu (qd8 fu) (b,(Int.toNat (IntKind.wrap .i64 ((List.length a:Int)+(List.length b:Int)))),a,(List.length a:Int),(0:Int),(List.replicate (Int.toNat (IntKind.wrap .i64 ((List.length a:Int)+(List.length b:Int)))) (T.s (.int .u32 0))),())).bind fun x12=>
 (Su.sub x12.2.2.2.2.2.1 0 x12.2.1).bind fun x13=>
 (Su.sub x12.2.2.2.2.2.1 0 x12.2.1).bind fun x14=>
 (Su.sub x12.2.2.2.2.2.1 0 x12.2.1).bind fun x15=>
 ((yh 1 x13).bind fun x16=>
 some (ofN (qa x16))).bind fun x17=>
 some x17
 else none)
theorem Zm:∀(l:List Int) (j:Nat) (y:Int),j<l.length→qa (l.set j y)+4294967296^j*(nth l j).toNat=qa l+4294967296^j*y.toNat
 | [],j,y,h=>by simp at h
 | x::l,0,y,_=>by simp[qa,nth];omega
 | x::l,j+1,y,h=>by
  have ih:=Zm l j y (by simpa using h)
  have e:nth (x::l) (j+1)=nth l j:=by simp[nth]
  rw[e];simp only[WA,qa,z6];have h1:4294967296^j*4294967296*(nth l j).toNat=4294967296*(4294967296^j*(nth l j).toNat):=by rw[zF (4294967296^j) 4294967296,zx]
  have h2:4294967296^j*4294967296*y.toNat=4294967296*(4294967296^j*y.toNat):=by rw[zF (4294967296^j) 4294967296,zx]
  rw[h1,h2];omega
theorem Wd.set{l:List Int}(h:Wd l){y:Int}(h0:0≤y)(h1:y<4294967296)(j:Nat):Wd (l.set j y):=fun x hx=>by
 rcases Wg hx with hx | rfl
 · exact h x hx
 · exact⟨h0,h1⟩
theorem qaA{l:List Int}{j k:Nat}(y:Int)(h:j≠k):nth (l.set j y) k=nth l k:=by unfold nth;rw[Kg h]
theorem YE{l:List Int}{j:Nat}(h:j<l.length):(l.map eW)[j]?=some (eW (nth l j)):=by
 rw[Kq,zt h];simp[nth,zt h]
theorem qc7(l:List Int)(j:Nat)(y:Int):(l.map eW).set j (eW y)=(l.set j y).map eW:=by rw[Wz]
theorem QF(κ:IntKind)(y:Int):asI κ (.t (.s (.int κ y)))=some y:=by simp[asI]
theorem J2(y:Int):ldT (eW y) 0 false 1=some (eW y):=rfl
theorem qo9(a b:List Int)(hb:Wd b)(x t:Int)(hx0:0≤x)(hx1:x<4294967296)(i:Nat)(hlen:a.length+b.length≤549755813888)(hi:i<a.length)(out0:List Int):∀(m k:Nat) (out:List Int) (c:Int),k+m=b.length→out.length=a.length+b.length→Wd out →
 0≤c→c<4294967296→(∀j,i+k≤j→nth out j=nth out0 j)→qa out+4294967296^(i+k)*c.toNat=qa out0+4294967296^i*(x.toNat*qa (b.take k)) →
 ∃(out':List Int) (c':Int),out'.length=a.length+b.length∧Wd out'∧0≤c'∧c'<4294967296∧(∀j,i+b.length≤j→nth out' j=nth out0 j)∧qa out'+4294967296^(i+b.length)*c'.toNat=qa out0+4294967296^i*(x.toNat*qa b) ∧
  ∃N,∀n,N≤n→itP n qd7 (b,a.length+b.length,a,(a.length:Int),t,(i:Int),x,c,b,(b.length:Int),(k:Int),out.map eW,()) =
   some (b,a.length+b.length,a,(a.length:Int),t,(i:Int),x,c',b,(b.length:Int),(b.length:Int),out'.map eW,())
 | 0,k,out,c,hk,ho,hw,hc0,hc1,hz,hv=>by
  have:k=b.length:=by omega
  subst this;refine⟨out,c,ho,hw,hc0,hc1,hz,by rw[zJ (zI _)]at hv;exact hv,1,fun n hn=>?_⟩
  obtain⟨n,rfl⟩:∃q,n=q+1:=⟨n-1,by omega⟩
  rw[jr];simp[qd7]
 | m+1,k,out,c,hk,ho,hw,hc0,hc1,hz,hv=>by
  have hkb:k<b.length:=by omega
  have hj:i+k<out.length:=by omega
  obtain⟨y0,y1⟩:=yf hb k;obtain⟨o0,o1⟩:=yf hw (i+k)
  have hy:idx b (k:Int)=some (nth b k):=by rw[QX,zt hkb];simp[nth,zt hkb]
  obtain⟨X,rfl⟩:∃X:Nat,x=(X:Int):=⟨x.toNat,by omega⟩
  obtain⟨Y,hY⟩:∃Y:Nat,nth b k=(Y:Int):=⟨(nth b k).toNat,by omega⟩
  obtain⟨Z,hZ⟩:∃Z:Nat,nth out (i+k)=(Z:Int):=⟨(nth out (i+k)).toNat,by omega⟩
  obtain⟨C,rfl⟩:∃C:Nat,c=(C:Int):=⟨c.toNat,by omega⟩
  have hXY:X*Y≤4294967295*4294967295:=VG (by omega) (by omega)
  have e0:IntKind.i64.wrap ((i:Int)+(k:Int))=((i+k:Nat):Int):=by rw[w64 (by omega) (by omega)];rfl
  have e1:IntKind.u64.wrap (X:Int)=X:=jX (by omega) (by omega)
  have e2:IntKind.u64.wrap (Y:Int)=Y:=jX (by omega) (by omega)
  have e3:IntKind.u64.wrap (Z:Int)=Z:=jX (by omega) (by omega)
  have e4:IntKind.u64.wrap ((X:Int)*(Y:Int))=((X*Y:Nat):Int):=by rw[← Vx];exact jX (by omega) (by omega)
  have e5:IntKind.u64.wrap (((X*Y:Nat):Int)+(Z:Int))=((X*Y+Z:Nat):Int):=by rw[jX (by omega) (by omega)];rfl
  have e6:IntKind.u64.wrap ((C:Int)+((X*Y+Z:Nat):Int))=((C+(X*Y+Z):Nat):Int):=by rw[jX (by omega) (by omega)];rfl
  have e9:IntKind.i64.wrap ((k:Int)+1)=((k+1:Nat):Int):=by rw[w64 (by omega) (by omega)];rfl
  generalize hS:C+(X*Y+Z)=S at *
  have e7:IntKind.u32.wrap (S:Int)=((S % 4294967296:Nat):Int):=by rw[wrap_u32];omega
  have e8:Int.fdiv (S:Int) (2^32)=((S / 4294967296:Nat):Int):=by
   rw[Vi _ (by decide)];rfl
  have hset:=Zm out (i+k) ((S % 4294967296:Nat):Int) hj
  rw[hZ]at hset;obtain⟨out',c',h1,h2,h3,h4,h5,h6,N,h7⟩:=qo9 a b hb (X:Int) t hx0 hx1 i hlen hi out0 m (k+1) (out.set (i+k) ((S % 4294967296:Nat):Int)) ((S / 4294967296:Nat):Int) (by omega) (by simp[ho])
   (hw.set (by omega) (by omega) _) (by omega) (by omega) (fun j hj=>by rw[qaA _ (by omega)];exact hz j (by omega)) (by
     simp only[zd]at hset hv ⊢;rw[jJ,hY];simp only[zd];have hp:4294967296^(i+(k+1))*(S / 4294967296)+4294967296^(i+k)*(S % 4294967296)=4294967296^(i+k)*S:=by
      rw[← Ky,z6,zx,← KF];congr 1;omega
     have hq:4294967296^(i+k)*S=4294967296^(i+k)*C+4294967296^(i+k)*(X*Y)+4294967296^(i+k)*Z:=by
      rw[← hS,KF,KF,Ky]
     have hr:4294967296^i*(X*(qa (b.take k)+4294967296^k*Y))=4294967296^i*(X*qa (b.take k))+4294967296^(i+k)*(X*Y):=by
      rw[KF,KF,zP]
      congr 1
      rw[KN X,zx]
     rw[hr];omega)
  refine⟨out',c',h1,h2,h3,h4,h5,h6,N+1,fun n hn=>?_⟩
  obtain⟨n,rfl⟩:∃q,n=q+1:=⟨n-1,by omega⟩
  have hst:qd7 (b,a.length+b.length,a,(a.length:Int),t,(i:Int),(X:Int),(C:Int),b,(b.length:Int),(k:Int),out.map eW,()) =
   some (.inl (b,a.length+b.length,a,(a.length:Int),t,(i:Int),(X:Int),((S / 4294967296:Nat):Int),b,(b.length:Int),((k+1:Nat):Int),(out.set (i+k) ((S % 4294967296:Nat):Int)).map eW,())):=by
   have d1:decide ((k:Int)<(b.length:Int))=true:=zb (by omega)
   have d2:decide ((0:Int)≤((i+k:Nat):Int))=true:=zb (by omega)
   have d3:decide (((i+k:Nat):Int)<((a.length+b.length:Nat):Int))=true:=zb (by omega)
   have hg:(out.map eW)[0+((i+k:Nat):Int).toNat]?=some (eW (Z:Int)):=by
    rw[zG,zd,YE hj,hZ]
   simp only[qd7,d1,zg,hy,hY,zh,e0,d2,d3,Kw,hg,J2,QF,e1,e2,e3,e4,e5,e6,e7,e8,e9];simp only[zG,zd,qc7]
  rw[jr,hst];exact h7 n (by omega)
theorem qkV(a b:List Int)(ha:Wd a)(hb:Wd b)(hlen:a.length+b.length≤549755813888):∀(m i:Nat) (out:List Int),i+m=a.length→out.length=a.length+b.length→Wd out→(∀j,i+b.length≤j→nth out j=0) →
 qa out=qa (a.take i)*qa b →
 ∃out':List Int,out'.length=a.length+b.length∧Wd out'∧qa out'=qa a*qa b ∧
  ∃N,∀fu,N≤fu→∀n,N≤n→itP n (qd8 fu) (b,a.length+b.length,a,(a.length:Int),(i:Int),out.map eW,())=some (b,a.length+b.length,a,(a.length:Int),(a.length:Int),out'.map eW,())
 | 0,i,out,hk,ho,hw,hz,hv=>by
  have:i=a.length:=by omega
  subst this;refine⟨out,ho,hw,by rw[zJ (zI _)]at hv;exact hv,1,fun fu _ n hn=>?_⟩
  obtain⟨n,rfl⟩:∃q,n=q+1:=⟨n-1,by omega⟩
  rw[jr];simp[qd8]
 | m+1,i,out,hk,ho,hw,hz,hv=>by
  have hia:i<a.length:=by omega
  obtain⟨x0,x1⟩:=yf ha i;have hx:idx a (i:Int)=some (nth a i):=by rw[QX,zt hia];simp[nth,zt hia]
  obtain⟨o1,c,g1,g2,g3,g4,g5,g6,N1,g7⟩:=qo9 a b hb (nth a i) (i:Int) x0 x1 i hlen hia out b.length 0 out 0 (by omega) ho hw (by omega) (by omega) (fun _ _=>rfl) (by simp[qa])
  have hj:i+b.length<o1.length:=by omega
  have hnz:nth o1 (i+b.length)=0:=by rw[g5 _ (zI _)];exact hz _ (zI _)
  have hset:=Zm o1 (i+b.length) c hj
  rw[hnz]at hset;obtain⟨out',h1,h2,h3,N2,h4⟩:=qkV a b ha hb hlen m (i+1) (o1.set (i+b.length) c) (by omega) (by simp[g1]) (g2.set g3 g4 _)
   (fun j hj=>by rw[qaA _ (by omega),g5 j (by omega)];exact hz j (by omega)) (by
     have e:qa (a.take (i+1))*qa b=qa (a.take i)*qa b+4294967296^i*((nth a i).toNat*qa b):=by
      rw[jJ,zW,zx]
     simp only[Vs,VC,KA]at hset;omega)
  refine⟨out',h1,h2,h3,max N1 N2+1,fun fu hfu n hn=>?_⟩
  obtain⟨n,rfl⟩:∃q,n=q+1:=⟨n-1,by omega⟩
  have e9:IntKind.i64.wrap ((i:Int)+1)=((i+1:Nat):Int):=by rw[w64 (by omega) (by omega)];rfl
  have e0:IntKind.i64.wrap ((i:Int)+(b.length:Int))=((i+b.length:Nat):Int):=by rw[w64 (by omega) (by omega)];rfl
  have e7:IntKind.u32.wrap c=c:=qgG g3 g4
  have hst:qd8 fu (b,a.length+b.length,a,(a.length:Int),(i:Int),out.map eW,())=some (.inl (b,a.length+b.length,a,(a.length:Int),((i+1:Nat):Int),(o1.set (i+b.length) c).map eW,())):=by
   have d1:decide ((i:Int)<(a.length:Int))=true:=zb (by omega)
   have d2:decide ((0:Int)≤((i+b.length:Nat):Int))=true:=zb (by omega)
   have d3:decide (((i+b.length:Nat):Int)<((a.length+b.length:Nat):Int))=true:=zb (by omega)
   have hg:(o1.map eW)[0+((i+b.length:Nat):Int).toNat]?=some (eW 0):=by
    rw[zG,zd,YE hj,hnz]
   have g7':=g7 fu (by omega)
   simp only[Int.natCast_zero]at g7';simp only[qd8,d1,zg,hx,zh,g7',e0,d2,d3,Kw,hg,QF,e7,e9];simp only[zG,zd,qc7]
  rw[jr,hst];exact h4 fu (by omega) n (by omega)
theorem YF(n:Nat):qa (List.replicate n 0)=0:=by
 induction n with
 | zero=>rfl
 | succ n ih=>simp[V6,qa,ih]
def ye(p:List Int×List Int):Option (List Int):=bif Nat.ble (p.1.length+p.2.length) 549755813888 then some (ofN (qa p.1*qa p.2))else none
theorem qw7(p:List Int×List Int)(y:List Int)(hg:(dc (cQ 1 1) (d1 (cQ 1 1))).good p)(h:ye p=some y):∃n,Mul n p.1 p.2=some y:=by
 obtain⟨a,b⟩:=p;obtain⟨⟨ha,la⟩,hb,lb⟩:=hg;obtain⟨hm,h⟩:=qh h;have:=soi h;subst this
 have hlen:a.length+b.length≤549755813888:=zo hm
 obtain⟨out,h1,h2,h3,N,h4⟩:=qkV a b (Wd.of ha) (Wd.of hb) hlen a.length 0 (List.replicate (a.length+b.length) 0) (by omega) (by simp) (fun x hx=>by
  have:=(Vd.1 hx).2;subst this;exact⟨WI _,by decide⟩) (fun j _=>by unfold nth;rw[Vj];split <;> rfl) (by simp[YF,qa])
 refine⟨N,?_⟩
 have e0:IntKind.i64.wrap ((a.length:Int)+(b.length:Int))=((a.length+b.length:Nat):Int):=by rw[w64 (by omega) (by omega)];rfl
 have d1:decide ((0:Int)≤((a.length+b.length:Nat):Int))=true:=zb (by omega)
 have d2:decide (((a.length+b.length:Nat):Int)≤((a.length+b.length:Nat):Int))=true:=zb (by omega)
 have d3:decide (((a.length+b.length:Nat):Int)≤549755813888)=true:=zb (by omega)
 have h4':=h4 N (zI _) N (zI _)
 rw[VQ,Int.natCast_zero]at h4';unfold Mul;simp only[e0,d1,d2,d3,Kw,zg,zd];rw[show(T.s (.int .u32 0))=eW 0 from rfl,h4'];have hs:sub (out.map eW) 0 (a.length+b.length)=some (out.map eW):=by
  have:=JS (out.map eW)
  rwa [zK,h1]at this
 simp only[zh,hs,Jo];show some (ofN (qa out))=_
 rw[h3]
end
end Su
end
