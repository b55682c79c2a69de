/-
  An evaluator of the program's functions over trees of values, proved sound. No condition.
-/
import Derived.Test.YtldhknmacepeiaaGreatDoorSuSd
import Derived.Test.YtldhknmacepeiaaGreatDoorRb
set_option linter.unusedVariables false
set_option linter.unusedSimpArgs false
section
namespace Su
open Go Fly
abbrev Stp(S:Type):Type:=S→Option (S ⊕ S)
noncomputable section
variable {P:Program} {B:Bts}
theorem yu{h:BtsOK P B}(hc:B.fns.mp (fun f fn=>match fn.body with | some c=>okC fn.ntmps B.tbl f c | none=>true)=B.fns.mp fun _ _=>true){pr:qO}(hpr:QT P B.tbl h.sound pr)
 {f:Nat} {α ρ:Type} {d:Dec α} {e:Dec ρ} {g:α→Option ρ} (X:Nat→α→Option ρ) (hgo:(B.go.get f).isSome=true) (heq:∀fu a,qek B.tbl pr (shN B.tbl pr fu 9) fu f (d.enc a) e.dec=X fu a)
 (ok:∀a y,d.good a→g a=some y→∃n,X n a=some y):Ok1 P B.tbl h.sound f (prim d e g) :=
 Zp hc hpr hgo fun a y hg h=>by
  obtain⟨n,hn⟩:=ok a y hg h;exact⟨n,9,n,(heq n a).trans hn⟩
theorem yk{h:BtsOK P B}(hc:B.fns.mp (fun f fn=>match fn.body with | some c=>okC fn.ntmps B.tbl f c | none=>true)=B.fns.mp fun _ _=>true){pr:qO}(hpr:QT P B.tbl h.sound pr)
 {f:Nat} {α ρ:Type} {d:Dec α} {e:Dec ρ} {g:α→Option ρ} (X:α→Option ρ) (hgo:(B.go.get f).isSome=true) (heq:∀fu a,qek B.tbl pr (shN B.tbl pr fu 9) fu f (d.enc a) e.dec=X a)
 (ok:∀a y,d.good a→g a=some y→X a=some y):Ok1 P B.tbl h.sound f (prim d e g) :=
 Zp hc hpr hgo fun a y hg h=>⟨0,9,0,(heq 0 a).trans (ok a y hg h)⟩
theorem fnL{h:BtsOK P B}(hc:B.fns.mp (fun f fn=>match fn.body with | some c=>okC fn.ntmps B.tbl f c | none=>true)=B.fns.mp fun _ _=>true){pr:qO}(hpr:QT P B.tbl h.sound pr)
 {f:Nat} {α ρ:Type} {d:Dec α} {e:Dec ρ} {g:α→Option ρ} (hgo:(B.go.get f).isSome=true) (heq:∀fu a,qek B.tbl pr (shN B.tbl pr fu 9) fu f (d.enc a) e.dec=g a):Ok1 P B.tbl h.sound f (prim d e g) :=
 Zp hc hpr hgo fun a y _ h=>⟨0,9,0,(heq 0 a).trans h⟩
end
end Su
end
section
namespace Su
open Go Fly
noncomputable section
def qi9  (f:Int):Option (Bool×Int×Int) :=
 some ((decide ((Int.fdiv f (2^63))=1)),(IntKind.wrap .i64 (Fly.qX Go.BinOp.and .u64 (Int.fdiv f (2^52)) 2047)),(Fly.qX Go.BinOp.and .u64 f 4503599627370495))
def qoj  (neg:Bool)(exp:Int)(frac:Int):Option (Int×Int) :=
 (bif(decide (exp<0))then
 some ((0:Int),(1:Int))
 else
  (bif(decide (2047<exp))then
  some ((0:Int),(1:Int))
 else
  (bif(decide (4503599627370495<frac))then
  some ((0:Int),(1:Int))
 else
  (bif neg then
  some ((Fly.qX Go.BinOp.or .u64 (Fly.qX Go.BinOp.or .u64 (IntKind.wrap .u64 ((IntKind.wrap .u64 exp)*(2^52))) frac) 9223372036854775808),(0:Int))
 else
  some ((Fly.qX Go.BinOp.or .u64 (IntKind.wrap .u64 ((IntKind.wrap .u64 exp)*(2^52))) frac),(0:Int))))))
def qhz(f:Int):Option (Bool×Int×Int):=some (bS f.toNat,((bK f.toNat / 4503599627370496:Nat):Int),((f.toNat % 4503599627370496:Nat):Int))
theorem fd63(f:Nat)(h:f<18446744073709551616):decide (Int.fdiv (f:Int) (2^63)=1)=bS f:=by
 rw[Z4];refine bB ?_
 rw[qoe];constructor
 · intro h;have:f / 2^63=1:=by omega
   rw[this];rfl
 · intro h;omega
theorem qxX(f:Nat)(h:f<18446744073709551616):IntKind.i64.wrap (qX .and .u64 (Int.fdiv (f:Int) (2^52)) 2047)=((bK f / 4503599627370496:Nat):Int):=by
 have h1:=qcA (f / 2^52) 2047 11 rfl (by omega) (by omega)
 rw[Z4,show(2047:Int)=((2047:Nat):Int) from rfl,h1];unfold bK;rw[w64 (by omega) (by omega)]
 congr 1;omega
theorem qvB(f:Nat)(h:f<18446744073709551616):qX .and .u64 (f:Int) 4503599627370495=((f % 4503599627370496:Nat):Int):=qcA f 4503599627370495 52 rfl h (by omega)
theorem ql3(f:Int)(y:Bool×Int×Int)(hg:(d1 (cI .u64)).good f)(h:qhz f=some y):qi9 f=some y:=by
 obtain⟨n,rfl,hn⟩:=QY hg;have:=soi h;subst this
 unfold qi9;rw[fd63 n hn,qxX n hn,qvB n hn,zd]
def Yc(p:Bool×Int×Int):Option (Int×Int):=bif decide (0≤p.2.1)&&decide (p.2.1≤2047)&&decide (p.2.2≤4503599627370495)then some (((sgN p.1+4503599627370496*p.2.1.toNat+p.2.2.toNat:Nat):Int),0)else some (0,1)
theorem qok(p:Bool×Int×Int)(y:Int×Int)(hg:(dc cB (dc (cI .i64) (d1 (cI .u64)))).good p)(h:Yc p=some y):qoj p.1 p.2.1 p.2.2=some y:=by
 obtain⟨neg,e,fr⟩:=p;obtain⟨_,he,hf⟩:=hg;have he:=Q3.1 he;obtain⟨F,rfl,hF⟩:=QY hf;unfold Yc at h;unfold qoj;simp only[]at h ⊢;by_cases h1:e<0
 · rw[zk (show¬(0:Int)≤e by omega)]at h
   rw[za h1];exact h
 · rw[za (show(0:Int)≤e by omega)]at h
   rw[zk h1,zm];by_cases h2:2047<e
   · rw[zk (show¬e≤2047 by omega)]at h
     rw[za h2];exact h
   · rw[za (show e≤2047 by omega)]at h
     rw[zk h2,zm];by_cases h3:(4503599627370495:Int)<(F:Int)
     · rw[zk (show¬(F:Int)≤4503599627370495 by omega)]at h
       rw[za h3];exact h
     · rw[za (show(F:Int)≤4503599627370495 by omega)]at h
       rw[zk h3,zm];obtain⟨E,rfl⟩:∃E:Nat,e=(E:Int):=⟨e.toNat,by omega⟩
       have e1:IntKind.u64.wrap (E:Int)=(E:Int):=jR (by omega) (by omega)
       have e2:IntKind.u64.wrap ((E:Int)*2^52)=((E*2^52:Nat):Int):=by
        rw[show(2:Int)^52=((2^52:Nat):Int) from rfl,← Vp];exact jR (by omega) (by omega)
       have e3:qX .or .u64 ((E*2^52:Nat):Int) (F:Int)=((E*2^52+F:Nat):Int):=by
        rw[Zr _ _ (by omega) hF,qcz (by omega)]
       rw[e1,e2,e3];have h:=soi h;subst h;cases neg with
       | true=>
        rw[zg,qsp _ (by omega)];simp[sgN];omega
       | false=>simp[sgN];omega
end
end Su
end
section
namespace Su
open Go Fly
noncomputable section
def qja  (f:Int):Option Int :=
 (bif(decide (((((bK f.toNat) / 4503599627370496):Nat):Int)=2047))then
 (bif(decide ((((f.toNat % 4503599627370496):Nat):Int)=0))then
 some 3
 else
  (bif(decide (((((bK f.toNat) / 4503599627370496):Nat):Int)=2047))then
  some 4
 else
  (bif(decide (((((bK f.toNat) / 4503599627370496):Nat):Int)=0))then
  (bif(decide ((((f.toNat % 4503599627370496):Nat):Int)=0))then
  some 0
 else
  (bif(decide (((((bK f.toNat) / 4503599627370496):Nat):Int)=0))then
  some 1
 else
  some 2))
 else
  (bif(decide (((((bK f.toNat) / 4503599627370496):Nat):Int)=0))then
  some 1
 else
  some 2))))
 else
  (bif(decide (((((bK f.toNat) / 4503599627370496):Nat):Int)=2047))then
  some 4
 else
  (bif(decide (((((bK f.toNat) / 4503599627370496):Nat):Int)=0))then
  (bif(decide ((((f.toNat % 4503599627370496):Nat):Int)=0))then
  some 0
 else
  (bif(decide (((((bK f.toNat) / 4503599627370496):Nat):Int)=0))then
  some 1
 else
  some 2))
 else
  (bif(decide (((((bK f.toNat) / 4503599627370496):Nat):Int)=0))then
  some 1
 else
  some 2))))
def pInf  (neg:Bool):Option Int :=
 some (((((sgN neg)+(4503599627370496*(Int.toNat 2047)))+(Int.toNat 0)):Nat):Int)
def qhA(f:Int):Option Int:=some (y8 (bK f.toNat):Int)
theorem ql4(f:Int)(y:Int)(hg:(d1 (cI .u64)).good f)(h:qhA f=some y):qja f=some y:=by
 obtain⟨n,rfl,hn⟩:=QY hg;have:=soi h;subst this
 unfold qja;have hk:bK n=bK n / 4503599627370496*4503599627370496+n % 4503599627370496:=by unfold bK;omega
 have he:bK n / 4503599627370496≤2047:=by have:=qoh n;omega
 have hf:n % 4503599627370496<4503599627370496:=Vf _ (by decide)
 have hc:y8 (bK n)=_:=(congrArg y8 hk).trans (qkl he hf)
 rw[zd,hc];generalize bK n / 4503599627370496=e at *
 generalize n % 4503599627370496=f at *
 rw[show(2047:Int)=((2047:Nat):Int) from rfl,show(0:Int)=((0:Nat):Int) from rfl];simp only[yq,Jp];by_cases h1:e=2047
 · by_cases h2:f=0 <;> simp[h1,h2]
 · by_cases h3:e=0
   · by_cases h2:f=0 <;> simp[h3,h2]
   · simp[h1,h3]
def qol(neg:Bool):Option Int:=some ((sgN neg+9218868437227405312:Nat):Int)
theorem qsr(neg:Bool)(y:Int)(hg:(d1 cB).good neg)(h:qol neg=some y):pInf neg=some y:=by
 have:=soi h;subst this
 cases neg <;> rfl
end
end Su
end
section
namespace Su
open Go Fly
noncomputable section
def qjb  (f:Int):Option (Int×Int) :=
 (bif(decide ((((y8 (bK f.toNat)):Nat):Int)=2))then
 some ((Fly.qX Go.BinOp.or .u64 4503599627370496 (((f.toNat % 4503599627370496):Nat):Int)),(IntKind.wrap .i64 (((((bK f.toNat) / 4503599627370496):Nat):Int)-1075)))
 else
  (bif(decide ((((y8 (bK f.toNat)):Nat):Int)=1))then
  some ((((f.toNat % 4503599627370496):Nat):Int),(-1074))
 else
  some ((0:Int),(0:Int))))
def qvC  (f:Int):Option Bool :=
 some (decide ((((y8 (bK f.toNat)):Nat):Int)=4))
def qhB(f:Int):Option (Int×Int):=some ((spM (bK f.toNat):Int),spE (bK f.toNat))
theorem ql5(f:Int)(y:Int×Int)(hg:(d1 (cI .u64)).good f)(h:qhB f=some y):qjb f=some y:=by
 obtain⟨n,rfl,hn⟩:=QY hg;have:=soi h;subst this
 unfold qjb;rw[zd];have hk:bK n % 4503599627370496=n % 4503599627370496:=by unfold bK;omega
 have hl:=qoh n;rw[← hk];generalize bK n=k at *
 have h2:decide (((y8 k:Nat):Int)=2)=decide (4503599627370496≤k∧k≤9218868437227405311):=by
  rw[show(2:Int)=((2:Nat):Int) from rfl,qoi,qdD]
  (repeat' split) <;> simp <;> omega
 have h1:decide (((y8 k:Nat):Int)=1)=decide (0<k∧k<4503599627370496):=by
  rw[show(1:Int)=((1:Nat):Int) from rfl,qoi,qdD]
  (repeat' split) <;> simp <;> omega
 rw[h2,h1];unfold spM spE;by_cases c2:4503599627370496≤k∧k≤9218868437227405311
 · have hf:qgb k=true:=qaJ.2 (by omega)
   have e1:qX .or .u64 4503599627370496 ((k % 4503599627370496:Nat):Int)=((kM k:Nat):Int):=by
    have:=Zr 4503599627370496 (k % 4503599627370496) (by omega) (by omega)
    rw[show((4503599627370496:Nat):Int)=4503599627370496 from rfl]at this;rw[this];have h3:=qcz (x:=k % 4503599627370496) (y:=1) (r:=52) (by omega)
    rw[show(1*2^52:Nat)=4503599627370496 from rfl]at h3;rw[h3];unfold kM;rw[zx (by omega)];omega
   rw[za c2,zg,e1,hf,w64 (by omega) (by omega),beq_dec,zk (by omega)];simp only[zg,VY,Ki];unfold kE
   congr 2;omega
 · rw[zk c2,zm]
   by_cases c1:0<k∧k<4503599627370496
   · have hf:qgb k=true:=qaJ.2 (by omega)
     rw[za c1,zg,hf,beq_dec,zk (by omega)];simp only[zg,VY,Ki];unfold kE kM;rw[zA (by omega),show k / 4503599627370496=0 by omega];rfl
   · rw[zk c1,zm]
     by_cases c0:k=0
     · subst c0;rfl
     · have hf:qgb k=false:=qog.2 (by omega)
       rw[hf];rfl
def qom(f:Int):Option Bool:=some (qi8 (bK f.toNat))
theorem qss(f:Int)(y:Bool)(hg:(d1 (cI .u64)).good f)(h:qom f=some y):qvC f=some y:=by
 have:=soi h;subst this
 unfold qvC;rw[qsq]
end
end Su
end
section
namespace Su
open Go Fly
noncomputable section
def qvD  (f:Int):Option Int :=
 (bif(qi8 (bK f.toNat))then
 some f
 else
  some (Fly.qX Go.BinOp.andNot .u64 f 9223372036854775808))
def qon(f:Int):Option Int:=some (qhy f.toNat:Int)
theorem qst(f:Int)(y:Int)(hg:(d1 (cI .u64)).good f)(h:qon f=some y):qvD f=some y:=by
 obtain⟨n,rfl,hn⟩:=QY hg;have:=soi h;subst this
 unfold qvD qhy;rw[zd,ql2 n hn];cases qi8 (bK n) <;> rfl
end
end Su
end
section
namespace Su
open Go Fly
noncomputable section
def At  (a:(List Int))(i:Int):Option Int :=
 (bif(decide (i<(List.length a:Int)))then
 (idx a i).bind fun x0=>
 some (IntKind.wrap .u64 x0)
 else
  some 0)
end
end Su
end
section
namespace Su
open Go Fly
noncomputable section
def qaK:Stp ((List Int)×Unit):=fun p0=>(bif(decide (0<(List.length p0.1:Int)))then
 (idx p0.1 (IntKind.wrap .i64 ((List.length p0.1:Int)-1))).bind fun x1=>
 (bif(decide (x1=0))then
 (bif(true&&((true&&(decide (0≤(IntKind.wrap .i64 ((List.length p0.1:Int)-1)))))&&(decide ((IntKind.wrap .i64 ((List.length p0.1:Int)-1))≤(List.length p0.1:Int)))))then
 some (.inl ((List.take (Int.toNat ((IntKind.wrap .i64 ((List.length p0.1:Int)-1))-0)) (List.drop 0 p0.1)),()))
 else none)
 else
  some (.inr (p0.1,())))
 else
  some (.inr (p0.1,())))
def qvE  (fu:Nat)(a:(List Int)):Option (List Int) :=
 (itP fu (qaK) (a,())).bind fun x2=>
 some x2.1
def qc:List Int→Nat
 | []=>0
 | x::l=>x.toNat+4294967296*qc l
def ofF:Nat→Nat→List Int
 | 0,_=>[]
 | k+1,n=>if n=0 then[]else((n % 4294967296:Nat):Int)::ofF k (n / 4294967296)
def ofN(n:Nat):List Int:=ofF (n.log2 / 32+1) n
theorem qoo:∀(k j n:Nat),n<4294967296^k→n<4294967296^j→ofF k n=ofF j n
 | 0,0,_,_,_=>rfl
 | 0,j+1,n,h,_=>by
  have:n=0:=by simpa using h
  subst this;rfl
 | k+1,0,n,_,h=>by
  have:n=0:=by simpa using h
  subst this;rfl
 | k+1,j+1,n,h1,h2=>by
  unfold ofF;by_cases h0:n=0
  · simp[h0]
  · simp only[h0,WB]
    rw[qoo k j (n / 4294967296)]
    · rw[z6]at h1;exact VJ (by rw[zN];exact h1)
    · rw[z6]at h2;exact VJ (by rw[zN];exact h2)
theorem qgc(n:Nat):n<4294967296^(n.log2 / 32+1):=by
 have h:=@Nat.lt_log2_self n
 have e:(4294967296:Nat)^(n.log2 / 32+1)=2^(32*(n.log2 / 32+1)):=by rw[Nat.pow_mul]
 rw[e];exact Kt h (Kf (by omega) (by omega))
theorem Jq:ofN 0=[]:=rfl
theorem qdE{n:Nat}(h:n≠0):ofN n=((n % 4294967296:Nat):Int)::ofN (n / 4294967296):=by
 have:ofN n=ofF (n.log2 / 32+1) n:=rfl
 rw[this];unfold ofF;rw[zx h]
 congr 1
 have hl:=qgc n;rw[z6]at hl;exact qoo _ _ _ (VJ (by rw[zN];exact hl)) (qgc _)
def Wd(l:List Int):Prop:=∀x∈l,0≤x∧x<4294967296
theorem Wd.nil:Wd []:=fun _ h=>by cases h
theorem Wd.cons{x:Int}{l:List Int}(h0:0≤x)(h1:x<4294967296)(h:Wd l):Wd (x::l):=fun y hy=>by
 rcases zO.1 hy with rfl | hy
 · exact⟨h0,h1⟩
 · exact h y hy
theorem Wd.tail{x:Int}{l:List Int}(h:Wd (x::l)):Wd l:=fun y hy=>h y (zw _ hy)
theorem Wd.head{x:Int}{l:List Int}(h:Wd (x::l)):0≤x∧x<4294967296:=h x (zI ..)
theorem Wd.app{a b:List Int}(h:Wd a)(h':Wd b):Wd (a++b):=fun x hx=>by
 rcases Ka.1 hx with hx | hx
 · exact h x hx
 · exact h' x hx
theorem Wd.left{a b:List Int}(h:Wd (a++b)):Wd a:=fun x hx=>h x (KS _ hx)
theorem Wd.right{a b:List Int}(h:Wd (a++b)):Wd b:=fun x hx=>h x (VD _ hx)
theorem Wd.of{l:List Int}(h:∀x∈l,gU 1 x):Wd l:=fun x hx=>qcy.1 (h x hx)
theorem yv:∀(a b:List Int),qc (a++b)=qc a+4294967296^a.length*qc b
 | [],b=>by simp[qc]
 | x::a,b=>by simp only[Vb,qc,yv a b,zt,z6];rw[KG,← Km,zN 4294967296 (4294967296^a.length)];omega
theorem qhC{x:Int}{n:Nat}(h0:0≤x)(h1:x<4294967296)(h:x.toNat+4294967296*n≠0):ofN (x.toNat+4294967296*n)=x::ofN n:=by
 rw[qdE h];have e1:(x.toNat+4294967296*n) % 4294967296=x.toNat:=by omega
 have e2:(x.toNat+4294967296*n) / 4294967296=n:=by omega
 rw[e1,e2]
 congr 1;omega
theorem qhD:∀(k n:Nat),n<4294967296^k→qc (ofF k n)=n
 | 0,n,h=>by
  have:n=0:=by simpa using h
  subst this;rfl
 | k+1,n,h=>by
  unfold ofF;by_cases h0:n=0
  · simp[h0,qc]
  · simp only[h0,WB,qc]
    rw[qhD k _ (by rw[z6]at h;exact VJ (by rw[zN];exact h))];omega
@[simp] theorem valN_ofN (n:Nat):qc (ofN n)=n:=qhD _ _ (qgc n)
theorem qop:∀(k n:Nat),Wd (ofF k n)
 | 0,_=>.nil
 | k+1,n=>by
  unfold ofF;split
  · exact .nil
  · exact .cons (by omega) (by omega) (qop k _)
theorem qdF(n:Nat):Wd (ofN n):=qop _ _
theorem qkm:∀(l:List Int),Wd l→l.getLast?≠some 0→ofN (qc l)=l
 | [],_,_=>rfl
 | [x],h,hl=>by
  have:=h.head
  have hx:x≠0:=fun e=>hl (by simp[e])
  simp only[qc,Vv];have:=qhC (x:=x) (n:=0) this.1 this.2 (by omega)
  simpa[Jq]using this
 | x::y::l,h,hl=>by
  have hl':(y::l).getLast?≠some 0:=by rwa [List.getLast?_cons_cons]at hl
  have ih:=qkm (y::l) h.tail hl'
  have hnz:qc (y::l)≠0:=fun e=>by rw[e,Jq]at ih;cases ih
  show ofN (x.toNat+4294967296*qc (y::l))=_
  rw[qhC h.head.1 h.head.2 (by omega),ih]
theorem qgd(l:List Int):qc (l++[0])=qc l:=by rw[yv];simp[qc]
theorem qe0(q:Unit):∀(k:Nat) (l:List Int),l.length=k→Wd l→k≤maxLen→∃n,itP n qaK (l,q)=some (ofN (qc l),q)
 | 0,l,hk,_,_=>by
  have:=KA.1 hk;subst this
  exact yK (by simp[qaK,qc,Jq])
 | k+1,l,hk,hw,hm=>by
  rw[yA]at hm;rcases V5 l with rfl | ⟨l',x,rfl⟩
  · simp at hk
  · simp only[VZ,zy,zt,zU]at hk hw ⊢
    have hlen:l'.length=k:=by omega
    have hx:=hw.right.head;have e1:IntKind.i64.wrap (((l'++[x]).length:Int)-1)=(l'.length:Int):=by rw[w64] <;> simp <;> omega
    by_cases h0:x=0
    · subst h0
      refine yZ (s':=(l',q)) ?_ (by rw[qgd];exact qe0 q k l' hlen hw.left (by rw[yA];omega))
      simp only[qaK,e1];simp[Q4];rw[za (by omega)];rfl
    · have hv:ofN (qc (l'++[x]))=l'++[x]:=qkm _ hw (by simp[h0])
      rw[hv];refine yK ?_
      simp only[qaK,e1];simp[Q4,h0]
def qge(a:List Int):Option (List Int):=some (ofN (qc a))
theorem qsu(a y:List Int)(hg:(d1 (cQ 1 1)).good a)(h:qge a=some y):∃n,qvE n a=some y:=by
 obtain⟨n,hn⟩:=qe0 () a.length a rfl (Wd.of hg.1) hg.2
 refine⟨n,?_⟩
 have:=soi h;subst this
 unfold qvE;rw[hn];rfl
end
end Su
end
section
namespace Su
open Go Fly
noncomputable section
def qgf:Stp ((List Int)×(List Int)×Nat×Int×Int×Int×(List T)×Unit):=fun p0=>(bif(decide (p0.2.2.2.2.2.1<p0.2.2.2.2.1))then
 (At p0.1 p0.2.2.2.2.2.1).bind fun x1=>
 (At p0.2.1 p0.2.2.2.2.2.1).bind fun x2=>
 (bif((true&&(Nat.beq p0.2.2.1 p0.2.2.2.2.2.2.1.length))&&(Nat.ble (p0.2.2.2.2.2.2.1.length+(List.length [(T.s (.int .u32 (IntKind.wrap .u32 (IntKind.wrap .u64 (p0.2.2.2.1+(IntKind.wrap .u64 (x1+x2)))))))])) 549755813888))then
 some (.inl (p0.1,p0.2.1,(List.length (p0.2.2.2.2.2.2.1++[(T.s (.int .u32 (IntKind.wrap .u32 (IntKind.wrap .u64 (p0.2.2.2.1+(IntKind.wrap .u64 (x1+x2)))))))])),(Int.fdiv (IntKind.wrap .u64 (p0.2.2.2.1+(IntKind.wrap .u64 (x1+x2)))) (2^32)),p0.2.2.2.2.1,(IntKind.wrap .i64 (p0.2.2.2.2.2.1+1)),(p0.2.2.2.2.2.2.1++[(T.s (.int .u32 (IntKind.wrap .u32 (IntKind.wrap .u64 (p0.2.2.2.1+(IntKind.wrap .u64 (x1+x2)))))))]),()))
 else none)
 else
  some (.inr (p0.1,p0.2.1,p0.2.2.1,p0.2.2.2.1,p0.2.2.2.2.1,p0.2.2.2.2.2.1,p0.2.2.2.2.2.2.1,())))
def Add  (fu:Nat)(a:(List Int))(b:(List Int)):Option (List Int) :=
 (itP fu (qgf) (a,b,0,(0:Int),(max (List.length a:Int) (List.length b:Int)),(0:Int),[],())).bind fun x3=>
 (bif((true&&(Nat.beq x3.2.2.1 x3.2.2.2.2.2.2.1.length))&&(Nat.ble (x3.2.2.2.2.2.2.1.length+(List.length [(T.s (.int .u32 (IntKind.wrap .u32 x3.2.2.2.1)))])) 549755813888))then
 (Su.sub (x3.2.2.2.2.2.2.1++[(T.s (.int .u32 (IntKind.wrap .u32 x3.2.2.2.1)))]) 0 (List.length (x3.2.2.2.2.2.2.1++[(T.s (.int .u32 (IntKind.wrap .u32 x3.2.2.2.1)))]))).bind fun x4=>
 (Su.sub (x3.2.2.2.2.2.2.1++[(T.s (.int .u32 (IntKind.wrap .u32 x3.2.2.2.1)))]) 0 (List.length (x3.2.2.2.2.2.2.1++[(T.s (.int .u32 (IntKind.wrap .u32 x3.2.2.2.1)))]))).bind fun x5=>
 ((yo 1 x4).bind fun x6=>
 some (ofN (qc x6))).bind fun x7=>
 some x7
 else none)
def Z5:((List Int)×(List Int)×Int×Unit)→Option (((List Int)×(List Int)×Int×Unit) ⊕ (Lp ((List Int)×(List Int)×Int×Unit) Int)):=fun p0=>(bif(decide (0≤p0.2.2.1))then
 (At p0.1 p0.2.2.1).bind fun x1=>
 (At p0.2.1 p0.2.2.1).bind fun x2=>
 (bif(!(decide (x1=x2)))then
 (bif(decide (x1<x2))then
 some (.inr (.ret (-1)))
 else
  some (.inr (.ret 1)))
 else
  some (.inl (p0.1,p0.2.1,(IntKind.wrap .i64 (p0.2.2.1-1)),())))
 else
  some (.inr (.exit 0 (p0.1,p0.2.1,p0.2.2.1,()))))
def Cmp  (fu:Nat)(a:(List Int))(b:(List Int)):Option Int :=
 (itP fu (Z5) (a,b,(IntKind.wrap .i64 ((max (List.length a:Int) (List.length b:Int))-1)),())).bind fun x3=>
 (match x3 with
 | .exit i4 p5=>(bif(Nat.beq i4 0)then
  some 0
 else none)
 | .ret o6=>some o6)
def New  (x:Int):Option (List Int) :=
 some (ofN (qc [(IntKind.wrap .u32 x),(IntKind.wrap .u32 (Int.fdiv x (2^32)))]))
def Jr:ByteArray:=⟨⟨[0,1,2,2,3,3,3,3,4,4,4,4,4,4,4,4,5,5,5,5,5,5,5,5,5,5,5,5,5,5,5,5,6,6,6,6,6,6,6,6,6,6,6,6,6,6,6,6,6,6,6,6,6,6,6,6,6,6,6,6,6,6,6,6,7,7,7,7,7,7,7,7,7,7,7,7,7,7,7,7,7,7,7,7,7,7,7,7,7,7,7,7,7,7,7,7,7,7,7,7,7,7,7,7,7,7,7,7,7,7,7,7,7,7,7,7,7,7,7,7,7,7,7,7,7,7,7,7,8,8,8,8,8,8,8,8,8,8,8,8,8,8,8,8,8,8,8,8,8,8,8,8,8,8,8,8,8,8,8,8,8,8,8,8,8,8,8,8,8,8,8,8,8,8,8,8,8,8,8,8,8,8,8,8,8,8,8,8,8,8,8,8,8,8,8,8,8,8,8,8,8,8,8,8,8,8,8,8,8,8,8,8,8,8,8,8,8,8,8,8,8,8,8,8,8,8,8,8,8,8,8,8,8,8,8,8,8,8,8,8,8,8,8,8,8,8,8,8,8,8,8,8,8,8,8,8]⟩⟩
def qhE  (x:Int):Option Int :=
 (bif(decide (65536≤x))then
 (bif(decide (256≤(Int.fdiv x (2^16))))then
 (bif(decide (0≤(IntKind.wrap .u8 (Int.fdiv (Int.fdiv x (2^16)) (2^8)))))then
 ((Jr)[(Int.toNat (IntKind.wrap .u8 (Int.fdiv (Int.fdiv x (2^16)) (2^8))))]?).bind fun x0=>
 some (IntKind.wrap .i64 ((IntKind.wrap .i64 (16+8))+(IntKind.wrap .i64 (UInt8.toNat x0:Int))))
 else none)
 else
  (bif(decide (0≤(IntKind.wrap .u8 (Int.fdiv x (2^16)))))then
  ((Jr)[(Int.toNat (IntKind.wrap .u8 (Int.fdiv x (2^16))))]?).bind fun x1=>
  some (IntKind.wrap .i64 (16+(IntKind.wrap .i64 (UInt8.toNat x1:Int))))
 else none))
 else
  (bif(decide (256≤x))then
  (bif(decide (0≤(IntKind.wrap .u8 (Int.fdiv x (2^8)))))then
  ((Jr)[(Int.toNat (IntKind.wrap .u8 (Int.fdiv x (2^8))))]?).bind fun x2=>
  some (IntKind.wrap .i64 ((IntKind.wrap .i64 (0+8))+(IntKind.wrap .i64 (UInt8.toNat x2:Int))))
 else none)
 else
  (bif(decide (0≤(IntKind.wrap .u8 x)))then
  ((Jr)[(Int.toNat (IntKind.wrap .u8 x))]?).bind fun x3=>
  some (IntKind.wrap .i64 (0+(IntKind.wrap .i64 (UInt8.toNat x3:Int))))
 else none)))
def nth(a:List Int)(i:Nat):Int:=a[i]?.getD 0
theorem j7{a:List Int}(h:Wd a)(i:Nat):0≤nth a i∧nth a i<4294967296:=by
 unfold nth;cases hi:a[i]? with
 | none=>exact⟨Wu _,by decide⟩
 | some x=>exact h x (Ku hi)
theorem Qq{a:List Int}(h:Wd a)(i:Nat):At a (i:Int)=some (nth a i):=by
 unfold At nth;by_cases hi:i<a.length
 · have hx:=h a[i] (List.getElem_mem hi)
   have e:((i:Int)<(a.length:Int)):=by omega
   simp only[Q4,zq hi,za e,zg,zh,Option.getD_some];rw[jR hx.1 (by omega)]
 · have e : ¬((i:Int)<(a.length:Int)):=by omega
   rw[zQ (by omega),zk e];rfl
theorem jG(a:List Int)(i:Nat):qc (a.take (i+1))=qc (a.take i)+4294967296^i*(nth a i).toNat:=by
 unfold nth;by_cases hi:i<a.length
 · rw[List.take_succ_eq_append_getElem hi,yv,zq hi]
   simp[qc,zB,KY (Vt hi)]
 · rw[zF (by omega),zF (by omega),zQ (by omega)];simp
theorem Jz(l:List T):sub l 0 l.length=some l:=by
 unfold sub;rw[show Nat.ble (0+l.length) l.length=true by rw[VA];omega];simp
theorem Ja(l:List Int):yo 1 (l.map fun x=>T.s (.int .u32 x))=some l:=qb4 (u:=1) (by decide) l
abbrev eW(x:Int):T:=T.s (.int .u32 x)
theorem qhF(a b:List Int)(ha:Wd a)(hb:Wd b)(N:Nat)(hN:N≤549755813887):∀(k i:Nat) (out:List Int) (c:Int),i+k=N→out.length=i→Wd out→0≤c→c≤1 →
 qc out+4294967296^i*c.toNat=qc (a.take i)+qc (b.take i) →
 ∃(out':List Int) (c':Int),out'.length=N∧Wd out'∧0≤c'∧c'≤1∧qc out'+4294967296^N*c'.toNat=qc (a.take N)+qc (b.take N) ∧
  ∃n,itP n qgf (a,b,i,c,(N:Int),(i:Int),out.map eW,())=some (a,b,N,c',(N:Int),(N:Int),out'.map eW,())
 | 0,i,out,c,hk,ho,hw,hc0,hc1,hv=>by
  have:i=N:=by omega
  subst this;exact⟨out,c,ho,hw,hc0,hc1,hv,yK (by simp[qgf])⟩
 | k+1,i,out,c,hk,ho,hw,hc0,hc1,hv=>by
  have hi:(i:Int)<N:=by omega
  obtain⟨x0,x1⟩:=j7 ha i;obtain⟨y0,y1⟩:=j7 hb i;have e1:IntKind.u64.wrap (nth a i+nth b i)=nth a i+nth b i:=jR (by omega) (by omega)
  have e2:IntKind.u64.wrap (c+(nth a i+nth b i))=c+(nth a i+nth b i):=jR (by omega) (by omega)
  have e3:IntKind.i64.wrap ((i:Int)+1)=((i+1:Nat):Int):=by rw[w64 (by omega) (by omega)];rfl
  obtain⟨s,hs⟩:∃s:Nat,c+(nth a i+nth b i)=(s:Int):=⟨(c+(nth a i+nth b i)).toNat,by omega⟩
  have e6:IntKind.u64.wrap (s:Int)=(s:Int):=jR (by omega) (by omega)
  have e4:IntKind.u32.wrap (s:Int)=((s % 4294967296:Nat):Int):=by rw[wrap_u32];omega
  have e5:Int.fdiv (s:Int) (2^32)=((s / 4294967296:Nat):Int):=by
   rw[Va _ (by decide)];rfl
  obtain⟨out',c',h1,h2,h3,h4,h5,h6⟩:=qhF a b ha hb N hN k (i+1) (out++[((s % 4294967296:Nat):Int)]) ((s / 4294967296:Nat):Int) (by omega) (by simp[ho])
   (hw.app (.cons (by omega) (by omega) .nil)) (by omega) (by omega) (by
     rw[yv,jG,jG,ho];simp only[qc,Vv,KB,zd];have hp:4294967296^(i+1)*(s / 4294967296)+4294967296^i*(s % 4294967296)=4294967296^i*s:=by
      rw[z6,Km,← KG];congr 1;omega
     have hq:4294967296^i*s=4294967296^i*c.toNat+4294967296^i*(nth a i).toNat+4294967296^i*(nth b i).toNat:=by
      rw[← KG,← KG];congr 1;omega
     omega)
  refine⟨out',c',h1,h2,h3,h4,h5,yZ ?_ h6⟩
  simp only[qgf,Qq ha,Qq hb,zh,e1,e3,hs,e6,e4,e5,za hi,zg];have hb1:Nat.beq i (out.map eW).length=true:=by rw[zH,ho];exact K7 _
  have hb2:Nat.ble ((out.map eW).length+[eW ((s % 4294967296:Nat):Int)].length) 549755813888=true:=by
   rw[VA,zH,ho];simp;omega
  rw[hb1,hb2];simp[ho]
def sm(n:Nat):Bool:=Nat.ble n.log2 8796093022208
def qb5(p:List Int×List Int):Option (List Int):=bif Nat.ble (max p.1.length p.2.length) 549755813887 then some (ofN (qc p.1+qc p.2))else none
theorem qvF(p:List Int×List Int)(y:List Int)(hg:(dc (cQ 1 1) (d1 (cQ 1 1))).good p)(h:qb5 p=some y):∃n,Add n p.1 p.2=some y:=by
 obtain⟨a,b⟩:=p;obtain⟨⟨ha,la⟩,hb,lb⟩:=hg;obtain⟨hm,h⟩:=qh h;have:=soi h;subst this
 have hm:=zo hm;obtain⟨out,c,h1,h2,h3,h4,h5,n,h6⟩:=qhF a b (Wd.of ha) (Wd.of hb) (max a.length b.length) hm (max a.length b.length) 0 [] 0 (by omega) rfl .nil (by omega) (by omega) (by simp[qc])
 refine⟨n,?_⟩
 unfold Add;have em:max (a.length:Int) (b.length:Int)=((max a.length b.length:Nat):Int):=by omega
 rw[em];rw[show(a,b,0,(0:Int),((max a.length b.length:Nat):Int),(0:Int),([]:List T),())=(a,b,0,(0:Int),((max a.length b.length:Nat):Int),((0:Nat):Int),([]:List Int).map eW,()) from rfl,h6];simp only[zh];have e4:IntKind.u32.wrap c=c:=qi6 h3 (by omega)
 have hb1:Nat.beq (max a.length b.length) (out.map eW).length=true:=by rw[zH,h1];exact K7 _
 have hb2:Nat.ble ((out.map eW).length+[eW c].length) 549755813888=true:=by
  rw[VA,zH,h1];simp;omega
 have hu:yo 1 (out.map eW++[eW c])=some (out++[c]):=by
  have:=Ja (out++[c])
  rwa [Kv]at this
 rw[e4,hb1,hb2];simp only[zZ,zg,Jz,zh,hu];have hv:qc (out++[c])=qc a+qc b:=by
  rw[yv,h1];simp only[qc,Vv,KB];rw[h5,zF (by omega),zF (by omega)]
 show some (ofN (qc (out++[c])))=_
 rw[hv]
theorem qoq(a b x y B:Nat)(hx:a<B)(hy:b<B)(hne:x≠y):ZD (a+B*x) (b+B*y)=if x<y then -1 else 1:=by
 unfold ZD;by_cases h:x<y
 · have:B*x+B≤B*y:=by rw[← Nat.mul_succ];exact Kk _ h
   rw[zA (by omega),zA h]
 · have:B*y+B≤B*x:=by rw[← Nat.mul_succ];exact Kk _ (by omega)
   rw[zx (by omega),zx (by omega),zx h]
theorem yL:∀(a:List Int),Wd a→qc a<4294967296^a.length
 | [],_=>by simp[qc]
 | x::a,h=>by
  have:=yL a h.tail
  have:=h.head
  simp only[qc,zt,z6];omega
theorem yM{a:List Int}(h:Wd a)(i:Nat):qc (a.take i)<4294967296^i:=by
 have h1:=yL (a.take i) (fun x hx=>h x (VM hx))
 exact Kt h1 (Kf (by omega) (by rw[zB];omega))
def qjc(a b:List Int)(i:Nat)(o:Option (Lp (List Int×List Int×Int×Unit) Int)):Prop :=
 (ZD (qc (a.take i)) (qc (b.take i))=0∧o=some (.exit 0 (a,b,-1,())))∨(ZD (qc (a.take i)) (qc (b.take i))≠0∧o=some (.ret (ZD (qc (a.take i)) (qc (b.take i)))))
theorem qhG(a b:List Int)(ha:Wd a)(hb:Wd b):∀(i:Nat),i≤9223372036854775807→∃n,qjc a b i (itP n Z5 (a,b,(i:Int)-1,()))
 | 0,_=>⟨1,.inl ⟨by simp[ZD,qc],by simp[itP,Z5]⟩⟩
 | i+1,hi=>by
  obtain⟨x0,x1⟩:=j7 ha i;obtain⟨y0,y1⟩:=j7 hb i;have e0:((i+1:Nat):Int)-1=(i:Int):=by omega
  rw[e0];have e3:IntKind.i64.wrap ((i:Int)-1)=(i:Int)-1:=w64 (by omega) (by omega)
  by_cases hxy:nth a i=nth b i
  · obtain⟨n,hn⟩:=qhG a b ha hb i (by omega)
    refine⟨n+1,?_⟩
    have hst:Z5 (a,b,(i:Int),())=some (.inl (a,b,(i:Int)-1,())):=by
     simp[Z5,Qq ha,Qq hb,hxy,e3]
    rw[jj,hst];have he:ZD (qc (a.take (i+1))) (qc (b.take (i+1)))=ZD (qc (a.take i)) (qc (b.take i)):=by
     rw[jG,jG,hxy];unfold ZD;simp
    unfold qjc at hn ⊢
    rw[he];exact hn
  · refine⟨1,.inr ?_⟩
    have he:=qoq (qc (a.take i)) (qc (b.take i)) (nth a i).toNat (nth b i).toNat (4294967296^i) (yM ha i) (yM hb i) (by omega)
    rw[← jG,← jG]at he;rw[he,jj];by_cases hlt:nth a i<nth b i
    · rw[zA (by omega)]
      exact⟨by decide,by simp[Z5,Qq ha,Qq hb,hxy,hlt]⟩
    · rw[zx (by omega)]
      exact⟨by decide,by simp[Z5,Qq ha,Qq hb,hxy,hlt]⟩
def qt9(p:List Int×List Int):Option Int:=some (ZD (qc p.1) (qc p.2))
theorem qvG(p:List Int×List Int)(y:Int)(hg:(dc (cQ 1 1) (d1 (cQ 1 1))).good p)(h:qt9 p=some y):∃n,Cmp n p.1 p.2=some y:=by
 obtain⟨a,b⟩:=p;obtain⟨⟨ha,la⟩,hb,lb⟩:=hg;have:=soi h;subst this
 have la':a.length≤9223372036854775807:=by have:=la;rw[yA]at this;exact this
 have lb':b.length≤9223372036854775807:=by have:=lb;rw[yA]at this;exact this
 have em:max (a.length:Int) (b.length:Int)=((max a.length b.length:Nat):Int):=by omega
 obtain⟨n,hn⟩:=qhG a b (Wd.of ha) (Wd.of hb) (max a.length b.length) (by omega)
 refine⟨n,?_⟩
 unfold Cmp;rw[em,w64 (by omega) (by omega)];unfold qjc at hn;rw[zF (by omega),zF (by omega)]at hn;rcases hn with⟨h1,h2⟩ | ⟨h1,h2⟩
 · rw[h2,h1];rfl
 · rw[h2];rfl
end
end Su
end
section
namespace Su
open Go Fly
noncomputable section
def Len  (a:(List Int)):Option Int :=
 (bif(decide ((((List.length (ofN (qc a))):Nat):Int)=0))then
 some 0
 else
  (idx (ofN (qc a)) (IntKind.wrap .i64 ((((List.length (ofN (qc a))):Nat):Int)-1))).bind fun x0=>
  (qhE x0).bind fun x1=>
  some (IntKind.wrap .i64 ((IntKind.wrap .i64 (32*(IntKind.wrap .i64 ((((List.length (ofN (qc a))):Nat):Int)-1))))+x1)))
def Bit  (a:(List Int))(i:Int):Option Int :=
 (bif(decide (i<0))then
 some 0
 else
  (bif(decide ((IntKind.wrap .i64 (32*(List.length a:Int)))≤i))then
  some 0
 else
  (idx a (IntKind.wrap .i64 (Int.tdiv i 32))).bind fun x0=>
  (bif(decide (0≤(Int.tmod i 32)))then
  some (IntKind.wrap .u64 (Fly.qX Go.BinOp.and .u32 (Int.fdiv x0 (2^(min (Int.toNat (Int.tmod i 32)) 32))) 1))
 else none)))
def qdG:Stp ((List Int)×Nat×(List Int)×Int×Int×Int×Int×Int×(List Int)×Int×Int×(List T)×Unit):=fun p2=>(bif(decide (p2.2.2.2.2.2.2.2.2.2.2.1<p2.2.2.2.2.2.2.2.2.2.1))then
 (idx p2.2.2.2.2.2.2.2.2.1 p2.2.2.2.2.2.2.2.2.2.2.1).bind fun x3=>
 (bif((true&&(decide (0≤(IntKind.wrap .i64 (p2.2.2.2.2.2.1+p2.2.2.2.2.2.2.2.2.2.2.1)))))&&(decide ((IntKind.wrap .i64 (p2.2.2.2.2.2.1+p2.2.2.2.2.2.2.2.2.2.2.1))<(p2.2.1:Int))))then
 ((p2.2.2.2.2.2.2.2.2.2.2.2.1)[(0+(Int.toNat (IntKind.wrap .i64 (p2.2.2.2.2.2.1+p2.2.2.2.2.2.2.2.2.2.2.1))))]?).bind fun x4=>
 (ldT x4 0 false 1).bind fun x5=>
 (asI .u32 (.t x5)).bind fun x6=>
 (bif((true&&(decide (0≤(IntKind.wrap .i64 (p2.2.2.2.2.2.1+p2.2.2.2.2.2.2.2.2.2.2.1)))))&&(decide ((IntKind.wrap .i64 (p2.2.2.2.2.2.1+p2.2.2.2.2.2.2.2.2.2.2.1))<(p2.2.1:Int))))then
 ((p2.2.2.2.2.2.2.2.2.2.2.2.1)[(0+(Int.toNat (IntKind.wrap .i64 (p2.2.2.2.2.2.1+p2.2.2.2.2.2.2.2.2.2.2.1))))]?).bind fun x7=>
 (asI .u32 (.t x7)).bind fun x8=>
 some (.inl (p2.1,p2.2.1,p2.2.2.1,p2.2.2.2.1,p2.2.2.2.2.1,p2.2.2.2.2.2.1,p2.2.2.2.2.2.2.1,(Int.fdiv (IntKind.wrap .u64 (p2.2.2.2.2.2.2.2.1+(IntKind.wrap .u64 ((IntKind.wrap .u64 ((IntKind.wrap .u64 p2.2.2.2.2.2.2.1)*(IntKind.wrap .u64 x3)))+(IntKind.wrap .u64 x6))))) (2^32)),p2.2.2.2.2.2.2.2.2.1,p2.2.2.2.2.2.2.2.2.2.1,(IntKind.wrap .i64 (p2.2.2.2.2.2.2.2.2.2.2.1+1)),(List.set p2.2.2.2.2.2.2.2.2.2.2.2.1 (0+(Int.toNat (IntKind.wrap .i64 (p2.2.2.2.2.2.1+p2.2.2.2.2.2.2.2.2.2.2.1)))) (T.s (.int .u32 (IntKind.wrap .u32 (IntKind.wrap .u64 (p2.2.2.2.2.2.2.2.1+(IntKind.wrap .u64 ((IntKind.wrap .u64 ((IntKind.wrap .u64 p2.2.2.2.2.2.2.1)*(IntKind.wrap .u64 x3)))+(IntKind.wrap .u64 x6))))))))),()))
 else none)
 else none)
 else
  some (.inr (p2.1,p2.2.1,p2.2.2.1,p2.2.2.2.1,p2.2.2.2.2.1,p2.2.2.2.2.2.1,p2.2.2.2.2.2.2.1,p2.2.2.2.2.2.2.2.1,p2.2.2.2.2.2.2.2.2.1,p2.2.2.2.2.2.2.2.2.2.1,p2.2.2.2.2.2.2.2.2.2.2.1,p2.2.2.2.2.2.2.2.2.2.2.2.1,())))
def qdH(fu:Nat):Stp ((List Int)×Nat×(List Int)×Int×Int×(List T)×Unit):=fun p0=>(bif(decide (p0.2.2.2.2.1<p0.2.2.2.1))then
 (idx p0.2.2.1 p0.2.2.2.2.1).bind fun x1=>
 (itP fu (qdG) (p0.1,p0.2.1,p0.2.2.1,p0.2.2.2.1,p0.2.2.2.2.1,p0.2.2.2.2.1,x1,(0:Int),p0.1,(List.length p0.1:Int),(0:Int),p0.2.2.2.2.2.1,())).bind fun x9=>
 (bif((true&&(decide (0≤(IntKind.wrap .i64 (x9.2.2.2.2.2.1+(List.length x9.1:Int))))))&&(decide ((IntKind.wrap .i64 (x9.2.2.2.2.2.1+(List.length x9.1:Int)))<(x9.2.1:Int))))then
 ((x9.2.2.2.2.2.2.2.2.2.2.2.1)[(0+(Int.toNat (IntKind.wrap .i64 (x9.2.2.2.2.2.1+(List.length x9.1:Int)))))]?).bind fun x10=>
 (asI .u32 (.t x10)).bind fun x11=>
 some (.inl (x9.1,x9.2.1,x9.2.2.1,x9.2.2.2.1,(IntKind.wrap .i64 (x9.2.2.2.2.1+1)),(List.set x9.2.2.2.2.2.2.2.2.2.2.2.1 (0+(Int.toNat (IntKind.wrap .i64 (x9.2.2.2.2.2.1+(List.length x9.1:Int))))) (T.s (.int .u32 (IntKind.wrap .u32 x9.2.2.2.2.2.2.2.1)))),()))
 else none)
 else
  some (.inr (p0.1,p0.2.1,p0.2.2.1,p0.2.2.2.1,p0.2.2.2.2.1,p0.2.2.2.2.2.1,())))
def Mul  (fu:Nat)(a:(List Int))(b:(List Int)):Option (List Int) :=
 (bif(((true&&(decide (0≤(IntKind.wrap .i64 ((List.length a:Int)+(List.length b:Int))))))&&(decide ((IntKind.wrap .i64 ((List.length a:Int)+(List.length b:Int)))≤(IntKind.wrap .i64 ((List.length a:Int)+(List.length b:Int))))))&&(decide ((IntKind.wrap .i64 ((List.length a:Int)+(List.length b:Int)))≤549755813888)))then
 (itP fu (qdH fu) (b,(Int.toNat (IntKind.wrap .i64 ((List.length a:Int)+(List.length b:Int)))),a,(List.length a:Int),(0:Int),(List.replicate (Int.toNat (IntKind.wrap .i64 ((List.length a:Int)+(List.length b:Int)))) (T.s (.int .u32 0))),())).bind fun x12=>
 (Su.sub x12.2.2.2.2.2.1 0 x12.2.1).bind fun x13=>
 (Su.sub x12.2.2.2.2.2.1 0 x12.2.1).bind fun x14=>
 (Su.sub x12.2.2.2.2.2.1 0 x12.2.1).bind fun x15=>
 ((yo 1 x13).bind fun x16=>
 some (ofN (qc x16))).bind fun x17=>
 some x17
 else none)
theorem YQ:∀(l:List Int) (j:Nat) (y:Int),j<l.length→qc (l.set j y)+4294967296^j*(nth l j).toNat=qc l+4294967296^j*y.toNat
 | [],j,y,h=>by simp at h
 | x::l,0,y,_=>by simp[qc,nth];omega
 | x::l,j+1,y,h=>by
  have ih:=YQ l j y (by simpa using h)
  have e:nth (x::l) (j+1)=nth l j:=by simp[nth]
  rw[e];simp only[Wj,qc,z6];have h1:4294967296^j*4294967296*(nth l j).toNat=4294967296*(4294967296^j*(nth l j).toNat):=by rw[zN (4294967296^j) 4294967296,Km]
  have h2:4294967296^j*4294967296*y.toNat=4294967296*(4294967296^j*y.toNat):=by rw[zN (4294967296^j) 4294967296,Km]
  rw[h1,h2];omega
theorem Wd.set{l:List Int}(h:Wd l){y:Int}(h0:0≤y)(h1:y<4294967296)(j:Nat):Wd (l.set j y):=fun x hx=>by
 rcases V6 hx with hx | rfl
 · exact h x hx
 · exact⟨h0,h1⟩
theorem Z6{l:List Int}{j k:Nat}(y:Int)(h:j≠k):nth (l.set j y) k=nth l k:=by unfold nth;rw[zY h]
theorem Yd{l:List Int}{j:Nat}(h:j<l.length):(l.map eW)[j]?=some (eW (nth l j)):=by
 rw[Kq,zq h];simp[nth,zq h]
theorem qcB(l:List Int)(j:Nat)(y:Int):(l.map eW).set j (eW y)=(l.set j y).map eW:=by rw[We]
theorem Qr(κ:IntKind)(y:Int):asI κ (.t (.s (.int κ y)))=some y:=by simp[asI]
theorem JH(y:Int):ldT (eW y) 0 false 1=some (eW y):=rfl
theorem qor(a b:List Int)(hb:Wd b)(x t:Int)(hx0:0≤x)(hx1:x<4294967296)(i:Nat)(hlen:a.length+b.length≤549755813888)(hi:i<a.length)(out0:List Int):∀(m k:Nat) (out:List Int) (c:Int),k+m=b.length→out.length=a.length+b.length→Wd out →
 0≤c→c<4294967296→(∀j,i+k≤j→nth out j=nth out0 j)→qc out+4294967296^(i+k)*c.toNat=qc out0+4294967296^i*(x.toNat*qc (b.take k)) →
 ∃(out':List Int) (c':Int),out'.length=a.length+b.length∧Wd out'∧0≤c'∧c'<4294967296∧(∀j,i+b.length≤j→nth out' j=nth out0 j)∧qc out'+4294967296^(i+b.length)*c'.toNat=qc out0+4294967296^i*(x.toNat*qc b) ∧
  ∃N,∀n,N≤n→itP n qdG (b,a.length+b.length,a,(a.length:Int),t,(i:Int),x,c,b,(b.length:Int),(k:Int),out.map eW,()) =
   some (b,a.length+b.length,a,(a.length:Int),t,(i:Int),x,c',b,(b.length:Int),(b.length:Int),out'.map eW,())
 | 0,k,out,c,hk,ho,hw,hc0,hc1,hz,hv=>by
  have:k=b.length:=by omega
  subst this;refine⟨out,c,ho,hw,hc0,hc1,hz,by rw[zF (zE _)]at hv;exact hv,1,fun n hn=>?_⟩
  obtain⟨n,rfl⟩:∃q,n=q+1:=⟨n-1,by omega⟩
  rw[jj];simp[qdG]
 | m+1,k,out,c,hk,ho,hw,hc0,hc1,hz,hv=>by
  have hkb:k<b.length:=by omega
  have hj:i+k<out.length:=by omega
  obtain⟨y0,y1⟩:=j7 hb k;obtain⟨o0,o1⟩:=j7 hw (i+k)
  have hy:idx b (k:Int)=some (nth b k):=by rw[Q4,zq hkb];simp[nth,zq hkb]
  obtain⟨X,rfl⟩:∃X:Nat,x=(X:Int):=⟨x.toNat,by omega⟩
  obtain⟨Y,hY⟩:∃Y:Nat,nth b k=(Y:Int):=⟨(nth b k).toNat,by omega⟩
  obtain⟨Z,hZ⟩:∃Z:Nat,nth out (i+k)=(Z:Int):=⟨(nth out (i+k)).toNat,by omega⟩
  obtain⟨C,rfl⟩:∃C:Nat,c=(C:Int):=⟨c.toNat,by omega⟩
  have hXY:X*Y≤4294967295*4294967295:=VK (by omega) (by omega)
  have e0:IntKind.i64.wrap ((i:Int)+(k:Int))=((i+k:Nat):Int):=by rw[w64 (by omega) (by omega)];rfl
  have e1:IntKind.u64.wrap (X:Int)=X:=jR (by omega) (by omega)
  have e2:IntKind.u64.wrap (Y:Int)=Y:=jR (by omega) (by omega)
  have e3:IntKind.u64.wrap (Z:Int)=Z:=jR (by omega) (by omega)
  have e4:IntKind.u64.wrap ((X:Int)*(Y:Int))=((X*Y:Nat):Int):=by rw[← Vp];exact jR (by omega) (by omega)
  have e5:IntKind.u64.wrap (((X*Y:Nat):Int)+(Z:Int))=((X*Y+Z:Nat):Int):=by rw[jR (by omega) (by omega)];rfl
  have e6:IntKind.u64.wrap ((C:Int)+((X*Y+Z:Nat):Int))=((C+(X*Y+Z):Nat):Int):=by rw[jR (by omega) (by omega)];rfl
  have e9:IntKind.i64.wrap ((k:Int)+1)=((k+1:Nat):Int):=by rw[w64 (by omega) (by omega)];rfl
  generalize hS:C+(X*Y+Z)=S at *
  have e7:IntKind.u32.wrap (S:Int)=((S % 4294967296:Nat):Int):=by rw[wrap_u32];omega
  have e8:Int.fdiv (S:Int) (2^32)=((S / 4294967296:Nat):Int):=by
   rw[Va _ (by decide)];rfl
  have hset:=YQ out (i+k) ((S % 4294967296:Nat):Int) hj
  rw[hZ]at hset;obtain⟨out',c',h1,h2,h3,h4,h5,h6,N,h7⟩:=qor a b hb (X:Int) t hx0 hx1 i hlen hi out0 m (k+1) (out.set (i+k) ((S % 4294967296:Nat):Int)) ((S / 4294967296:Nat):Int) (by omega) (by simp[ho])
   (hw.set (by omega) (by omega) _) (by omega) (by omega) (fun j hj=>by rw[Z6 _ (by omega)];exact hz j (by omega)) (by
     simp only[zd]at hset hv ⊢;rw[jG,hY];simp only[zd];have hp:4294967296^(i+(k+1))*(S / 4294967296)+4294967296^(i+k)*(S % 4294967296)=4294967296^(i+k)*S:=by
      rw[← KD,z6,Km,← KG];congr 1;omega
     have hq:4294967296^(i+k)*S=4294967296^(i+k)*C+4294967296^(i+k)*(X*Y)+4294967296^(i+k)*Z:=by
      rw[← hS,KG,KG,KD]
     have hr:4294967296^i*(X*(qc (b.take k)+4294967296^k*Y))=4294967296^i*(X*qc (b.take k))+4294967296^(i+k)*(X*Y):=by
      rw[KG,KG,Ks]
      congr 1
      rw[Nat.mul_left_comm X,Km]
     rw[hr];omega)
  refine⟨out',c',h1,h2,h3,h4,h5,h6,N+1,fun n hn=>?_⟩
  obtain⟨n,rfl⟩:∃q,n=q+1:=⟨n-1,by omega⟩
  have hst:qdG (b,a.length+b.length,a,(a.length:Int),t,(i:Int),(X:Int),(C:Int),b,(b.length:Int),(k:Int),out.map eW,()) =
   some (.inl (b,a.length+b.length,a,(a.length:Int),t,(i:Int),(X:Int),((S / 4294967296:Nat):Int),b,(b.length:Int),((k+1:Nat):Int),(out.set (i+k) ((S % 4294967296:Nat):Int)).map eW,())):=by
   have d1:decide ((k:Int)<(b.length:Int))=true:=za (by omega)
   have d2:decide ((0:Int)≤((i+k:Nat):Int))=true:=za (by omega)
   have d3:decide (((i+k:Nat):Int)<((a.length+b.length:Nat):Int))=true:=za (by omega)
   have hg:(out.map eW)[0+((i+k:Nat):Int).toNat]?=some (eW (Z:Int)):=by
    rw[zD,zd,Yd hj,hZ]
   simp only[qdG,d1,zg,hy,hY,zh,e0,d2,d3,zZ,hg,JH,Qr,e1,e2,e3,e4,e5,e6,e7,e8,e9];simp only[zD,zd,qcB]
  rw[jj,hst];exact h7 n (by omega)
theorem qkn(a b:List Int)(ha:Wd a)(hb:Wd b)(hlen:a.length+b.length≤549755813888):∀(m i:Nat) (out:List Int),i+m=a.length→out.length=a.length+b.length→Wd out→(∀j,i+b.length≤j→nth out j=0) →
 qc out=qc (a.take i)*qc b →
 ∃out':List Int,out'.length=a.length+b.length∧Wd out'∧qc out'=qc a*qc b ∧
  ∃N,∀fu,N≤fu→∀n,N≤n→itP n (qdH fu) (b,a.length+b.length,a,(a.length:Int),(i:Int),out.map eW,())=some (b,a.length+b.length,a,(a.length:Int),(a.length:Int),out'.map eW,())
 | 0,i,out,hk,ho,hw,hz,hv=>by
  have:i=a.length:=by omega
  subst this;refine⟨out,ho,hw,by rw[zF (zE _)]at hv;exact hv,1,fun fu _ n hn=>?_⟩
  obtain⟨n,rfl⟩:∃q,n=q+1:=⟨n-1,by omega⟩
  rw[jj];simp[qdH]
 | m+1,i,out,hk,ho,hw,hz,hv=>by
  have hia:i<a.length:=by omega
  obtain⟨x0,x1⟩:=j7 ha i;have hx:idx a (i:Int)=some (nth a i):=by rw[Q4,zq hia];simp[nth,zq hia]
  obtain⟨o1,c,g1,g2,g3,g4,g5,g6,N1,g7⟩:=qor a b hb (nth a i) (i:Int) x0 x1 i hlen hia out b.length 0 out 0 (by omega) ho hw (by omega) (by omega) (fun _ _=>rfl) (by simp[qc])
  have hj:i+b.length<o1.length:=by omega
  have hnz:nth o1 (i+b.length)=0:=by rw[g5 _ (zE _)];exact hz _ (zE _)
  have hset:=YQ o1 (i+b.length) c hj
  rw[hnz]at hset;obtain⟨out',h1,h2,h3,N2,h4⟩:=qkn a b ha hb hlen m (i+1) (o1.set (i+b.length) c) (by omega) (by simp[g1]) (g2.set g3 g4 _)
   (fun j hj=>by rw[Z6 _ (by omega),g5 j (by omega)];exact hz j (by omega)) (by
     have e:qc (a.take (i+1))*qc b=qc (a.take i)*qc b+4294967296^i*((nth a i).toNat*qc b):=by
      rw[jG,zV,Km]
     simp only[Vh,Vv,KB]at hset;omega)
  refine⟨out',h1,h2,h3,max N1 N2+1,fun fu hfu n hn=>?_⟩
  obtain⟨n,rfl⟩:∃q,n=q+1:=⟨n-1,by omega⟩
  have e9:IntKind.i64.wrap ((i:Int)+1)=((i+1:Nat):Int):=by rw[w64 (by omega) (by omega)];rfl
  have e0:IntKind.i64.wrap ((i:Int)+(b.length:Int))=((i+b.length:Nat):Int):=by rw[w64 (by omega) (by omega)];rfl
  have e7:IntKind.u32.wrap c=c:=qi6 g3 g4
  have hst:qdH fu (b,a.length+b.length,a,(a.length:Int),(i:Int),out.map eW,())=some (.inl (b,a.length+b.length,a,(a.length:Int),((i+1:Nat):Int),(o1.set (i+b.length) c).map eW,())):=by
   have d1:decide ((i:Int)<(a.length:Int))=true:=za (by omega)
   have d2:decide ((0:Int)≤((i+b.length:Nat):Int))=true:=za (by omega)
   have d3:decide (((i+b.length:Nat):Int)<((a.length+b.length:Nat):Int))=true:=za (by omega)
   have hg:(o1.map eW)[0+((i+b.length:Nat):Int).toNat]?=some (eW 0):=by
    rw[zD,zd,Yd hj,hnz]
   have g7':=g7 fu (by omega)
   simp only[Int.natCast_zero]at g7';simp only[qdH,d1,zg,hx,zh,g7',e0,d2,d3,zZ,hg,Qr,e7,e9];simp only[zD,zd,qcB]
  rw[jj,hst];exact h4 fu (by omega) n (by omega)
theorem Ye(n:Nat):qc (List.replicate n 0)=0:=by
 induction n with
 | zero=>rfl
 | succ n ih=>simp[VR,qc,ih]
def ye(p:List Int×List Int):Option (List Int):=bif Nat.ble (p.1.length+p.2.length) 549755813888 then some (ofN (qc p.1*qc p.2))else none
theorem qvH(p:List Int×List Int)(y:List Int)(hg:(dc (cQ 1 1) (d1 (cQ 1 1))).good p)(h:ye p=some y):∃n,Mul n p.1 p.2=some y:=by
 obtain⟨a,b⟩:=p;obtain⟨⟨ha,la⟩,hb,lb⟩:=hg;obtain⟨hm,h⟩:=qh h;have:=soi h;subst this
 have hlen:a.length+b.length≤549755813888:=zo hm
 obtain⟨out,h1,h2,h3,N,h4⟩:=qkn a b (Wd.of ha) (Wd.of hb) hlen a.length 0 (List.replicate (a.length+b.length) 0) (by omega) (by simp) (fun x hx=>by
  have:=(K5.1 hx).2;subst this;exact⟨Wu _,by decide⟩) (fun j _=>by unfold nth;rw[K9];split <;> rfl) (by simp[Ye,qc])
 refine⟨N,?_⟩
 have e0:IntKind.i64.wrap ((a.length:Int)+(b.length:Int))=((a.length+b.length:Nat):Int):=by rw[w64 (by omega) (by omega)];rfl
 have d1:decide ((0:Int)≤((a.length+b.length:Nat):Int))=true:=za (by omega)
 have d2:decide (((a.length+b.length:Nat):Int)≤((a.length+b.length:Nat):Int))=true:=za (by omega)
 have d3:decide (((a.length+b.length:Nat):Int)≤549755813888)=true:=za (by omega)
 have h4':=h4 N (zE _) N (zE _)
 rw[VE,Int.natCast_zero]at h4';unfold Mul;simp only[e0,d1,d2,d3,zZ,zg,zd];rw[show(T.s (.int .u32 0))=eW 0 from rfl,h4'];have hs:sub (out.map eW) 0 (a.length+b.length)=some (out.map eW):=by
  have:=Jz (out.map eW)
  rwa [zH,h1]at this
 simp only[zh,hs,Ja];show some (ofN (qc out))=_
 rw[h3]
end
end Su
end
