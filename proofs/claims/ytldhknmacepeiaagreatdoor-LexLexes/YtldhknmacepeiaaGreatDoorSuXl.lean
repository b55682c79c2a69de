/-
  An evaluator of the program's functions over trees of values, proved sound. No condition.
-/
import Derived.Test.YtldhknmacepeiaaGreatDoorSuSd
import Derived.Test.YtldhknmacepeiaaGreatDoorRb
set_option linter.unusedVariables false
set_option linter.unusedSimpArgs false
section
namespace Su
open Go Fly
abbrev Stp(S:Type):Type:=S→Option (S ⊕ S)
noncomputable section
variable {P:Program} {B:Bts}
theorem jF{h:BtsOK P B}(hc:B.fns.mp (fun f fn=>match fn.body with | some c=>okC fn.ntmps B.tbl f c | none=>true)=B.fns.mp fun _ _=>true){pr:qt}(hpr:QS P B.tbl h.sound pr)
 {f:Nat} {α ρ:Type} {d:Dec α} {e:Dec ρ} {g:α→Option ρ} (X:Nat→α→Option ρ) (hgo:(B.go.get f).isSome=true) (heq:∀fu a,qhV B.tbl pr (shN B.tbl pr fu 9) fu f (d.enc a) e.dec=X fu a)
 (ok:∀a y,d.good a→g a=some y→∃n,X n a=some y):Ok1 P B.tbl h.sound f (prim d e g) :=
 qdh hc hpr hgo fun a y hg h=>by
  obtain⟨n,hn⟩:=ok a y hg h;exact⟨n,9,n,(heq n a).trans hn⟩
theorem yj{h:BtsOK P B}(hc:B.fns.mp (fun f fn=>match fn.body with | some c=>okC fn.ntmps B.tbl f c | none=>true)=B.fns.mp fun _ _=>true){pr:qt}(hpr:QS P B.tbl h.sound pr)
 {f:Nat} {α ρ:Type} {d:Dec α} {e:Dec ρ} {g:α→Option ρ} (X:α→Option ρ) (hgo:(B.go.get f).isSome=true) (heq:∀fu a,qhV B.tbl pr (shN B.tbl pr fu 9) fu f (d.enc a) e.dec=X a)
 (ok:∀a y,d.good a→g a=some y→X a=some y):Ok1 P B.tbl h.sound f (prim d e g) :=
 qdh hc hpr hgo fun a y hg h=>⟨0,9,0,(heq 0 a).trans (ok a y hg h)⟩
theorem fnL{h:BtsOK P B}(hc:B.fns.mp (fun f fn=>match fn.body with | some c=>okC fn.ntmps B.tbl f c | none=>true)=B.fns.mp fun _ _=>true){pr:qt}(hpr:QS P B.tbl h.sound pr)
 {f:Nat} {α ρ:Type} {d:Dec α} {e:Dec ρ} {g:α→Option ρ} (hgo:(B.go.get f).isSome=true) (heq:∀fu a,qhV B.tbl pr (shN B.tbl pr fu 9) fu f (d.enc a) e.dec=g a):Ok1 P B.tbl h.sound f (prim d e g) :=
 qdh hc hpr hgo fun a y _ h=>⟨0,9,0,(heq 0 a).trans h⟩
end
end Su
end
section
namespace Su
open Go Fly
noncomputable section
def qpd  (neg:Bool)(exp:Int)(frac:Int):Option (Int×Int) :=
 (bif(decide (exp<0))then
 some ((0:Int),(1:Int))
 else
  (bif(decide (2047<exp))then
  some ((0:Int),(1:Int))
 else
  (bif(decide (4503599627370495<frac))then
  some ((0:Int),(1:Int))
 else
  (bif neg then
  some ((Fly.qB Go.BinOp.or .u64 (Fly.qB Go.BinOp.or .u64 (IntKind.wrap .u64 ((IntKind.wrap .u64 exp)*(2^52))) frac) 9223372036854775808),(0:Int))
 else
  some ((Fly.qB Go.BinOp.or .u64 (IntKind.wrap .u64 ((IntKind.wrap .u64 exp)*(2^52))) frac),(0:Int))))))
def Ym(p:Bool×Int×Int):Option (Int×Int):=bif decide (0≤p.2.1)&&decide (p.2.1≤2047)&&decide (p.2.2≤4503599627370495)then some (((sgN p.1+4503599627370496*p.2.1.toNat+p.2.2.toNat:Nat):Int),0)else some (0,1)
theorem qpe(p:Bool×Int×Int)(y:Int×Int)(hg:(dc cB (dc (cI .i64) (d1 (cI .u64)))).good p)(h:Ym p=some y):qpd p.1 p.2.1 p.2.2=some y:=by
 obtain⟨neg,e,fr⟩:=p;obtain⟨_,he,hf⟩:=hg;have he:=QG.1 he;obtain⟨F,rfl,hF⟩:=YA hf;unfold Ym at h;unfold qpd;simp only[]at h ⊢;by_cases h1:e<0
 · rw[zi (show¬(0:Int)≤e by omega)]at h
   rw[za h1];exact h
 · rw[za (show(0:Int)≤e by omega)]at h
   rw[zi h1,zj];by_cases h2:2047<e
   · rw[zi (show¬e≤2047 by omega)]at h
     rw[za h2];exact h
   · rw[za (show e≤2047 by omega)]at h
     rw[zi h2,zj];by_cases h3:(4503599627370495:Int)<(F:Int)
     · rw[zi (show¬(F:Int)≤4503599627370495 by omega)]at h
       rw[za h3];exact h
     · rw[za (show(F:Int)≤4503599627370495 by omega)]at h
       rw[zi h3,zj];obtain⟨E,rfl⟩:∃E:Nat,e=(E:Int):=⟨e.toNat,by omega⟩
       have e1:IntKind.u64.wrap (E:Int)=(E:Int):=jH (by omega) (by omega)
       have e2:IntKind.u64.wrap ((E:Int)*2^52)=((E*2^52:Nat):Int):=by
        rw[show(2:Int)^52=((2^52:Nat):Int) from rfl,← Vt];exact jH (by omega) (by omega)
       have e3:qB .or .u64 ((E*2^52:Nat):Int) (F:Int)=((E*2^52+F:Nat):Int):=by
        rw[qba _ _ (by omega) hF,qgW (by omega)]
       rw[e1,e2,e3];have h:=soi h;subst h;cases neg with
       | true=>
        rw[zf,qun _ (by omega)];simp[sgN];omega
       | false=>simp[sgN];omega
end
end Su
end
section
namespace Su
open Go Fly
noncomputable section
def pInf  (neg:Bool):Option Int :=
 some (((((sgN neg)+(4503599627370496*(Int.toNat 2047)))+(Int.toNat 0)):Nat):Int)
def qpf(neg:Bool):Option Int:=some ((sgN neg+9218868437227405312:Nat):Int)
theorem qup(neg:Bool)(y:Int)(hg:(d1 cB).good neg)(h:qpf neg=some y):pInf neg=some y:=by
 have:=soi h;subst this
 cases neg <;> rfl
end
end Su
end
section
namespace Su
open Go Fly
noncomputable section
end
end Su
end
section
namespace Su
open Go Fly
noncomputable section
end
end Su
end
section
namespace Su
open Go Fly
noncomputable section
def At  (a:(List Int))(i:Int):Option Int :=
 (bif(decide (i<(List.length a:Int)))then
 (idx a i).bind fun x0=>
 some (IntKind.wrap .u64 x0)
 else
  some 0)
end
end Su
end
section
namespace Su
open Go Fly
noncomputable section
def qbc:Stp ((List Int)×Unit):=fun p0=>(bif(decide (0<(List.length p0.1:Int)))then
 (idx p0.1 (IntKind.wrap .i64 ((List.length p0.1:Int)-1))).bind fun x1=>
 (bif(decide (x1=0))then
 (bif(true&&((true&&(decide (0≤(IntKind.wrap .i64 ((List.length p0.1:Int)-1)))))&&(decide ((IntKind.wrap .i64 ((List.length p0.1:Int)-1))≤(List.length p0.1:Int)))))then
 some (.inl ((List.take (Int.toNat ((IntKind.wrap .i64 ((List.length p0.1:Int)-1))-0)) (List.drop 0 p0.1)),()))
 else none)
 else
  some (.inr (p0.1,())))
 else
  some (.inr (p0.1,())))
def qyu  (fu:Nat)(a:(List Int)):Option (List Int) :=
 (itP fu (qbc) (a,())).bind fun x2=>
 some x2.1
def qd:List Int→Nat
 | []=>0
 | x::l=>x.toNat+4294967296*qd l
def ofF:Nat→Nat→List Int
 | 0,_=>[]
 | k+1,n=>if n=0 then[]else((n % 4294967296:Nat):Int)::ofF k (n / 4294967296)
def ofN(n:Nat):List Int:=ofF (n.log2 / 32+1) n
theorem qpg:∀(k j n:Nat),n<4294967296^k→n<4294967296^j→ofF k n=ofF j n
 | 0,0,_,_,_=>rfl
 | 0,j+1,n,h,_=>by
  have:n=0:=by simpa using h
  subst this;rfl
 | k+1,0,n,_,h=>by
  have:n=0:=by simpa using h
  subst this;rfl
 | k+1,j+1,n,h1,h2=>by
  unfold ofF;by_cases h0:n=0
  · simp[h0]
  · simp only[h0,WB]
    rw[qpg k j (n / 4294967296)]
    · rw[zU]at h1;exact Wc (by rw[zB];exact h1)
    · rw[zU]at h2;exact Wc (by rw[zB];exact h2)
theorem qgZ(n:Nat):n<4294967296^(n.log2 / 32+1):=by
 have h:=@Nat.lt_log2_self n
 have e:(4294967296:Nat)^(n.log2 / 32+1)=2^(32*(n.log2 / 32+1)):=by rw[Nat.pow_mul]
 rw[e];exact Kk h (Ka (by omega) (by omega))
theorem Jq:ofN 0=[]:=rfl
theorem qiv{n:Nat}(h:n≠0):ofN n=((n % 4294967296:Nat):Int)::ofN (n / 4294967296):=by
 have:ofN n=ofF (n.log2 / 32+1) n:=rfl
 rw[this];unfold ofF;rw[zp h]
 congr 1
 have hl:=qgZ n;rw[zU]at hl;exact qpg _ _ _ (Wc (by rw[zB];exact hl)) (qgZ _)
def Wd(l:List Int):Prop:=∀x∈l,0≤x∧x<4294967296
theorem Wd.nil:Wd []:=fun _ h=>by cases h
theorem Wd.cons{x:Int}{l:List Int}(h0:0≤x)(h1:x<4294967296)(h:Wd l):Wd (x::l):=fun y hy=>by
 rcases zN.1 hy with rfl | hy
 · exact⟨h0,h1⟩
 · exact h y hy
theorem Wd.tail{x:Int}{l:List Int}(h:Wd (x::l)):Wd l:=fun y hy=>h y (zq _ hy)
theorem Wd.head{x:Int}{l:List Int}(h:Wd (x::l)):0≤x∧x<4294967296:=h x (zE ..)
theorem Wd.app{a b:List Int}(h:Wd a)(h':Wd b):Wd (a++b):=fun x hx=>by
 rcases Kh.1 hx with hx | hx
 · exact h x hx
 · exact h' x hx
theorem Wd.left{a b:List Int}(h:Wd (a++b)):Wd a:=fun x hx=>h x (KT _ hx)
theorem Wd.right{a b:List Int}(h:Wd (a++b)):Wd b:=fun x hx=>h x (VJ _ hx)
theorem Wd.of{l:List Int}(h:∀x∈l,gU 1 x):Wd l:=fun x hx=>qdi.1 (h x hx)
theorem yv:∀(a b:List Int),qd (a++b)=qd a+4294967296^a.length*qd b
 | [],b=>by simp[qd]
 | x::a,b=>by simp only[Ve,qd,yv a b,zy,zU];rw[Kx,← zt,zB 4294967296 (4294967296^a.length)];omega
theorem qiw{x:Int}{n:Nat}(h0:0≤x)(h1:x<4294967296)(h:x.toNat+4294967296*n≠0):ofN (x.toNat+4294967296*n)=x::ofN n:=by
 rw[qiv h];have e1:(x.toNat+4294967296*n) % 4294967296=x.toNat:=by omega
 have e2:(x.toNat+4294967296*n) / 4294967296=n:=by omega
 rw[e1,e2]
 congr 1;omega
theorem qix:∀(k n:Nat),n<4294967296^k→qd (ofF k n)=n
 | 0,n,h=>by
  have:n=0:=by simpa using h
  subst this;rfl
 | k+1,n,h=>by
  unfold ofF;by_cases h0:n=0
  · simp[h0,qd]
  · simp only[h0,WB,qd]
    rw[qix k _ (by rw[zU]at h;exact Wc (by rw[zB];exact h))];omega
@[simp] theorem valN_ofN (n:Nat):qd (ofN n)=n:=qix _ _ (qgZ n)
theorem qph:∀(k n:Nat),Wd (ofF k n)
 | 0,_=>.nil
 | k+1,n=>by
  unfold ofF;split
  · exact .nil
  · exact .cons (by omega) (by omega) (qph k _)
theorem qg0(n:Nat):Wd (ofN n):=qph _ _
theorem qla:∀(l:List Int),Wd l→l.getLast?≠some 0→ofN (qd l)=l
 | [],_,_=>rfl
 | [x],h,hl=>by
  have:=h.head
  have hx:x≠0:=fun e=>hl (by simp[e])
  simp only[qd,Vy];have:=qiw (x:=x) (n:=0) this.1 this.2 (by omega)
  simpa[Jq]using this
 | x::y::l,h,hl=>by
  have hl':(y::l).getLast?≠some 0:=by rwa [List.getLast?_cons_cons]at hl
  have ih:=qla (y::l) h.tail hl'
  have hnz:qd (y::l)≠0:=fun e=>by rw[e,Jq]at ih;cases ih
  show ofN (x.toNat+4294967296*qd (y::l))=_
  rw[qiw h.head.1 h.head.2 (by omega),ih]
theorem qg1(l:List Int):qd (l++[0])=qd l:=by rw[yv];simp[qd]
theorem qfH(q:Unit):∀(k:Nat) (l:List Int),l.length=k→Wd l→k≤maxLen→∃n,itP n qbc (l,q)=some (ofN (qd l),q)
 | 0,l,hk,_,_=>by
  have:=KD.1 hk;subst this
  exact js (by simp[qbc,qd,Jq])
 | k+1,l,hk,hw,hm=>by
  rw[jU]at hm;rcases List.eq_nil_or_concat l with rfl | ⟨l',x,rfl⟩
  · simp at hk
  · simp only[List.concat_eq_append,zJ,zy,KF]at hk hw ⊢
    have hlen:l'.length=k:=by omega
    have hx:=hw.right.head;have e1:IntKind.i64.wrap (((l'++[x]).length:Int)-1)=(l'.length:Int):=by rw[w64] <;> simp <;> omega
    by_cases h0:x=0
    · subst h0
      refine jK (s':=(l',q)) ?_ (by rw[qg1];exact qfH q k l' hlen hw.left (by rw[jU];omega))
      simp only[qbc,e1];simp[yH];rw[za (by omega)];rfl
    · have hv:ofN (qd (l'++[x]))=l'++[x]:=qla _ hw (by simp[h0])
      rw[hv];refine js ?_
      simp only[qbc,e1];simp[yH,h0]
def qg2(a:List Int):Option (List Int):=some (ofN (qd a))
theorem quq(a y:List Int)(hg:(d1 (cQ 1 1)).good a)(h:qg2 a=some y):∃n,qyu n a=some y:=by
 obtain⟨n,hn⟩:=qfH () a.length a rfl (Wd.of hg.1) hg.2
 refine⟨n,?_⟩
 have:=soi h;subst this
 unfold qyu;rw[hn];rfl
end
end Su
end
section
namespace Su
open Go Fly
noncomputable section
def qg3:Stp ((List Int)×(List Int)×Nat×Int×Int×Int×(List T)×Unit):=fun p0=>(bif(decide (p0.2.2.2.2.2.1<p0.2.2.2.2.1))then
 (At p0.1 p0.2.2.2.2.2.1).bind fun x1=>
 (At p0.2.1 p0.2.2.2.2.2.1).bind fun x2=>
 (bif((true&&(Nat.beq p0.2.2.1 p0.2.2.2.2.2.2.1.length))&&(Nat.ble (p0.2.2.2.2.2.2.1.length+(List.length [(T.s (.int .u32 (IntKind.wrap .u32 (IntKind.wrap .u64 (p0.2.2.2.1+(IntKind.wrap .u64 (x1+x2)))))))])) 549755813888))then
 some (.inl (p0.1,p0.2.1,(List.length (p0.2.2.2.2.2.2.1++[(T.s (.int .u32 (IntKind.wrap .u32 (IntKind.wrap .u64 (p0.2.2.2.1+(IntKind.wrap .u64 (x1+x2)))))))])),(Int.fdiv (IntKind.wrap .u64 (p0.2.2.2.1+(IntKind.wrap .u64 (x1+x2)))) (2^32)),p0.2.2.2.2.1,(IntKind.wrap .i64 (p0.2.2.2.2.2.1+1)),(p0.2.2.2.2.2.2.1++[(T.s (.int .u32 (IntKind.wrap .u32 (IntKind.wrap .u64 (p0.2.2.2.1+(IntKind.wrap .u64 (x1+x2)))))))]),()))
 else none)
 else
  some (.inr (p0.1,p0.2.1,p0.2.2.1,p0.2.2.2.1,p0.2.2.2.2.1,p0.2.2.2.2.2.1,p0.2.2.2.2.2.2.1,())))
def Add  (fu:Nat)(a:(List Int))(b:(List Int)):Option (List Int) :=
 (itP fu (qg3) (a,b,0,(0:Int),(max (List.length a:Int) (List.length b:Int)),(0:Int),[],())).bind fun x3=>
 (bif((true&&(Nat.beq x3.2.2.1 x3.2.2.2.2.2.2.1.length))&&(Nat.ble (x3.2.2.2.2.2.2.1.length+(List.length [(T.s (.int .u32 (IntKind.wrap .u32 x3.2.2.2.1)))])) 549755813888))then
 (Su.sub (x3.2.2.2.2.2.2.1++[(T.s (.int .u32 (IntKind.wrap .u32 x3.2.2.2.1)))]) 0 (List.length (x3.2.2.2.2.2.2.1++[(T.s (.int .u32 (IntKind.wrap .u32 x3.2.2.2.1)))]))).bind fun x4=>
 (Su.sub (x3.2.2.2.2.2.2.1++[(T.s (.int .u32 (IntKind.wrap .u32 x3.2.2.2.1)))]) 0 (List.length (x3.2.2.2.2.2.2.1++[(T.s (.int .u32 (IntKind.wrap .u32 x3.2.2.2.1)))]))).bind fun x5=>
 ((jJ 1 x4).bind fun x6=>
 some (ofN (qd x6))).bind fun x7=>
 some x7
 else none)
def qap:((List Int)×(List Int)×Int×Unit)→Option (((List Int)×(List Int)×Int×Unit) ⊕ (Lp ((List Int)×(List Int)×Int×Unit) Int)):=fun p0=>(bif(decide (0≤p0.2.2.1))then
 (At p0.1 p0.2.2.1).bind fun x1=>
 (At p0.2.1 p0.2.2.1).bind fun x2=>
 (bif(!(decide (x1=x2)))then
 (bif(decide (x1<x2))then
 some (.inr (.ret (-1)))
 else
  some (.inr (.ret 1)))
 else
  some (.inl (p0.1,p0.2.1,(IntKind.wrap .i64 (p0.2.2.1-1)),())))
 else
  some (.inr (.exit 0 (p0.1,p0.2.1,p0.2.2.1,()))))
def Cmp  (fu:Nat)(a:(List Int))(b:(List Int)):Option Int :=
 (itP fu (qap) (a,b,(IntKind.wrap .i64 ((max (List.length a:Int) (List.length b:Int))-1)),())).bind fun x3=>
 (match x3 with
 | .exit i4 p5=>(bif(Nat.beq i4 0)then
  some 0
 else none)
 | .ret o6=>some o6)
def New  (x:Int):Option (List Int) :=
 some (ofN (qd [(IntKind.wrap .u32 x),(IntKind.wrap .u32 (Int.fdiv x (2^32)))]))
def Jr:ByteArray:=⟨⟨[0,1,2,2,3,3,3,3,4,4,4,4,4,4,4,4,5,5,5,5,5,5,5,5,5,5,5,5,5,5,5,5,6,6,6,6,6,6,6,6,6,6,6,6,6,6,6,6,6,6,6,6,6,6,6,6,6,6,6,6,6,6,6,6,7,7,7,7,7,7,7,7,7,7,7,7,7,7,7,7,7,7,7,7,7,7,7,7,7,7,7,7,7,7,7,7,7,7,7,7,7,7,7,7,7,7,7,7,7,7,7,7,7,7,7,7,7,7,7,7,7,7,7,7,7,7,7,7,8,8,8,8,8,8,8,8,8,8,8,8,8,8,8,8,8,8,8,8,8,8,8,8,8,8,8,8,8,8,8,8,8,8,8,8,8,8,8,8,8,8,8,8,8,8,8,8,8,8,8,8,8,8,8,8,8,8,8,8,8,8,8,8,8,8,8,8,8,8,8,8,8,8,8,8,8,8,8,8,8,8,8,8,8,8,8,8,8,8,8,8,8,8,8,8,8,8,8,8,8,8,8,8,8,8,8,8,8,8,8,8,8,8,8,8,8,8,8,8,8,8,8,8,8,8,8,8]⟩⟩
def qiy  (x:Int):Option Int :=
 (bif(decide (65536≤x))then
 (bif(decide (256≤(Int.fdiv x (2^16))))then
 (bif(decide (0≤(IntKind.wrap .u8 (Int.fdiv (Int.fdiv x (2^16)) (2^8)))))then
 ((Jr)[(Int.toNat (IntKind.wrap .u8 (Int.fdiv (Int.fdiv x (2^16)) (2^8))))]?).bind fun x0=>
 some (IntKind.wrap .i64 ((IntKind.wrap .i64 (16+8))+(IntKind.wrap .i64 (UInt8.toNat x0:Int))))
 else none)
 else
  (bif(decide (0≤(IntKind.wrap .u8 (Int.fdiv x (2^16)))))then
  ((Jr)[(Int.toNat (IntKind.wrap .u8 (Int.fdiv x (2^16))))]?).bind fun x1=>
  some (IntKind.wrap .i64 (16+(IntKind.wrap .i64 (UInt8.toNat x1:Int))))
 else none))
 else
  (bif(decide (256≤x))then
  (bif(decide (0≤(IntKind.wrap .u8 (Int.fdiv x (2^8)))))then
  ((Jr)[(Int.toNat (IntKind.wrap .u8 (Int.fdiv x (2^8))))]?).bind fun x2=>
  some (IntKind.wrap .i64 ((IntKind.wrap .i64 (0+8))+(IntKind.wrap .i64 (UInt8.toNat x2:Int))))
 else none)
 else
  (bif(decide (0≤(IntKind.wrap .u8 x)))then
  ((Jr)[(Int.toNat (IntKind.wrap .u8 x))]?).bind fun x3=>
  some (IntKind.wrap .i64 (0+(IntKind.wrap .i64 (UInt8.toNat x3:Int))))
 else none)))
def nth(a:List Int)(i:Nat):Int:=a[i]?.getD 0
theorem ye{a:List Int}(h:Wd a)(i:Nat):0≤nth a i∧nth a i<4294967296:=by
 unfold nth;cases hi:a[i]? with
 | none=>exact⟨Wv _,by decide⟩
 | some x=>exact h x (Kp hi)
theorem QB{a:List Int}(h:Wd a)(i:Nat):At a (i:Int)=some (nth a i):=by
 unfold At nth;by_cases hi:i<a.length
 · have hx:=h a[i] (List.getElem_mem hi)
   have e:((i:Int)<(a.length:Int)):=by omega
   simp only[yH,zl hi,za e,zf,zd,Option.getD_some];rw[jH hx.1 (by omega)]
 · have e : ¬((i:Int)<(a.length:Int)):=by omega
   rw[zA (by omega),zi e];rfl
theorem jG(a:List Int)(i:Nat):qd (a.take (i+1))=qd (a.take i)+4294967296^i*(nth a i).toNat:=by
 unfold nth;by_cases hi:i<a.length
 · rw[VE hi,yv,zl hi]
   simp[qd,zM,Kz (Vm hi)]
 · rw[zL (by omega),zL (by omega),zA (by omega)];simp
theorem JD(l:List T):sub l 0 l.length=some l:=by
 unfold sub;rw[show Nat.ble (0+l.length) l.length=true by rw[K9];omega];simp
theorem Q9(l:List Int):jJ 1 (l.map fun x=>T.s (.int .u32 x))=some l:=Y2 (u:=1) (by decide) l
abbrev eW(x:Int):T:=T.s (.int .u32 x)
theorem qiz(a b:List Int)(ha:Wd a)(hb:Wd b)(N:Nat)(hN:N≤549755813887):∀(k i:Nat) (out:List Int) (c:Int),i+k=N→out.length=i→Wd out→0≤c→c≤1 →
 qd out+4294967296^i*c.toNat=qd (a.take i)+qd (b.take i) →
 ∃(out':List Int) (c':Int),out'.length=N∧Wd out'∧0≤c'∧c'≤1∧qd out'+4294967296^N*c'.toNat=qd (a.take N)+qd (b.take N) ∧
  ∃n,itP n qg3 (a,b,i,c,(N:Int),(i:Int),out.map eW,())=some (a,b,N,c',(N:Int),(N:Int),out'.map eW,())
 | 0,i,out,c,hk,ho,hw,hc0,hc1,hv=>by
  have:i=N:=by omega
  subst this;exact⟨out,c,ho,hw,hc0,hc1,hv,js (by simp[qg3])⟩
 | k+1,i,out,c,hk,ho,hw,hc0,hc1,hv=>by
  have hi:(i:Int)<N:=by omega
  obtain⟨x0,x1⟩:=ye ha i;obtain⟨y0,y1⟩:=ye hb i;have e1:IntKind.u64.wrap (nth a i+nth b i)=nth a i+nth b i:=jH (by omega) (by omega)
  have e2:IntKind.u64.wrap (c+(nth a i+nth b i))=c+(nth a i+nth b i):=jH (by omega) (by omega)
  have e3:IntKind.i64.wrap ((i:Int)+1)=((i+1:Nat):Int):=by rw[w64 (by omega) (by omega)];rfl
  obtain⟨s,hs⟩:∃s:Nat,c+(nth a i+nth b i)=(s:Int):=⟨(c+(nth a i+nth b i)).toNat,by omega⟩
  have e6:IntKind.u64.wrap (s:Int)=(s:Int):=jH (by omega) (by omega)
  have e4:IntKind.u32.wrap (s:Int)=((s % 4294967296:Nat):Int):=by rw[wrap_u32];omega
  have e5:Int.fdiv (s:Int) (2^32)=((s / 4294967296:Nat):Int):=by
   rw[Vd _ (by decide)];rfl
  obtain⟨out',c',h1,h2,h3,h4,h5,h6⟩:=qiz a b ha hb N hN k (i+1) (out++[((s % 4294967296:Nat):Int)]) ((s / 4294967296:Nat):Int) (by omega) (by simp[ho])
   (hw.app (.cons (by omega) (by omega) .nil)) (by omega) (by omega) (by
     rw[yv,jG,jG,ho];simp only[qd,Vy,Ks,zg];have hp:4294967296^(i+1)*(s / 4294967296)+4294967296^i*(s % 4294967296)=4294967296^i*s:=by
      rw[zU,zt,← Kx];congr 1;omega
     have hq:4294967296^i*s=4294967296^i*c.toNat+4294967296^i*(nth a i).toNat+4294967296^i*(nth b i).toNat:=by
      rw[← Kx,← Kx];congr 1;omega
     omega)
  refine⟨out',c',h1,h2,h3,h4,h5,jK ?_ h6⟩
  simp only[qg3,QB ha,QB hb,zd,e1,e3,hs,e6,e4,e5,za hi,zf];have hb1:Nat.beq i (out.map eW).length=true:=by rw[zx,ho];exact KK _
  have hb2:Nat.ble ((out.map eW).length+[eW ((s % 4294967296:Nat):Int)].length) 549755813888=true:=by
   rw[K9,zx,ho];simp;omega
  rw[hb1,hb2];simp[ho]
def sm(n:Nat):Bool:=Nat.ble n.log2 8796093022208
def qfI(p:List Int×List Int):Option (List Int):=bif Nat.ble (max p.1.length p.2.length) 549755813887 then some (ofN (qd p.1+qd p.2))else none
theorem qyv(p:List Int×List Int)(y:List Int)(hg:(dc (cQ 1 1) (d1 (cQ 1 1))).good p)(h:qfI p=some y):∃n,Add n p.1 p.2=some y:=by
 obtain⟨a,b⟩:=p;obtain⟨⟨ha,la⟩,hb,lb⟩:=hg;obtain⟨hm,h⟩:=qi h;have:=soi h;subst this
 have hm:=zm hm;obtain⟨out,c,h1,h2,h3,h4,h5,n,h6⟩:=qiz a b (Wd.of ha) (Wd.of hb) (max a.length b.length) hm (max a.length b.length) 0 [] 0 (by omega) rfl .nil (by omega) (by omega) (by simp[qd])
 refine⟨n,?_⟩
 unfold Add;have em:max (a.length:Int) (b.length:Int)=((max a.length b.length:Nat):Int):=by omega
 rw[em];rw[show(a,b,0,(0:Int),((max a.length b.length:Nat):Int),(0:Int),([]:List T),())=(a,b,0,(0:Int),((max a.length b.length:Nat):Int),((0:Nat):Int),([]:List Int).map eW,()) from rfl,h6];simp only[zd];have e4:IntKind.u32.wrap c=c:=qj1 h3 (by omega)
 have hb1:Nat.beq (max a.length b.length) (out.map eW).length=true:=by rw[zx,h1];exact KK _
 have hb2:Nat.ble ((out.map eW).length+[eW c].length) 549755813888=true:=by
  rw[K9,zx,h1];simp;omega
 have hu:jJ 1 (out.map eW++[eW c])=some (out++[c]):=by
  have:=Q9 (out++[c])
  rwa [Kg]at this
 rw[e4,hb1,hb2];simp only[z7,zf,JD,zd,hu];have hv:qd (out++[c])=qd a+qd b:=by
  rw[yv,h1];simp only[qd,Vy,Ks];rw[h5,zL (by omega),zL (by omega)]
 show some (ofN (qd (out++[c])))=_
 rw[hv]
theorem qpi(a b x y B:Nat)(hx:a<B)(hy:b<B)(hne:x≠y):jy (a+B*x) (b+B*y)=if x<y then -1 else 1:=by
 unfold jy;by_cases h:x<y
 · have:B*x+B≤B*y:=by rw[← Nat.mul_succ];exact zQ _ h
   rw[zr (by omega),zr h]
 · have:B*y+B≤B*x:=by rw[← Nat.mul_succ];exact zQ _ (by omega)
   rw[zp (by omega),zp (by omega),zp h]
theorem yJ:∀(a:List Int),Wd a→qd a<4294967296^a.length
 | [],_=>by simp[qd]
 | x::a,h=>by
  have:=yJ a h.tail
  have:=h.head
  simp only[qd,zy,zU];omega
theorem yK{a:List Int}(h:Wd a)(i:Nat):qd (a.take i)<4294967296^i:=by
 have h1:=yJ (a.take i) (fun x hx=>h x (VC hx))
 exact Kk h1 (Ka (by omega) (by rw[zM];omega))
def qj2(a b:List Int)(i:Nat)(o:Option (Lp (List Int×List Int×Int×Unit) Int)):Prop :=
 (jy (qd (a.take i)) (qd (b.take i))=0∧o=some (.exit 0 (a,b,-1,())))∨(jy (qd (a.take i)) (qd (b.take i))≠0∧o=some (.ret (jy (qd (a.take i)) (qd (b.take i)))))
theorem qiA(a b:List Int)(ha:Wd a)(hb:Wd b):∀(i:Nat),i≤9223372036854775807→∃n,qj2 a b i (itP n qap (a,b,(i:Int)-1,()))
 | 0,_=>⟨1,.inl ⟨by simp[jy,qd],by simp[itP,qap]⟩⟩
 | i+1,hi=>by
  obtain⟨x0,x1⟩:=ye ha i;obtain⟨y0,y1⟩:=ye hb i;have e0:((i+1:Nat):Int)-1=(i:Int):=by omega
  rw[e0];have e3:IntKind.i64.wrap ((i:Int)-1)=(i:Int)-1:=w64 (by omega) (by omega)
  by_cases hxy:nth a i=nth b i
  · obtain⟨n,hn⟩:=qiA a b ha hb i (by omega)
    refine⟨n+1,?_⟩
    have hst:qap (a,b,(i:Int),())=some (.inl (a,b,(i:Int)-1,())):=by
     simp[qap,QB ha,QB hb,hxy,e3]
    rw[jD,hst];have he:jy (qd (a.take (i+1))) (qd (b.take (i+1)))=jy (qd (a.take i)) (qd (b.take i)):=by
     rw[jG,jG,hxy];unfold jy;simp
    unfold qj2 at hn ⊢
    rw[he];exact hn
  · refine⟨1,.inr ?_⟩
    have he:=qpi (qd (a.take i)) (qd (b.take i)) (nth a i).toNat (nth b i).toNat (4294967296^i) (yK ha i) (yK hb i) (by omega)
    rw[← jG,← jG]at he;rw[he,jD];by_cases hlt:nth a i<nth b i
    · rw[zr (by omega)]
      exact⟨by decide,by simp[qap,QB ha,QB hb,hxy,hlt]⟩
    · rw[zp (by omega)]
      exact⟨by decide,by simp[qap,QB ha,QB hb,hxy,hlt]⟩
def qw0(p:List Int×List Int):Option Int:=some (jy (qd p.1) (qd p.2))
theorem qyw(p:List Int×List Int)(y:Int)(hg:(dc (cQ 1 1) (d1 (cQ 1 1))).good p)(h:qw0 p=some y):∃n,Cmp n p.1 p.2=some y:=by
 obtain⟨a,b⟩:=p;obtain⟨⟨ha,la⟩,hb,lb⟩:=hg;have:=soi h;subst this
 have la':a.length≤9223372036854775807:=by have:=la;rw[jU]at this;exact this
 have lb':b.length≤9223372036854775807:=by have:=lb;rw[jU]at this;exact this
 have em:max (a.length:Int) (b.length:Int)=((max a.length b.length:Nat):Int):=by omega
 obtain⟨n,hn⟩:=qiA a b (Wd.of ha) (Wd.of hb) (max a.length b.length) (by omega)
 refine⟨n,?_⟩
 unfold Cmp;rw[em,w64 (by omega) (by omega)];unfold qj2 at hn;rw[zL (by omega),zL (by omega)]at hn;rcases hn with⟨h1,h2⟩ | ⟨h1,h2⟩
 · rw[h2,h1];rfl
 · rw[h2];rfl
end
end Su
end
section
namespace Su
open Go Fly
noncomputable section
def Len  (a:(List Int)):Option Int :=
 (bif(decide ((((List.length (ofN (qd a))):Nat):Int)=0))then
 some 0
 else
  (idx (ofN (qd a)) (IntKind.wrap .i64 ((((List.length (ofN (qd a))):Nat):Int)-1))).bind fun x0=>
  (qiy x0).bind fun x1=>
  some (IntKind.wrap .i64 ((IntKind.wrap .i64 (32*(IntKind.wrap .i64 ((((List.length (ofN (qd a))):Nat):Int)-1))))+x1)))
def qef:Stp ((List Int)×Nat×(List Int)×Int×Int×Int×Int×Int×(List Int)×Int×Int×(List T)×Unit):=fun p2=>(bif(decide (p2.2.2.2.2.2.2.2.2.2.2.1<p2.2.2.2.2.2.2.2.2.2.1))then
 (idx p2.2.2.2.2.2.2.2.2.1 p2.2.2.2.2.2.2.2.2.2.2.1).bind fun x3=>
 (bif((true&&(decide (0≤(IntKind.wrap .i64 (p2.2.2.2.2.2.1+p2.2.2.2.2.2.2.2.2.2.2.1)))))&&(decide ((IntKind.wrap .i64 (p2.2.2.2.2.2.1+p2.2.2.2.2.2.2.2.2.2.2.1))<(p2.2.1:Int))))then
 ((p2.2.2.2.2.2.2.2.2.2.2.2.1)[(0+(Int.toNat (IntKind.wrap .i64 (p2.2.2.2.2.2.1+p2.2.2.2.2.2.2.2.2.2.2.1))))]?).bind fun x4=>
 (ldT x4 0 false 1).bind fun x5=>
 (asI .u32 (.t x5)).bind fun x6=>
 (bif((true&&(decide (0≤(IntKind.wrap .i64 (p2.2.2.2.2.2.1+p2.2.2.2.2.2.2.2.2.2.2.1)))))&&(decide ((IntKind.wrap .i64 (p2.2.2.2.2.2.1+p2.2.2.2.2.2.2.2.2.2.2.1))<(p2.2.1:Int))))then
 ((p2.2.2.2.2.2.2.2.2.2.2.2.1)[(0+(Int.toNat (IntKind.wrap .i64 (p2.2.2.2.2.2.1+p2.2.2.2.2.2.2.2.2.2.2.1))))]?).bind fun x7=>
 (asI .u32 (.t x7)).bind fun x8=>
 some (.inl (p2.1,p2.2.1,p2.2.2.1,p2.2.2.2.1,p2.2.2.2.2.1,p2.2.2.2.2.2.1,p2.2.2.2.2.2.2.1,(Int.fdiv (IntKind.wrap .u64 (p2.2.2.2.2.2.2.2.1+(IntKind.wrap .u64 ((IntKind.wrap .u64 ((IntKind.wrap .u64 p2.2.2.2.2.2.2.1)*(IntKind.wrap .u64 x3)))+(IntKind.wrap .u64 x6))))) (2^32)),p2.2.2.2.2.2.2.2.2.1,p2.2.2.2.2.2.2.2.2.2.1,(IntKind.wrap .i64 (p2.2.2.2.2.2.2.2.2.2.2.1+1)),(List.set p2.2.2.2.2.2.2.2.2.2.2.2.1 (0+(Int.toNat (IntKind.wrap .i64 (p2.2.2.2.2.2.1+p2.2.2.2.2.2.2.2.2.2.2.1)))) (T.s (.int .u32 (IntKind.wrap .u32 (IntKind.wrap .u64 (p2.2.2.2.2.2.2.2.1+(IntKind.wrap .u64 ((IntKind.wrap .u64 ((IntKind.wrap .u64 p2.2.2.2.2.2.2.1)*(IntKind.wrap .u64 x3)))+(IntKind.wrap .u64 x6))))))))),()))
 else none)
 else none)
 else
  some (.inr (p2.1,p2.2.1,p2.2.2.1,p2.2.2.2.1,p2.2.2.2.2.1,p2.2.2.2.2.2.1,p2.2.2.2.2.2.2.1,p2.2.2.2.2.2.2.2.1,p2.2.2.2.2.2.2.2.2.1,p2.2.2.2.2.2.2.2.2.2.1,p2.2.2.2.2.2.2.2.2.2.2.1,p2.2.2.2.2.2.2.2.2.2.2.2.1,())))
def qeg(fu:Nat):Stp ((List Int)×Nat×(List Int)×Int×Int×(List T)×Unit):=fun p0=>(bif(decide (p0.2.2.2.2.1<p0.2.2.2.1))then
 (idx p0.2.2.1 p0.2.2.2.2.1).bind fun x1=>
 (itP fu (qef) (p0.1,p0.2.1,p0.2.2.1,p0.2.2.2.1,p0.2.2.2.2.1,p0.2.2.2.2.1,x1,(0:Int),p0.1,(List.length p0.1:Int),(0:Int),p0.2.2.2.2.2.1,())).bind fun x9=>
 (bif((true&&(decide (0≤(IntKind.wrap .i64 (x9.2.2.2.2.2.1+(List.length x9.1:Int))))))&&(decide ((IntKind.wrap .i64 (x9.2.2.2.2.2.1+(List.length x9.1:Int)))<(x9.2.1:Int))))then
 ((x9.2.2.2.2.2.2.2.2.2.2.2.1)[(0+(Int.toNat (IntKind.wrap .i64 (x9.2.2.2.2.2.1+(List.length x9.1:Int)))))]?).bind fun x10=>
 (asI .u32 (.t x10)).bind fun x11=>
 some (.inl (x9.1,x9.2.1,x9.2.2.1,x9.2.2.2.1,(IntKind.wrap .i64 (x9.2.2.2.2.1+1)),(List.set x9.2.2.2.2.2.2.2.2.2.2.2.1 (0+(Int.toNat (IntKind.wrap .i64 (x9.2.2.2.2.2.1+(List.length x9.1:Int))))) (T.s (.int .u32 (IntKind.wrap .u32 x9.2.2.2.2.2.2.2.1)))),()))
 else none)
 else
  some (.inr (p0.1,p0.2.1,p0.2.2.1,p0.2.2.2.1,p0.2.2.2.2.1,p0.2.2.2.2.2.1,())))
def Mul  (fu:Nat)(a:(List Int))(b:(List Int)):Option (List Int) :=
 (bif(((true&&(decide (0≤(IntKind.wrap .i64 ((List.length a:Int)+(List.length b:Int))))))&&(decide ((IntKind.wrap .i64 ((List.length a:Int)+(List.length b:Int)))≤(IntKind.wrap .i64 ((List.length a:Int)+(List.length b:Int))))))&&(decide ((IntKind.wrap .i64 ((List.length a:Int)+(List.length b:Int)))≤549755813888)))then
 (itP fu (qeg fu) (b,(Int.toNat (IntKind.wrap .i64 ((List.length a:Int)+(List.length b:Int)))),a,(List.length a:Int),(0:Int),(List.replicate (Int.toNat (IntKind.wrap .i64 ((List.length a:Int)+(List.length b:Int)))) (T.s (.int .u32 0))),())).bind fun x12=>
 (Su.sub x12.2.2.2.2.2.1 0 x12.2.1).bind fun x13=>
 (Su.sub x12.2.2.2.2.2.1 0 x12.2.1).bind fun x14=>
 (Su.sub x12.2.2.2.2.2.1 0 x12.2.1).bind fun x15=>
 ((jJ 1 x13).bind fun x16=>
 some (ofN (qd x16))).bind fun x17=>
 some x17
 else none)
theorem Y4:∀(l:List Int) (j:Nat) (y:Int),j<l.length→qd (l.set j y)+4294967296^j*(nth l j).toNat=qd l+4294967296^j*y.toNat
 | [],j,y,h=>by simp at h
 | x::l,0,y,_=>by simp[qd,nth];omega
 | x::l,j+1,y,h=>by
  have ih:=Y4 l j y (by simpa using h)
  have e:nth (x::l) (j+1)=nth l j:=by simp[nth]
  rw[e];simp only[Wp,qd,zU];have h1:4294967296^j*4294967296*(nth l j).toNat=4294967296*(4294967296^j*(nth l j).toNat):=by rw[zB (4294967296^j) 4294967296,zt]
  have h2:4294967296^j*4294967296*y.toNat=4294967296*(4294967296^j*y.toNat):=by rw[zB (4294967296^j) 4294967296,zt]
  rw[h1,h2];omega
theorem Wd.set{l:List Int}(h:Wd l){y:Int}(h0:0≤y)(h1:y<4294967296)(j:Nat):Wd (l.set j y):=fun x hx=>by
 rcases V9 hx with hx | rfl
 · exact h x hx
 · exact⟨h0,h1⟩
theorem qaq{l:List Int}{j k:Nat}(y:Int)(h:j≠k):nth (l.set j y) k=nth l k:=by unfold nth;rw[Kj h]
theorem Yn{l:List Int}{j:Nat}(h:j<l.length):(l.map eW)[j]?=some (eW (nth l j)):=by
 rw[KB,zl h];simp[nth,zl h]
theorem qdj(l:List Int)(j:Nat)(y:Int):(l.map eW).set j (eW y)=(l.set j y).map eW:=by rw[WG]
theorem Ql(κ:IntKind)(y:Int):asI κ (.t (.s (.int κ y)))=some y:=by simp[asI]
theorem JL(y:Int):ldT (eW y) 0 false 1=some (eW y):=rfl
theorem qpj(a b:List Int)(hb:Wd b)(x t:Int)(hx0:0≤x)(hx1:x<4294967296)(i:Nat)(hlen:a.length+b.length≤549755813888)(hi:i<a.length)(out0:List Int):∀(m k:Nat) (out:List Int) (c:Int),k+m=b.length→out.length=a.length+b.length→Wd out →
 0≤c→c<4294967296→(∀j,i+k≤j→nth out j=nth out0 j)→qd out+4294967296^(i+k)*c.toNat=qd out0+4294967296^i*(x.toNat*qd (b.take k)) →
 ∃(out':List Int) (c':Int),out'.length=a.length+b.length∧Wd out'∧0≤c'∧c'<4294967296∧(∀j,i+b.length≤j→nth out' j=nth out0 j)∧qd out'+4294967296^(i+b.length)*c'.toNat=qd out0+4294967296^i*(x.toNat*qd b) ∧
  ∃N,∀n,N≤n→itP n qef (b,a.length+b.length,a,(a.length:Int),t,(i:Int),x,c,b,(b.length:Int),(k:Int),out.map eW,()) =
   some (b,a.length+b.length,a,(a.length:Int),t,(i:Int),x,c',b,(b.length:Int),(b.length:Int),out'.map eW,())
 | 0,k,out,c,hk,ho,hw,hc0,hc1,hz,hv=>by
  have:k=b.length:=by omega
  subst this;refine⟨out,c,ho,hw,hc0,hc1,hz,by rw[zL (zw _)]at hv;exact hv,1,fun n hn=>?_⟩
  obtain⟨n,rfl⟩:∃q,n=q+1:=⟨n-1,by omega⟩
  rw[jD];simp[qef]
 | m+1,k,out,c,hk,ho,hw,hc0,hc1,hz,hv=>by
  have hkb:k<b.length:=by omega
  have hj:i+k<out.length:=by omega
  obtain⟨y0,y1⟩:=ye hb k;obtain⟨o0,o1⟩:=ye hw (i+k)
  have hy:idx b (k:Int)=some (nth b k):=by rw[yH,zl hkb];simp[nth,zl hkb]
  obtain⟨X,rfl⟩:∃X:Nat,x=(X:Int):=⟨x.toNat,by omega⟩
  obtain⟨Y,hY⟩:∃Y:Nat,nth b k=(Y:Int):=⟨(nth b k).toNat,by omega⟩
  obtain⟨Z,hZ⟩:∃Z:Nat,nth out (i+k)=(Z:Int):=⟨(nth out (i+k)).toNat,by omega⟩
  obtain⟨C,rfl⟩:∃C:Nat,c=(C:Int):=⟨c.toNat,by omega⟩
  have hXY:X*Y≤4294967295*4294967295:=VQ (by omega) (by omega)
  have e0:IntKind.i64.wrap ((i:Int)+(k:Int))=((i+k:Nat):Int):=by rw[w64 (by omega) (by omega)];rfl
  have e1:IntKind.u64.wrap (X:Int)=X:=jH (by omega) (by omega)
  have e2:IntKind.u64.wrap (Y:Int)=Y:=jH (by omega) (by omega)
  have e3:IntKind.u64.wrap (Z:Int)=Z:=jH (by omega) (by omega)
  have e4:IntKind.u64.wrap ((X:Int)*(Y:Int))=((X*Y:Nat):Int):=by rw[← Vt];exact jH (by omega) (by omega)
  have e5:IntKind.u64.wrap (((X*Y:Nat):Int)+(Z:Int))=((X*Y+Z:Nat):Int):=by rw[jH (by omega) (by omega)];rfl
  have e6:IntKind.u64.wrap ((C:Int)+((X*Y+Z:Nat):Int))=((C+(X*Y+Z):Nat):Int):=by rw[jH (by omega) (by omega)];rfl
  have e9:IntKind.i64.wrap ((k:Int)+1)=((k+1:Nat):Int):=by rw[w64 (by omega) (by omega)];rfl
  generalize hS:C+(X*Y+Z)=S at *
  have e7:IntKind.u32.wrap (S:Int)=((S % 4294967296:Nat):Int):=by rw[wrap_u32];omega
  have e8:Int.fdiv (S:Int) (2^32)=((S / 4294967296:Nat):Int):=by
   rw[Vd _ (by decide)];rfl
  have hset:=Y4 out (i+k) ((S % 4294967296:Nat):Int) hj
  rw[hZ]at hset;obtain⟨out',c',h1,h2,h3,h4,h5,h6,N,h7⟩:=qpj a b hb (X:Int) t hx0 hx1 i hlen hi out0 m (k+1) (out.set (i+k) ((S % 4294967296:Nat):Int)) ((S / 4294967296:Nat):Int) (by omega) (by simp[ho])
   (hw.set (by omega) (by omega) _) (by omega) (by omega) (fun j hj=>by rw[qaq _ (by omega)];exact hz j (by omega)) (by
     simp only[zg]at hset hv ⊢;rw[jG,hY];simp only[zg];have hp:4294967296^(i+(k+1))*(S / 4294967296)+4294967296^(i+k)*(S % 4294967296)=4294967296^(i+k)*S:=by
      rw[← Ku,zU,zt,← Kx];congr 1;omega
     have hq:4294967296^(i+k)*S=4294967296^(i+k)*C+4294967296^(i+k)*(X*Y)+4294967296^(i+k)*Z:=by
      rw[← hS,Kx,Kx,Ku]
     have hr:4294967296^i*(X*(qd (b.take k)+4294967296^k*Y))=4294967296^i*(X*qd (b.take k))+4294967296^(i+k)*(X*Y):=by
      rw[Kx,Kx,zP]
      congr 1
      rw[Vx X,zt]
     rw[hr];omega)
  refine⟨out',c',h1,h2,h3,h4,h5,h6,N+1,fun n hn=>?_⟩
  obtain⟨n,rfl⟩:∃q,n=q+1:=⟨n-1,by omega⟩
  have hst:qef (b,a.length+b.length,a,(a.length:Int),t,(i:Int),(X:Int),(C:Int),b,(b.length:Int),(k:Int),out.map eW,()) =
   some (.inl (b,a.length+b.length,a,(a.length:Int),t,(i:Int),(X:Int),((S / 4294967296:Nat):Int),b,(b.length:Int),((k+1:Nat):Int),(out.set (i+k) ((S % 4294967296:Nat):Int)).map eW,())):=by
   have d1:decide ((k:Int)<(b.length:Int))=true:=za (by omega)
   have d2:decide ((0:Int)≤((i+k:Nat):Int))=true:=za (by omega)
   have d3:decide (((i+k:Nat):Int)<((a.length+b.length:Nat):Int))=true:=za (by omega)
   have hg:(out.map eW)[0+((i+k:Nat):Int).toNat]?=some (eW (Z:Int)):=by
    rw[zF,zg,Yn hj,hZ]
   simp only[qef,d1,zf,hy,hY,zd,e0,d2,d3,z7,hg,JL,Ql,e1,e2,e3,e4,e5,e6,e7,e8,e9];simp only[zF,zg,qdj]
  rw[jD,hst];exact h7 n (by omega)
theorem qlb(a b:List Int)(ha:Wd a)(hb:Wd b)(hlen:a.length+b.length≤549755813888):∀(m i:Nat) (out:List Int),i+m=a.length→out.length=a.length+b.length→Wd out→(∀j,i+b.length≤j→nth out j=0) →
 qd out=qd (a.take i)*qd b →
 ∃out':List Int,out'.length=a.length+b.length∧Wd out'∧qd out'=qd a*qd b ∧
  ∃N,∀fu,N≤fu→∀n,N≤n→itP n (qeg fu) (b,a.length+b.length,a,(a.length:Int),(i:Int),out.map eW,())=some (b,a.length+b.length,a,(a.length:Int),(a.length:Int),out'.map eW,())
 | 0,i,out,hk,ho,hw,hz,hv=>by
  have:i=a.length:=by omega
  subst this;refine⟨out,ho,hw,by rw[zL (zw _)]at hv;exact hv,1,fun fu _ n hn=>?_⟩
  obtain⟨n,rfl⟩:∃q,n=q+1:=⟨n-1,by omega⟩
  rw[jD];simp[qeg]
 | m+1,i,out,hk,ho,hw,hz,hv=>by
  have hia:i<a.length:=by omega
  obtain⟨x0,x1⟩:=ye ha i;have hx:idx a (i:Int)=some (nth a i):=by rw[yH,zl hia];simp[nth,zl hia]
  obtain⟨o1,c,g1,g2,g3,g4,g5,g6,N1,g7⟩:=qpj a b hb (nth a i) (i:Int) x0 x1 i hlen hia out b.length 0 out 0 (by omega) ho hw (by omega) (by omega) (fun _ _=>rfl) (by simp[qd])
  have hj:i+b.length<o1.length:=by omega
  have hnz:nth o1 (i+b.length)=0:=by rw[g5 _ (zw _)];exact hz _ (zw _)
  have hset:=Y4 o1 (i+b.length) c hj
  rw[hnz]at hset;obtain⟨out',h1,h2,h3,N2,h4⟩:=qlb a b ha hb hlen m (i+1) (o1.set (i+b.length) c) (by omega) (by simp[g1]) (g2.set g3 g4 _)
   (fun j hj=>by rw[qaq _ (by omega),g5 j (by omega)];exact hz j (by omega)) (by
     have e:qd (a.take (i+1))*qd b=qd (a.take i)*qd b+4294967296^i*((nth a i).toNat*qd b):=by
      rw[jG,zR,zt]
     simp only[Int.toNat_zero,Vy,Ks]at hset;omega)
  refine⟨out',h1,h2,h3,max N1 N2+1,fun fu hfu n hn=>?_⟩
  obtain⟨n,rfl⟩:∃q,n=q+1:=⟨n-1,by omega⟩
  have e9:IntKind.i64.wrap ((i:Int)+1)=((i+1:Nat):Int):=by rw[w64 (by omega) (by omega)];rfl
  have e0:IntKind.i64.wrap ((i:Int)+(b.length:Int))=((i+b.length:Nat):Int):=by rw[w64 (by omega) (by omega)];rfl
  have e7:IntKind.u32.wrap c=c:=qj1 g3 g4
  have hst:qeg fu (b,a.length+b.length,a,(a.length:Int),(i:Int),out.map eW,())=some (.inl (b,a.length+b.length,a,(a.length:Int),((i+1:Nat):Int),(o1.set (i+b.length) c).map eW,())):=by
   have d1:decide ((i:Int)<(a.length:Int))=true:=za (by omega)
   have d2:decide ((0:Int)≤((i+b.length:Nat):Int))=true:=za (by omega)
   have d3:decide (((i+b.length:Nat):Int)<((a.length+b.length:Nat):Int))=true:=za (by omega)
   have hg:(o1.map eW)[0+((i+b.length:Nat):Int).toNat]?=some (eW 0):=by
    rw[zF,zg,Yn hj,hnz]
   have g7':=g7 fu (by omega)
   simp only[Int.natCast_zero]at g7';simp only[qeg,d1,zf,hx,zd,g7',e0,d2,d3,z7,hg,Ql,e7,e9];simp only[zF,zg,qdj]
  rw[jD,hst];exact h4 fu (by omega) n (by omega)
theorem Yo(n:Nat):qd (List.replicate n 0)=0:=by
 induction n with
 | zero=>rfl
 | succ n ih=>simp[VH,qd,ih]
def yV(p:List Int×List Int):Option (List Int):=bif Nat.ble (p.1.length+p.2.length) 549755813888 then some (ofN (qd p.1*qd p.2))else none
theorem qyx(p:List Int×List Int)(y:List Int)(hg:(dc (cQ 1 1) (d1 (cQ 1 1))).good p)(h:yV p=some y):∃n,Mul n p.1 p.2=some y:=by
 obtain⟨a,b⟩:=p;obtain⟨⟨ha,la⟩,hb,lb⟩:=hg;obtain⟨hm,h⟩:=qi h;have:=soi h;subst this
 have hlen:a.length+b.length≤549755813888:=zm hm
 obtain⟨out,h1,h2,h3,N,h4⟩:=qlb a b (Wd.of ha) (Wd.of hb) hlen a.length 0 (List.replicate (a.length+b.length) 0) (by omega) (by simp) (fun x hx=>by
  have:=(Va.1 hx).2;subst this;exact⟨Wv _,by decide⟩) (fun j _=>by unfold nth;rw[Vg];split <;> rfl) (by simp[Yo,qd])
 refine⟨N,?_⟩
 have e0:IntKind.i64.wrap ((a.length:Int)+(b.length:Int))=((a.length+b.length:Nat):Int):=by rw[w64 (by omega) (by omega)];rfl
 have d1:decide ((0:Int)≤((a.length+b.length:Nat):Int))=true:=za (by omega)
 have d2:decide (((a.length+b.length:Nat):Int)≤((a.length+b.length:Nat):Int))=true:=za (by omega)
 have d3:decide (((a.length+b.length:Nat):Int)≤549755813888)=true:=za (by omega)
 have h4':=h4 N (zw _) N (zw _)
 rw[VM,Int.natCast_zero]at h4';unfold Mul;simp only[e0,d1,d2,d3,z7,zf,zg];rw[show(T.s (.int .u32 0))=eW 0 from rfl,h4'];have hs:sub (out.map eW) 0 (a.length+b.length)=some (out.map eW):=by
  have:=JD (out.map eW)
  rwa [zx,h1]at this
 simp only[zd,hs,Q9];show some (ofN (qd out))=_
 rw[h3]
end
end Su
end
