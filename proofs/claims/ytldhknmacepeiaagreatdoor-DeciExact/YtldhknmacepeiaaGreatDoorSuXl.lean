/-
  An evaluator of the program's functions over trees of values, proved sound. No condition.
-/
import Derived.Test.YtldhknmacepeiaaGreatDoorSuSd
import Derived.Test.YtldhknmacepeiaaGreatDoorRb
set_option linter.unusedVariables false
set_option linter.unusedSimpArgs false
section
namespace Su
open Go Fly
abbrev Stp(S:Type):Type:=S→Option (S ⊕ S)
noncomputable section
variable {P:Program} {B:Bts}
theorem loopL{h:BtsOK P B}(hc:B.fns.mp (fun f fn=>match fn.body with | some c=>okC fn.ntmps B.tbl f c | none=>true)=B.fns.mp fun _ _=>true){pr:Prims}(hpr:PrimOK P B.tbl h.sound pr)
 {f:Nat} {α ρ:Type} {d:Dec α} {e:Dec ρ} {g:α→Option ρ} (X:Nat→α→Option ρ) (hgo:(B.go.get f).isSome=true) (heq:∀fu a,shFn B.tbl pr (shN B.tbl pr fu 9) fu f (d.enc a) e.dec=X fu a)
 (ok:∀a y,d.good a→g a=some y→∃n,X n a=some y):Ok1 P B.tbl h.sound f (prim d e g) :=
 prim_ok hc hpr hgo fun a y hg h=>by
  obtain⟨n,hn⟩:=ok a y hg h;exact⟨n,9,n,(heq n a).trans hn⟩
theorem specL{h:BtsOK P B}(hc:B.fns.mp (fun f fn=>match fn.body with | some c=>okC fn.ntmps B.tbl f c | none=>true)=B.fns.mp fun _ _=>true){pr:Prims}(hpr:PrimOK P B.tbl h.sound pr)
 {f:Nat} {α ρ:Type} {d:Dec α} {e:Dec ρ} {g:α→Option ρ} (X:α→Option ρ) (hgo:(B.go.get f).isSome=true) (heq:∀fu a,shFn B.tbl pr (shN B.tbl pr fu 9) fu f (d.enc a) e.dec=X a)
 (ok:∀a y,d.good a→g a=some y→X a=some y):Ok1 P B.tbl h.sound f (prim d e g) :=
 prim_ok hc hpr hgo fun a y hg h=>⟨0,9,0,(heq 0 a).trans (ok a y hg h)⟩
theorem fnL{h:BtsOK P B}(hc:B.fns.mp (fun f fn=>match fn.body with | some c=>okC fn.ntmps B.tbl f c | none=>true)=B.fns.mp fun _ _=>true){pr:Prims}(hpr:PrimOK P B.tbl h.sound pr)
 {f:Nat} {α ρ:Type} {d:Dec α} {e:Dec ρ} {g:α→Option ρ} (hgo:(B.go.get f).isSome=true) (heq:∀fu a,shFn B.tbl pr (shN B.tbl pr fu 9) fu f (d.enc a) e.dec=g a):Ok1 P B.tbl h.sound f (prim d e g) :=
 prim_ok hc hpr hgo fun a y _ h=>⟨0,9,0,(heq 0 a).trans h⟩
end
end Su
end
section
namespace Su
open Go Fly
noncomputable section
def pParts  (f:Int):Option (Bool×Int×Int) :=
 some ((decide ((Int.fdiv f (2^63))=1)),(IntKind.wrap .i64 (Fly.bitv Go.BinOp.and .u64 (Int.fdiv f (2^52)) 2047)),(Fly.bitv Go.BinOp.and .u64 f 4503599627370495))
def pMake  (neg:Bool)(exp:Int)(frac:Int):Option (Int×Int) :=
 (bif(decide (exp<0))then
 some ((0:Int),(1:Int))
 else
  (bif(decide (2047<exp))then
  some ((0:Int),(1:Int))
 else
  (bif(decide (4503599627370495<frac))then
  some ((0:Int),(1:Int))
 else
  (bif neg then
  some ((Fly.bitv Go.BinOp.or .u64 (Fly.bitv Go.BinOp.or .u64 (IntKind.wrap .u64 ((IntKind.wrap .u64 exp)*(2^52))) frac) 9223372036854775808),(0:Int))
 else
  some ((Fly.bitv Go.BinOp.or .u64 (IntKind.wrap .u64 ((IntKind.wrap .u64 exp)*(2^52))) frac),(0:Int))))))
def pParts_s(f:Int):Option (Bool×Int×Int):=some (bS f.toNat,((bK f.toNat / 4503599627370496:Nat):Int),((f.toNat % 4503599627370496:Nat):Int))
theorem fd63(f:Nat)(h:f<18446744073709551616):decide (Int.fdiv (f:Int) (2^63)=1)=bS f:=by
 rw[fd_pow];refine bB ?_
 rw[bS_iff];constructor
 · intro h;have:f / 2^63=1:=by omega
   rw[this];rfl
 · intro h;omega
theorem expOf(f:Nat)(h:f<18446744073709551616):IntKind.i64.wrap (bitv .and .u64 (Int.fdiv (f:Int) (2^52)) 2047)=((bK f / 4503599627370496:Nat):Int):=by
 have h1:=bv_mask (f / 2^52) 2047 11 rfl (by omega) (by omega)
 rw[fd_pow,show(2047:Int)=((2047:Nat):Int) from rfl,h1];unfold bK;rw[w64 (by omega) (by omega)]
 congr 1;omega
theorem fracOf(f:Nat)(h:f<18446744073709551616):bitv .and .u64 (f:Int) 4503599627370495=((f % 4503599627370496:Nat):Int):=bv_mask f 4503599627370495 52 rfl h (by omega)
theorem pParts_ok(f:Int)(y:Bool×Int×Int)(hg:(d1 (cI .u64)).good f)(h:pParts_s f=some y):pParts f=some y:=by
 obtain⟨n,rfl,hn⟩:=asN64 hg;have:=soi h;subst this
 unfold pParts;rw[fd63 n hn,expOf n hn,fracOf n hn,qb]
def pMake_s(p:Bool×Int×Int):Option (Int×Int):=bif decide (0≤p.2.1)&&decide (p.2.1≤2047)&&decide (p.2.2≤4503599627370495)then some (((sgN p.1+4503599627370496*p.2.1.toNat+p.2.2.toNat:Nat):Int),0)else some (0,1)
theorem pMake_ok(p:Bool×Int×Int)(y:Int×Int)(hg:(dc cB (dc (cI .i64) (d1 (cI .u64)))).good p)(h:pMake_s p=some y):pMake p.1 p.2.1 p.2.2=some y:=by
 obtain⟨neg,e,fr⟩:=p;obtain⟨_,he,hf⟩:=hg;have he:=inR_i64.1 he;obtain⟨F,rfl,hF⟩:=asN64 hf;unfold pMake_s at h;unfold pMake;simp only[]at h ⊢;by_cases h1:e<0
 · rw[qm (show¬(0:Int)≤e by omega)]at h
   rw[qc h1];exact h
 · rw[qc (show(0:Int)≤e by omega)]at h
   rw[qm h1,qh];by_cases h2:2047<e
   · rw[qm (show¬e≤2047 by omega)]at h
     rw[qc h2];exact h
   · rw[qc (show e≤2047 by omega)]at h
     rw[qm h2,qh];by_cases h3:(4503599627370495:Int)<(F:Int)
     · rw[qm (show¬(F:Int)≤4503599627370495 by omega)]at h
       rw[qc h3];exact h
     · rw[qc (show(F:Int)≤4503599627370495 by omega)]at h
       rw[qm h3,qh];obtain⟨E,rfl⟩:∃E:Nat,e=(E:Int):=⟨e.toNat,by omega⟩
       have e1:IntKind.u64.wrap (E:Int)=(E:Int):=wu64 (by omega) (by omega)
       have e2:IntKind.u64.wrap ((E:Int)*2^52)=((E*2^52:Nat):Int):=by
        rw[show(2:Int)^52=((2^52:Nat):Int) from rfl,← yj];exact wu64 (by omega) (by omega)
       have e3:bitv .or .u64 ((E*2^52:Nat):Int) (F:Int)=((E*2^52+F:Nat):Int):=by
        rw[bitv_or _ _ (by omega) hF,or_high (by omega)]
       rw[e1,e2,e3];have h:=soi h;subst h;cases neg with
       | true=>
        rw[qe,bv_sign _ (by omega)];simp[sgN];omega
       | false=>simp[sgN];omega
end
end Su
end
section
namespace Su
open Go Fly
noncomputable section
def pClass  (f:Int):Option Int :=
 (bif(decide (((((bK f.toNat) / 4503599627370496):Nat):Int)=2047))then
 (bif(decide ((((f.toNat % 4503599627370496):Nat):Int)=0))then
 some 3
 else
  (bif(decide (((((bK f.toNat) / 4503599627370496):Nat):Int)=2047))then
  some 4
 else
  (bif(decide (((((bK f.toNat) / 4503599627370496):Nat):Int)=0))then
  (bif(decide ((((f.toNat % 4503599627370496):Nat):Int)=0))then
  some 0
 else
  (bif(decide (((((bK f.toNat) / 4503599627370496):Nat):Int)=0))then
  some 1
 else
  some 2))
 else
  (bif(decide (((((bK f.toNat) / 4503599627370496):Nat):Int)=0))then
  some 1
 else
  some 2))))
 else
  (bif(decide (((((bK f.toNat) / 4503599627370496):Nat):Int)=2047))then
  some 4
 else
  (bif(decide (((((bK f.toNat) / 4503599627370496):Nat):Int)=0))then
  (bif(decide ((((f.toNat % 4503599627370496):Nat):Int)=0))then
  some 0
 else
  (bif(decide (((((bK f.toNat) / 4503599627370496):Nat):Int)=0))then
  some 1
 else
  some 2))
 else
  (bif(decide (((((bK f.toNat) / 4503599627370496):Nat):Int)=0))then
  some 1
 else
  some 2))))
def pInf  (neg:Bool):Option Int :=
 some (((((sgN neg)+(4503599627370496*(Int.toNat 2047)))+(Int.toNat 0)):Nat):Int)
def pClass_s(f:Int):Option Int:=some (clsK (bK f.toNat):Int)
theorem pClass_ok(f:Int)(y:Int)(hg:(d1 (cI .u64)).good f)(h:pClass_s f=some y):pClass f=some y:=by
 obtain⟨n,rfl,hn⟩:=asN64 hg;have:=soi h;subst this
 unfold pClass;have hk:bK n=bK n / 4503599627370496*4503599627370496+n % 4503599627370496:=by unfold bK;omega
 have he:bK n / 4503599627370496≤2047:=by have:=bK_lt n;omega
 have hf:n % 4503599627370496<4503599627370496:=jM _ (by decide)
 have hc:clsK (bK n)=_:=(congrArg clsK hk).trans (clsK_eq he hf)
 rw[qb,hc];generalize bK n / 4503599627370496=e at *
 generalize n % 4503599627370496=f at *
 rw[show(2047:Int)=((2047:Nat):Int) from rfl,show(0:Int)=((0:Nat):Int) from rfl];simp only[nat_eq,cond_dec];by_cases h1:e=2047
 · by_cases h2:f=0 <;> simp[h1,h2]
 · by_cases h3:e=0
   · by_cases h2:f=0 <;> simp[h3,h2]
   · simp[h1,h3]
def pInf_s(neg:Bool):Option Int:=some ((sgN neg+9218868437227405312:Nat):Int)
theorem pInf_ok(neg:Bool)(y:Int)(hg:(d1 cB).good neg)(h:pInf_s neg=some y):pInf neg=some y:=by
 have:=soi h;subst this
 cases neg <;> rfl
end
end Su
end
section
namespace Su
open Go Fly
noncomputable section
def pSplit  (f:Int):Option (Int×Int) :=
 (bif(decide ((((clsK (bK f.toNat)):Nat):Int)=2))then
 some ((Fly.bitv Go.BinOp.or .u64 4503599627370496 (((f.toNat % 4503599627370496):Nat):Int)),(IntKind.wrap .i64 (((((bK f.toNat) / 4503599627370496):Nat):Int)-1075)))
 else
  (bif(decide ((((clsK (bK f.toNat)):Nat):Int)=1))then
  some ((((f.toNat % 4503599627370496):Nat):Int),(-1074))
 else
  some ((0:Int),(0:Int))))
def pNan  (f:Int):Option Bool :=
 some (decide ((((clsK (bK f.toNat)):Nat):Int)=4))
def pSplit_s(f:Int):Option (Int×Int):=some ((spM (bK f.toNat):Int),spE (bK f.toNat))
theorem pSplit_ok(f:Int)(y:Int×Int)(hg:(d1 (cI .u64)).good f)(h:pSplit_s f=some y):pSplit f=some y:=by
 obtain⟨n,rfl,hn⟩:=asN64 hg;have:=soi h;subst this
 unfold pSplit;rw[qb];have hk:bK n % 4503599627370496=n % 4503599627370496:=by unfold bK;omega
 have hl:=bK_lt n;rw[← hk];generalize bK n=k at *
 have h2:decide (((clsK k:Nat):Int)=2)=decide (4503599627370496≤k∧k≤9218868437227405311):=by
  rw[show(2:Int)=((2:Nat):Int) from rfl,cls_is,clsK_val]
  (repeat' split) <;> simp <;> omega
 have h1:decide (((clsK k:Nat):Int)=1)=decide (0<k∧k<4503599627370496):=by
  rw[show(1:Int)=((1:Nat):Int) from rfl,cls_is,clsK_val]
  (repeat' split) <;> simp <;> omega
 rw[h2,h1];unfold spM spE;by_cases c2:4503599627370496≤k∧k≤9218868437227405311
 · have hf:finK k=true:=finK_iff.2 (by omega)
   have e1:bitv .or .u64 4503599627370496 ((k % 4503599627370496:Nat):Int)=((kM k:Nat):Int):=by
    have:=bitv_or 4503599627370496 (k % 4503599627370496) (by omega) (by omega)
    rw[show((4503599627370496:Nat):Int)=4503599627370496 from rfl]at this;rw[this];have h3:=or_high (x:=k % 4503599627370496) (y:=1) (r:=52) (by omega)
    rw[show(1*2^52:Nat)=4503599627370496 from rfl]at h3;rw[h3];unfold kM;rw[qM (by omega)];omega
   rw[qc c2,qe,e1,hf,w64 (by omega) (by omega),beq_dec,qm (by omega)];simp only[qe,yG,qY];unfold kE
   congr 2;omega
 · rw[qm c2,qh]
   by_cases c1:0<k∧k<4503599627370496
   · have hf:finK k=true:=finK_iff.2 (by omega)
     rw[qc c1,qe,hf,beq_dec,qm (by omega)];simp only[qe,yG,qY];unfold kE kM;rw[qU (by omega),show k / 4503599627370496=0 by omega];rfl
   · rw[qm c1,qh]
     by_cases c0:k=0
     · subst c0;rfl
     · have hf:finK k=false:=finK_not.2 (by omega)
       rw[hf];rfl
def pNan_s(f:Int):Option Bool:=some (nanK (bK f.toNat))
theorem pNan_ok(f:Int)(y:Bool)(hg:(d1 (cI .u64)).good f)(h:pNan_s f=some y):pNan f=some y:=by
 have:=soi h;subst this
 unfold pNan;rw[cls_nan]
end
end Su
end
section
namespace Su
open Go Fly
noncomputable section
def pAbs  (f:Int):Option Int :=
 (bif(nanK (bK f.toNat))then
 some f
 else
  some (Fly.bitv Go.BinOp.andNot .u64 f 9223372036854775808))
def pAbs_s(f:Int):Option Int:=some (absF f.toNat:Int)
theorem pAbs_ok(f:Int)(y:Int)(hg:(d1 (cI .u64)).good f)(h:pAbs_s f=some y):pAbs f=some y:=by
 obtain⟨n,rfl,hn⟩:=asN64 hg;have:=soi h;subst this
 unfold pAbs absF;rw[qb,bv_nosign n hn];cases nanK (bK n) <;> rfl
end
end Su
end
section
namespace Su
open Go Fly
noncomputable section
def At  (a:(List Int))(i:Int):Option Int :=
 (bif(decide (i<(List.length a:Int)))then
 (idx a i).bind fun x0=>
 some (IntKind.wrap .u64 x0)
 else
  some 0)
end
end Su
end
section
namespace Su
open Go Fly
noncomputable section
def Trim_l1:Stp ((List Int)×Unit):=fun p0=>(bif(decide (0<(List.length p0.1:Int)))then
 (idx p0.1 (IntKind.wrap .i64 ((List.length p0.1:Int)-1))).bind fun x1=>
 (bif(decide (x1=0))then
 (bif(true&&((true&&(decide (0≤(IntKind.wrap .i64 ((List.length p0.1:Int)-1)))))&&(decide ((IntKind.wrap .i64 ((List.length p0.1:Int)-1))≤(List.length p0.1:Int)))))then
 some (.inl ((List.take (Int.toNat ((IntKind.wrap .i64 ((List.length p0.1:Int)-1))-0)) (List.drop 0 p0.1)),()))
 else none)
 else
  some (.inr (p0.1,())))
 else
  some (.inr (p0.1,())))
def Trim  (fu:Nat)(a:(List Int)):Option (List Int) :=
 (itP fu (Trim_l1) (a,())).bind fun x2=>
 some x2.1
def valN:List Int→Nat
 | []=>0
 | x::l=>x.toNat+4294967296*valN l
def ofF:Nat→Nat→List Int
 | 0,_=>[]
 | k+1,n=>if n=0 then[]else((n % 4294967296:Nat):Int)::ofF k (n / 4294967296)
def ofN(n:Nat):List Int:=ofF (n.log2 / 32+1) n
theorem ofF_eq:∀(k j n:Nat),n<4294967296^k→n<4294967296^j→ofF k n=ofF j n
 | 0,0,_,_,_=>rfl
 | 0,j+1,n,h,_=>by
  have:n=0:=by simpa using h
  subst this;rfl
 | k+1,0,n,_,h=>by
  have:n=0:=by simpa using h
  subst this;rfl
 | k+1,j+1,n,h1,h2=>by
  unfold ofF;by_cases h0:n=0
  · simp[h0]
  · simp only[h0,zF]
    rw[ofF_eq k j (n / 4294967296)]
    · rw[qQ]at h1;exact yI (by rw[qA];exact h1)
    · rw[qQ]at h2;exact yI (by rw[qA];exact h2)
theorem lt_fuel(n:Nat):n<4294967296^(n.log2 / 32+1):=by
 have h:=@Nat.lt_log2_self n
 have e:(4294967296:Nat)^(n.log2 / 32+1)=2^(32*(n.log2 / 32+1)):=by rw[Nat.pow_mul]
 rw[e];exact jg h (qT (by omega) (by omega))
theorem ofN_zero:ofN 0=[]:=rfl
theorem ofN_step{n:Nat}(h:n≠0):ofN n=((n % 4294967296:Nat):Int)::ofN (n / 4294967296):=by
 have:ofN n=ofF (n.log2 / 32+1) n:=rfl
 rw[this];unfold ofF;rw[qM h]
 congr 1
 have hl:=lt_fuel n;rw[qQ]at hl;exact ofF_eq _ _ _ (yI (by rw[qA];exact hl)) (lt_fuel _)
def Wd(l:List Int):Prop:=∀x∈l,0≤x∧x<4294967296
theorem Wd.nil:Wd []:=fun _ h=>by cases h
theorem Wd.cons{x:Int}{l:List Int}(h0:0≤x)(h1:x<4294967296)(h:Wd l):Wd (x::l):=fun y hy=>by
 rcases qJ.1 hy with rfl | hy
 · exact⟨h0,h1⟩
 · exact h y hy
theorem Wd.tail{x:Int}{l:List Int}(h:Wd (x::l)):Wd l:=fun y hy=>h y (qt _ hy)
theorem Wd.head{x:Int}{l:List Int}(h:Wd (x::l)):0≤x∧x<4294967296:=h x (qz ..)
theorem Wd.app{a b:List Int}(h:Wd a)(h':Wd b):Wd (a++b):=fun x hx=>by
 rcases qZ.1 hx with hx | hx
 · exact h x hx
 · exact h' x hx
theorem Wd.left{a b:List Int}(h:Wd (a++b)):Wd a:=fun x hx=>h x (jH _ hx)
theorem Wd.right{a b:List Int}(h:Wd (a++b)):Wd b:=fun x hx=>h x (yw _ hx)
theorem Wd.of{l:List Int}(h:∀x∈l,gU 1 x):Wd l:=fun x hx=>inR_u32.1 (h x hx)
theorem valN_app:∀(a b:List Int),valN (a++b)=valN a+4294967296^a.length*valN b
 | [],b=>by simp[valN]
 | x::a,b=>by simp only[jX,valN,valN_app a b,qy,qQ];rw[jy,← qx,qA 4294967296 (4294967296^a.length)];omega
theorem ofN_cons{x:Int}{n:Nat}(h0:0≤x)(h1:x<4294967296)(h:x.toNat+4294967296*n≠0):ofN (x.toNat+4294967296*n)=x::ofN n:=by
 rw[ofN_step h];have e1:(x.toNat+4294967296*n) % 4294967296=x.toNat:=by omega
 have e2:(x.toNat+4294967296*n) / 4294967296=n:=by omega
 rw[e1,e2]
 congr 1;omega
theorem valN_ofF:∀(k n:Nat),n<4294967296^k→valN (ofF k n)=n
 | 0,n,h=>by
  have:n=0:=by simpa using h
  subst this;rfl
 | k+1,n,h=>by
  unfold ofF;by_cases h0:n=0
  · simp[h0,valN]
  · simp only[h0,zF,valN]
    rw[valN_ofF k _ (by rw[qQ]at h;exact yI (by rw[qA];exact h))];omega
@[simp] theorem valN_ofN (n:Nat):valN (ofN n)=n:=valN_ofF _ _ (lt_fuel n)
theorem Wd_ofF:∀(k n:Nat),Wd (ofF k n)
 | 0,_=>.nil
 | k+1,n=>by
  unfold ofF;split
  · exact .nil
  · exact .cons (by omega) (by omega) (Wd_ofF k _)
theorem Wd_ofN(n:Nat):Wd (ofN n):=Wd_ofF _ _
theorem ofN_val:∀(l:List Int),Wd l→l.getLast?≠some 0→ofN (valN l)=l
 | [],_,_=>rfl
 | [x],h,hl=>by
  have:=h.head
  have hx:x≠0:=fun e=>hl (by simp[e])
  simp only[valN,yh];have:=ofN_cons (x:=x) (n:=0) this.1 this.2 (by omega)
  simpa[ofN_zero]using this
 | x::y::l,h,hl=>by
  have hl':(y::l).getLast?≠some 0:=by rwa [List.getLast?_cons_cons]at hl
  have ih:=ofN_val (y::l) h.tail hl'
  have hnz:valN (y::l)≠0:=fun e=>by rw[e,ofN_zero]at ih;cases ih
  show ofN (x.toNat+4294967296*valN (y::l))=_
  rw[ofN_cons h.head.1 h.head.2 (by omega),ih]
theorem val_zero_end(l:List Int):valN (l++[0])=valN l:=by rw[valN_app];simp[valN]
theorem trim_loop(q:Unit):∀(k:Nat) (l:List Int),l.length=k→Wd l→k≤maxLen→∃n,itP n Trim_l1 (l,q)=some (ofN (valN l),q)
 | 0,l,hk,_,_=>by
  have:=jt.1 hk;subst this
  exact it_end (by simp[Trim_l1,valN,ofN_zero])
 | k+1,l,hk,hw,hm=>by
  rw[maxLen_eq]at hm;rcases yU l with rfl | ⟨l',x,rfl⟩
  · simp at hk
  · simp only[yV,qq,qy,jc]at hk hw ⊢
    have hlen:l'.length=k:=by omega
    have hx:=hw.right.head;have e1:IntKind.i64.wrap (((l'++[x]).length:Int)-1)=(l'.length:Int):=by rw[w64] <;> simp <;> omega
    by_cases h0:x=0
    · subst h0
      refine it_next (s':=(l',q)) ?_ (by rw[val_zero_end];exact trim_loop q k l' hlen hw.left (by rw[maxLen_eq];omega))
      simp only[Trim_l1,e1];simp[idx_nat];rw[qc (by omega)];rfl
    · have hv:ofN (valN (l'++[x]))=l'++[x]:=ofN_val _ hw (by simp[h0])
      rw[hv];refine it_end ?_
      simp only[Trim_l1,e1];simp[idx_nat,h0]
def Trim_s(a:List Int):Option (List Int):=some (ofN (valN a))
theorem Trim_ok(a y:List Int)(hg:(d1 (cQ 1 1)).good a)(h:Trim_s a=some y):∃n,Trim n a=some y:=by
 obtain⟨n,hn⟩:=trim_loop () a.length a rfl (Wd.of hg.1) hg.2
 refine⟨n,?_⟩
 have:=soi h;subst this
 unfold Trim;rw[hn];rfl
end
end Su
end
section
namespace Su
open Go Fly
noncomputable section
def Add_l1:Stp ((List Int)×(List Int)×Nat×Int×Int×Int×(List T)×Unit):=fun p0=>(bif(decide (p0.2.2.2.2.2.1<p0.2.2.2.2.1))then
 (At p0.1 p0.2.2.2.2.2.1).bind fun x1=>
 (At p0.2.1 p0.2.2.2.2.2.1).bind fun x2=>
 (bif((true&&(Nat.beq p0.2.2.1 p0.2.2.2.2.2.2.1.length))&&(Nat.ble (p0.2.2.2.2.2.2.1.length+(List.length [(T.s (.int .u32 (IntKind.wrap .u32 (IntKind.wrap .u64 (p0.2.2.2.1+(IntKind.wrap .u64 (x1+x2)))))))])) 549755813888))then
 some (.inl (p0.1,p0.2.1,(List.length (p0.2.2.2.2.2.2.1++[(T.s (.int .u32 (IntKind.wrap .u32 (IntKind.wrap .u64 (p0.2.2.2.1+(IntKind.wrap .u64 (x1+x2)))))))])),(Int.fdiv (IntKind.wrap .u64 (p0.2.2.2.1+(IntKind.wrap .u64 (x1+x2)))) (2^32)),p0.2.2.2.2.1,(IntKind.wrap .i64 (p0.2.2.2.2.2.1+1)),(p0.2.2.2.2.2.2.1++[(T.s (.int .u32 (IntKind.wrap .u32 (IntKind.wrap .u64 (p0.2.2.2.1+(IntKind.wrap .u64 (x1+x2)))))))]),()))
 else none)
 else
  some (.inr (p0.1,p0.2.1,p0.2.2.1,p0.2.2.2.1,p0.2.2.2.2.1,p0.2.2.2.2.2.1,p0.2.2.2.2.2.2.1,())))
def Add  (fu:Nat)(a:(List Int))(b:(List Int)):Option (List Int) :=
 (itP fu (Add_l1) (a,b,0,(0:Int),(max (List.length a:Int) (List.length b:Int)),(0:Int),[],())).bind fun x3=>
 (bif((true&&(Nat.beq x3.2.2.1 x3.2.2.2.2.2.2.1.length))&&(Nat.ble (x3.2.2.2.2.2.2.1.length+(List.length [(T.s (.int .u32 (IntKind.wrap .u32 x3.2.2.2.1)))])) 549755813888))then
 (Su.sub (x3.2.2.2.2.2.2.1++[(T.s (.int .u32 (IntKind.wrap .u32 x3.2.2.2.1)))]) 0 (List.length (x3.2.2.2.2.2.2.1++[(T.s (.int .u32 (IntKind.wrap .u32 x3.2.2.2.1)))]))).bind fun x4=>
 (Su.sub (x3.2.2.2.2.2.2.1++[(T.s (.int .u32 (IntKind.wrap .u32 x3.2.2.2.1)))]) 0 (List.length (x3.2.2.2.2.2.2.1++[(T.s (.int .u32 (IntKind.wrap .u32 x3.2.2.2.1)))]))).bind fun x5=>
 ((unviews 1 x4).bind fun x6=>
 some (ofN (valN x6))).bind fun x7=>
 some x7
 else none)
def Cmp_l1:((List Int)×(List Int)×Int×Unit)→Option (((List Int)×(List Int)×Int×Unit) ⊕ (Lp ((List Int)×(List Int)×Int×Unit) Int)):=fun p0=>(bif(decide (0≤p0.2.2.1))then
 (At p0.1 p0.2.2.1).bind fun x1=>
 (At p0.2.1 p0.2.2.1).bind fun x2=>
 (bif(!(decide (x1=x2)))then
 (bif(decide (x1<x2))then
 some (.inr (.ret (-1)))
 else
  some (.inr (.ret 1)))
 else
  some (.inl (p0.1,p0.2.1,(IntKind.wrap .i64 (p0.2.2.1-1)),())))
 else
  some (.inr (.exit 0 (p0.1,p0.2.1,p0.2.2.1,()))))
def Cmp  (fu:Nat)(a:(List Int))(b:(List Int)):Option Int :=
 (itP fu (Cmp_l1) (a,b,(IntKind.wrap .i64 ((max (List.length a:Int) (List.length b:Int))-1)),())).bind fun x3=>
 (match x3 with
 | .exit i4 p5=>(bif(Nat.beq i4 0)then
  some 0
 else none)
 | .ret o6=>some o6)
def New  (x:Int):Option (List Int) :=
 some (ofN (valN [(IntKind.wrap .u32 x),(IntKind.wrap .u32 (Int.fdiv x (2^32)))]))
def Len32_t1:ByteArray:=⟨⟨[0,1,2,2,3,3,3,3,4,4,4,4,4,4,4,4,5,5,5,5,5,5,5,5,5,5,5,5,5,5,5,5,6,6,6,6,6,6,6,6,6,6,6,6,6,6,6,6,6,6,6,6,6,6,6,6,6,6,6,6,6,6,6,6,7,7,7,7,7,7,7,7,7,7,7,7,7,7,7,7,7,7,7,7,7,7,7,7,7,7,7,7,7,7,7,7,7,7,7,7,7,7,7,7,7,7,7,7,7,7,7,7,7,7,7,7,7,7,7,7,7,7,7,7,7,7,7,7,8,8,8,8,8,8,8,8,8,8,8,8,8,8,8,8,8,8,8,8,8,8,8,8,8,8,8,8,8,8,8,8,8,8,8,8,8,8,8,8,8,8,8,8,8,8,8,8,8,8,8,8,8,8,8,8,8,8,8,8,8,8,8,8,8,8,8,8,8,8,8,8,8,8,8,8,8,8,8,8,8,8,8,8,8,8,8,8,8,8,8,8,8,8,8,8,8,8,8,8,8,8,8,8,8,8,8,8,8,8,8,8,8,8,8,8,8,8,8,8,8,8,8,8,8,8,8,8]⟩⟩
def Len32  (x:Int):Option Int :=
 (bif(decide (65536≤x))then
 (bif(decide (256≤(Int.fdiv x (2^16))))then
 (bif(decide (0≤(IntKind.wrap .u8 (Int.fdiv (Int.fdiv x (2^16)) (2^8)))))then
 ((Len32_t1)[(Int.toNat (IntKind.wrap .u8 (Int.fdiv (Int.fdiv x (2^16)) (2^8))))]?).bind fun x0=>
 some (IntKind.wrap .i64 ((IntKind.wrap .i64 (16+8))+(IntKind.wrap .i64 (UInt8.toNat x0:Int))))
 else none)
 else
  (bif(decide (0≤(IntKind.wrap .u8 (Int.fdiv x (2^16)))))then
  ((Len32_t1)[(Int.toNat (IntKind.wrap .u8 (Int.fdiv x (2^16))))]?).bind fun x1=>
  some (IntKind.wrap .i64 (16+(IntKind.wrap .i64 (UInt8.toNat x1:Int))))
 else none))
 else
  (bif(decide (256≤x))then
  (bif(decide (0≤(IntKind.wrap .u8 (Int.fdiv x (2^8)))))then
  ((Len32_t1)[(Int.toNat (IntKind.wrap .u8 (Int.fdiv x (2^8))))]?).bind fun x2=>
  some (IntKind.wrap .i64 ((IntKind.wrap .i64 (0+8))+(IntKind.wrap .i64 (UInt8.toNat x2:Int))))
 else none)
 else
  (bif(decide (0≤(IntKind.wrap .u8 x)))then
  ((Len32_t1)[(Int.toNat (IntKind.wrap .u8 x))]?).bind fun x3=>
  some (IntKind.wrap .i64 (0+(IntKind.wrap .i64 (UInt8.toNat x3:Int))))
 else none)))
def nth(a:List Int)(i:Nat):Int:=a[i]?.getD 0
theorem nth_wd{a:List Int}(h:Wd a)(i:Nat):0≤nth a i∧nth a i<4294967296:=by
 unfold nth;cases hi:a[i]? with
 | none=>exact⟨zE _,by decide⟩
 | some x=>exact h x (jo hi)
theorem At_eq'{a:List Int}(h:Wd a)(i:Nat):At a (i:Int)=some (nth a i):=by
 unfold At nth;by_cases hi:i<a.length
 · have hx:=h a[i] (List.getElem_mem hi)
   have e:((i:Int)<(a.length:Int)):=by omega
   simp only[idx_nat,qu hi,qc e,qe,qf,Option.getD_some];rw[wu64 hx.1 (by omega)]
 · have e : ¬((i:Int)<(a.length:Int)):=by omega
   rw[ja (by omega),qm e];rfl
theorem valN_nth(a:List Int)(i:Nat):valN (a.take (i+1))=valN (a.take i)+4294967296^i*(nth a i).toNat:=by
 unfold nth;by_cases hi:i<a.length
 · rw[List.take_succ_eq_append_getElem hi,valN_app,qu hi]
   simp[valN,qK,jV (yu hi)]
 · rw[qC (by omega),qC (by omega),ja (by omega)];simp
theorem sub_all(l:List T):sub l 0 l.length=some l:=by
 unfold sub;rw[show Nat.ble (0+l.length) l.length=true by rw[yy];omega];simp
theorem unviews_w(l:List Int):unviews 1 (l.map fun x=>T.s (.int .u32 x))=some l:=unviews_map (u:=1) (by decide) l
abbrev eW(x:Int):T:=T.s (.int .u32 x)
theorem add_loop(a b:List Int)(ha:Wd a)(hb:Wd b)(N:Nat)(hN:N≤549755813887):∀(k i:Nat) (out:List Int) (c:Int),i+k=N→out.length=i→Wd out→0≤c→c≤1 →
 valN out+4294967296^i*c.toNat=valN (a.take i)+valN (b.take i) →
 ∃(out':List Int) (c':Int),out'.length=N∧Wd out'∧0≤c'∧c'≤1∧valN out'+4294967296^N*c'.toNat=valN (a.take N)+valN (b.take N) ∧
  ∃n,itP n Add_l1 (a,b,i,c,(N:Int),(i:Int),out.map eW,())=some (a,b,N,c',(N:Int),(N:Int),out'.map eW,())
 | 0,i,out,c,hk,ho,hw,hc0,hc1,hv=>by
  have:i=N:=by omega
  subst this;exact⟨out,c,ho,hw,hc0,hc1,hv,it_end (by simp[Add_l1])⟩
 | k+1,i,out,c,hk,ho,hw,hc0,hc1,hv=>by
  have hi:(i:Int)<N:=by omega
  obtain⟨x0,x1⟩:=nth_wd ha i;obtain⟨y0,y1⟩:=nth_wd hb i;have e1:IntKind.u64.wrap (nth a i+nth b i)=nth a i+nth b i:=wu64 (by omega) (by omega)
  have e2:IntKind.u64.wrap (c+(nth a i+nth b i))=c+(nth a i+nth b i):=wu64 (by omega) (by omega)
  have e3:IntKind.i64.wrap ((i:Int)+1)=((i+1:Nat):Int):=by rw[w64 (by omega) (by omega)];rfl
  obtain⟨s,hs⟩:∃s:Nat,c+(nth a i+nth b i)=(s:Int):=⟨(c+(nth a i+nth b i)).toNat,by omega⟩
  have e6:IntKind.u64.wrap (s:Int)=(s:Int):=wu64 (by omega) (by omega)
  have e4:IntKind.u32.wrap (s:Int)=((s % 4294967296:Nat):Int):=by rw[wrap_u32];omega
  have e5:Int.fdiv (s:Int) (2^32)=((s / 4294967296:Nat):Int):=by
   rw[jY _ (by decide)];rfl
  obtain⟨out',c',h1,h2,h3,h4,h5,h6⟩:=add_loop a b ha hb N hN k (i+1) (out++[((s % 4294967296:Nat):Int)]) ((s / 4294967296:Nat):Int) (by omega) (by simp[ho])
   (hw.app (.cons (by omega) (by omega) .nil)) (by omega) (by omega) (by
     rw[valN_app,valN_nth,valN_nth,ho];simp only[valN,yh,jx,qb];have hp:4294967296^(i+1)*(s / 4294967296)+4294967296^i*(s % 4294967296)=4294967296^i*s:=by
      rw[qQ,qx,← jy];congr 1;omega
     have hq:4294967296^i*s=4294967296^i*c.toNat+4294967296^i*(nth a i).toNat+4294967296^i*(nth b i).toNat:=by
      rw[← jy,← jy];congr 1;omega
     omega)
  refine⟨out',c',h1,h2,h3,h4,h5,it_next ?_ h6⟩
  simp only[Add_l1,At_eq' ha,At_eq' hb,qf,e1,e3,hs,e6,e4,e5,qc hi,qe];have hb1:Nat.beq i (out.map eW).length=true:=by rw[qD,ho];exact yg _
  have hb2:Nat.ble ((out.map eW).length+[eW ((s % 4294967296:Nat):Int)].length) 549755813888=true:=by
   rw[yy,qD,ho];simp;omega
  rw[hb1,hb2];simp[ho]
def sm(n:Nat):Bool:=Nat.ble n.log2 8796093022208
def Add_s(p:List Int×List Int):Option (List Int):=bif Nat.ble (max p.1.length p.2.length) 549755813887 then some (ofN (valN p.1+valN p.2))else none
theorem Add_ok(p:List Int×List Int)(y:List Int)(hg:(dc (cQ 1 1) (d1 (cQ 1 1))).good p)(h:Add_s p=some y):∃n,Add n p.1 p.2=some y:=by
 obtain⟨a,b⟩:=p;obtain⟨⟨ha,la⟩,hb,lb⟩:=hg;obtain⟨hm,h⟩:=bif_some h;have:=soi h;subst this
 have hm:=qn hm;obtain⟨out,c,h1,h2,h3,h4,h5,n,h6⟩:=add_loop a b (Wd.of ha) (Wd.of hb) (max a.length b.length) hm (max a.length b.length) 0 [] 0 (by omega) rfl .nil (by omega) (by omega) (by simp[valN])
 refine⟨n,?_⟩
 unfold Add;have em:max (a.length:Int) (b.length:Int)=((max a.length b.length:Nat):Int):=by omega
 rw[em];rw[show(a,b,0,(0:Int),((max a.length b.length:Nat):Int),(0:Int),([]:List T),())=(a,b,0,(0:Int),((max a.length b.length:Nat):Int),((0:Nat):Int),([]:List Int).map eW,()) from rfl,h6];simp only[qf];have e4:IntKind.u32.wrap c=c:=wu32 h3 (by omega)
 have hb1:Nat.beq (max a.length b.length) (out.map eW).length=true:=by rw[qD,h1];exact yg _
 have hb2:Nat.ble ((out.map eW).length+[eW c].length) 549755813888=true:=by
  rw[yy,qD,h1];simp;omega
 have hu:unviews 1 (out.map eW++[eW c])=some (out++[c]):=by
  have:=unviews_w (out++[c])
  rwa [jr]at this
 rw[e4,hb1,hb2];simp only[j7,qe,sub_all,qf,hu];have hv:valN (out++[c])=valN a+valN b:=by
  rw[valN_app,h1];simp only[valN,yh,jx];rw[h5,qC (by omega),qC (by omega)]
 show some (ofN (valN (out++[c])))=_
 rw[hv]
theorem cmp_step(a b x y B:Nat)(hx:a<B)(hy:b<B)(hne:x≠y):cmpI (a+B*x) (b+B*y)=if x<y then -1 else 1:=by
 unfold cmpI;by_cases h:x<y
 · have:B*x+B≤B*y:=by rw[← Nat.mul_succ];exact qI _ h
   rw[qU (by omega),qU h]
 · have:B*y+B≤B*x:=by rw[← Nat.mul_succ];exact qI _ (by omega)
   rw[qM (by omega),qM (by omega),qM h]
theorem valN_lt:∀(a:List Int),Wd a→valN a<4294967296^a.length
 | [],_=>by simp[valN]
 | x::a,h=>by
  have:=valN_lt a h.tail
  have:=h.head
  simp only[valN,qy,qQ];omega
theorem valN_take_lt{a:List Int}(h:Wd a)(i:Nat):valN (a.take i)<4294967296^i:=by
 have h1:=valN_lt (a.take i) (fun x hx=>h x (yJ hx))
 exact jg h1 (qT (by omega) (by rw[qK];omega))
def cmpRes(a b:List Int)(i:Nat)(o:Option (Lp (List Int×List Int×Int×Unit) Int)):Prop :=
 (cmpI (valN (a.take i)) (valN (b.take i))=0∧o=some (.exit 0 (a,b,-1,())))∨(cmpI (valN (a.take i)) (valN (b.take i))≠0∧o=some (.ret (cmpI (valN (a.take i)) (valN (b.take i)))))
theorem cmp_loop(a b:List Int)(ha:Wd a)(hb:Wd b):∀(i:Nat),i≤9223372036854775807→∃n,cmpRes a b i (itP n Cmp_l1 (a,b,(i:Int)-1,()))
 | 0,_=>⟨1,.inl ⟨by simp[cmpI,valN],by simp[itP,Cmp_l1]⟩⟩
 | i+1,hi=>by
  obtain⟨x0,x1⟩:=nth_wd ha i;obtain⟨y0,y1⟩:=nth_wd hb i;have e0:((i+1:Nat):Int)-1=(i:Int):=by omega
  rw[e0];have e3:IntKind.i64.wrap ((i:Int)-1)=(i:Int)-1:=w64 (by omega) (by omega)
  by_cases hxy:nth a i=nth b i
  · obtain⟨n,hn⟩:=cmp_loop a b ha hb i (by omega)
    refine⟨n+1,?_⟩
    have hst:Cmp_l1 (a,b,(i:Int),())=some (.inl (a,b,(i:Int)-1,())):=by
     simp[Cmp_l1,At_eq' ha,At_eq' hb,hxy,e3]
    rw[itP_s,hst];have he:cmpI (valN (a.take (i+1))) (valN (b.take (i+1)))=cmpI (valN (a.take i)) (valN (b.take i)):=by
     rw[valN_nth,valN_nth,hxy];unfold cmpI;simp
    unfold cmpRes at hn ⊢
    rw[he];exact hn
  · refine⟨1,.inr ?_⟩
    have he:=cmp_step (valN (a.take i)) (valN (b.take i)) (nth a i).toNat (nth b i).toNat (4294967296^i) (valN_take_lt ha i) (valN_take_lt hb i) (by omega)
    rw[← valN_nth,← valN_nth]at he;rw[he,itP_s];by_cases hlt:nth a i<nth b i
    · rw[qU (by omega)]
      exact⟨by decide,by simp[Cmp_l1,At_eq' ha,At_eq' hb,hxy,hlt]⟩
    · rw[qM (by omega)]
      exact⟨by decide,by simp[Cmp_l1,At_eq' ha,At_eq' hb,hxy,hlt]⟩
def Cmp_s(p:List Int×List Int):Option Int:=some (cmpI (valN p.1) (valN p.2))
theorem Cmp_ok(p:List Int×List Int)(y:Int)(hg:(dc (cQ 1 1) (d1 (cQ 1 1))).good p)(h:Cmp_s p=some y):∃n,Cmp n p.1 p.2=some y:=by
 obtain⟨a,b⟩:=p;obtain⟨⟨ha,la⟩,hb,lb⟩:=hg;have:=soi h;subst this
 have la':a.length≤9223372036854775807:=by have:=la;rw[maxLen_eq]at this;exact this
 have lb':b.length≤9223372036854775807:=by have:=lb;rw[maxLen_eq]at this;exact this
 have em:max (a.length:Int) (b.length:Int)=((max a.length b.length:Nat):Int):=by omega
 obtain⟨n,hn⟩:=cmp_loop a b (Wd.of ha) (Wd.of hb) (max a.length b.length) (by omega)
 refine⟨n,?_⟩
 unfold Cmp;rw[em,w64 (by omega) (by omega)];unfold cmpRes at hn;rw[qC (by omega),qC (by omega)]at hn;rcases hn with⟨h1,h2⟩ | ⟨h1,h2⟩
 · rw[h2,h1];rfl
 · rw[h2];rfl
end
end Su
end
section
namespace Su
open Go Fly
noncomputable section
def Len  (a:(List Int)):Option Int :=
 (bif(decide ((((List.length (ofN (valN a))):Nat):Int)=0))then
 some 0
 else
  (idx (ofN (valN a)) (IntKind.wrap .i64 ((((List.length (ofN (valN a))):Nat):Int)-1))).bind fun x0=>
  (Len32 x0).bind fun x1=>
  some (IntKind.wrap .i64 ((IntKind.wrap .i64 (32*(IntKind.wrap .i64 ((((List.length (ofN (valN a))):Nat):Int)-1))))+x1)))
def Bit  (a:(List Int))(i:Int):Option Int :=
 (bif(decide (i<0))then
 some 0
 else
  (bif(decide ((IntKind.wrap .i64 (32*(List.length a:Int)))≤i))then
  some 0
 else
  (idx a (IntKind.wrap .i64 (Int.tdiv i 32))).bind fun x0=>
  (bif(decide (0≤(Int.tmod i 32)))then
  some (IntKind.wrap .u64 (Fly.bitv Go.BinOp.and .u32 (Int.fdiv x0 (2^(min (Int.toNat (Int.tmod i 32)) 32))) 1))
 else none)))
def Mul_l2:Stp ((List Int)×Nat×(List Int)×Int×Int×Int×Int×Int×(List Int)×Int×Int×(List T)×Unit):=fun p2=>(bif(decide (p2.2.2.2.2.2.2.2.2.2.2.1<p2.2.2.2.2.2.2.2.2.2.1))then
 (idx p2.2.2.2.2.2.2.2.2.1 p2.2.2.2.2.2.2.2.2.2.2.1).bind fun x3=>
 (bif((true&&(decide (0≤(IntKind.wrap .i64 (p2.2.2.2.2.2.1+p2.2.2.2.2.2.2.2.2.2.2.1)))))&&(decide ((IntKind.wrap .i64 (p2.2.2.2.2.2.1+p2.2.2.2.2.2.2.2.2.2.2.1))<(p2.2.1:Int))))then
 ((p2.2.2.2.2.2.2.2.2.2.2.2.1)[(0+(Int.toNat (IntKind.wrap .i64 (p2.2.2.2.2.2.1+p2.2.2.2.2.2.2.2.2.2.2.1))))]?).bind fun x4=>
 (ldT x4 0 false 1).bind fun x5=>
 (asI .u32 (.t x5)).bind fun x6=>
 (bif((true&&(decide (0≤(IntKind.wrap .i64 (p2.2.2.2.2.2.1+p2.2.2.2.2.2.2.2.2.2.2.1)))))&&(decide ((IntKind.wrap .i64 (p2.2.2.2.2.2.1+p2.2.2.2.2.2.2.2.2.2.2.1))<(p2.2.1:Int))))then
 ((p2.2.2.2.2.2.2.2.2.2.2.2.1)[(0+(Int.toNat (IntKind.wrap .i64 (p2.2.2.2.2.2.1+p2.2.2.2.2.2.2.2.2.2.2.1))))]?).bind fun x7=>
 (asI .u32 (.t x7)).bind fun x8=>
 some (.inl (p2.1,p2.2.1,p2.2.2.1,p2.2.2.2.1,p2.2.2.2.2.1,p2.2.2.2.2.2.1,p2.2.2.2.2.2.2.1,(Int.fdiv (IntKind.wrap .u64 (p2.2.2.2.2.2.2.2.1+(IntKind.wrap .u64 ((IntKind.wrap .u64 ((IntKind.wrap .u64 p2.2.2.2.2.2.2.1)*(IntKind.wrap .u64 x3)))+(IntKind.wrap .u64 x6))))) (2^32)),p2.2.2.2.2.2.2.2.2.1,p2.2.2.2.2.2.2.2.2.2.1,(IntKind.wrap .i64 (p2.2.2.2.2.2.2.2.2.2.2.1+1)),(List.set p2.2.2.2.2.2.2.2.2.2.2.2.1 (0+(Int.toNat (IntKind.wrap .i64 (p2.2.2.2.2.2.1+p2.2.2.2.2.2.2.2.2.2.2.1)))) (T.s (.int .u32 (IntKind.wrap .u32 (IntKind.wrap .u64 (p2.2.2.2.2.2.2.2.1+(IntKind.wrap .u64 ((IntKind.wrap .u64 ((IntKind.wrap .u64 p2.2.2.2.2.2.2.1)*(IntKind.wrap .u64 x3)))+(IntKind.wrap .u64 x6))))))))),()))
 else none)
 else none)
 else
  some (.inr (p2.1,p2.2.1,p2.2.2.1,p2.2.2.2.1,p2.2.2.2.2.1,p2.2.2.2.2.2.1,p2.2.2.2.2.2.2.1,p2.2.2.2.2.2.2.2.1,p2.2.2.2.2.2.2.2.2.1,p2.2.2.2.2.2.2.2.2.2.1,p2.2.2.2.2.2.2.2.2.2.2.1,p2.2.2.2.2.2.2.2.2.2.2.2.1,())))
def Mul_l1(fu:Nat):Stp ((List Int)×Nat×(List Int)×Int×Int×(List T)×Unit):=fun p0=>(bif(decide (p0.2.2.2.2.1<p0.2.2.2.1))then
 (idx p0.2.2.1 p0.2.2.2.2.1).bind fun x1=>
 (itP fu (Mul_l2) (p0.1,p0.2.1,p0.2.2.1,p0.2.2.2.1,p0.2.2.2.2.1,p0.2.2.2.2.1,x1,(0:Int),p0.1,(List.length p0.1:Int),(0:Int),p0.2.2.2.2.2.1,())).bind fun x9=>
 (bif((true&&(decide (0≤(IntKind.wrap .i64 (x9.2.2.2.2.2.1+(List.length x9.1:Int))))))&&(decide ((IntKind.wrap .i64 (x9.2.2.2.2.2.1+(List.length x9.1:Int)))<(x9.2.1:Int))))then
 ((x9.2.2.2.2.2.2.2.2.2.2.2.1)[(0+(Int.toNat (IntKind.wrap .i64 (x9.2.2.2.2.2.1+(List.length x9.1:Int)))))]?).bind fun x10=>
 (asI .u32 (.t x10)).bind fun x11=>
 some (.inl (x9.1,x9.2.1,x9.2.2.1,x9.2.2.2.1,(IntKind.wrap .i64 (x9.2.2.2.2.1+1)),(List.set x9.2.2.2.2.2.2.2.2.2.2.2.1 (0+(Int.toNat (IntKind.wrap .i64 (x9.2.2.2.2.2.1+(List.length x9.1:Int))))) (T.s (.int .u32 (IntKind.wrap .u32 x9.2.2.2.2.2.2.2.1)))),()))
 else none)
 else
  some (.inr (p0.1,p0.2.1,p0.2.2.1,p0.2.2.2.1,p0.2.2.2.2.1,p0.2.2.2.2.2.1,())))
def Mul  (fu:Nat)(a:(List Int))(b:(List Int)):Option (List Int) :=
 (bif(((true&&(decide (0≤(IntKind.wrap .i64 ((List.length a:Int)+(List.length b:Int))))))&&(decide ((IntKind.wrap .i64 ((List.length a:Int)+(List.length b:Int)))≤(IntKind.wrap .i64 ((List.length a:Int)+(List.length b:Int))))))&&(decide ((IntKind.wrap .i64 ((List.length a:Int)+(List.length b:Int)))≤549755813888)))then
 (itP fu (Mul_l1 fu) (b,(Int.toNat (IntKind.wrap .i64 ((List.length a:Int)+(List.length b:Int)))),a,(List.length a:Int),(0:Int),(List.replicate (Int.toNat (IntKind.wrap .i64 ((List.length a:Int)+(List.length b:Int)))) (T.s (.int .u32 0))),())).bind fun x12=>
 (Su.sub x12.2.2.2.2.2.1 0 x12.2.1).bind fun x13=>
 (Su.sub x12.2.2.2.2.2.1 0 x12.2.1).bind fun x14=>
 (Su.sub x12.2.2.2.2.2.1 0 x12.2.1).bind fun x15=>
 ((unviews 1 x13).bind fun x16=>
 some (ofN (valN x16))).bind fun x17=>
 some x17
 else none)
theorem valN_set:∀(l:List Int) (j:Nat) (y:Int),j<l.length→valN (l.set j y)+4294967296^j*(nth l j).toNat=valN l+4294967296^j*y.toNat
 | [],j,y,h=>by simp at h
 | x::l,0,y,_=>by simp[valN,nth];omega
 | x::l,j+1,y,h=>by
  have ih:=valN_set l j y (by simpa using h)
  have e:nth (x::l) (j+1)=nth l j:=by simp[nth]
  rw[e];simp only[zg,valN,qQ];have h1:4294967296^j*4294967296*(nth l j).toNat=4294967296*(4294967296^j*(nth l j).toNat):=by rw[qA (4294967296^j) 4294967296,qx]
  have h2:4294967296^j*4294967296*y.toNat=4294967296*(4294967296^j*y.toNat):=by rw[qA (4294967296^j) 4294967296,qx]
  rw[h1,h2];omega
theorem Wd.set{l:List Int}(h:Wd l){y:Int}(h0:0≤y)(h1:y<4294967296)(j:Nat):Wd (l.set j y):=fun x hx=>by
 rcases yX hx with hx | rfl
 · exact h x hx
 · exact⟨h0,h1⟩
theorem nth_set_ne{l:List Int}{j k:Nat}(y:Int)(h:j≠k):nth (l.set j y) k=nth l k:=by unfold nth;rw[qS h]
theorem row_get{l:List Int}{j:Nat}(h:j<l.length):(l.map eW)[j]?=some (eW (nth l j)):=by
 rw[jh,qu h];simp[nth,qu h]
theorem row_set(l:List Int)(j:Nat)(y:Int):(l.map eW).set j (eW y)=(l.set j y).map eW:=by rw[zd]
theorem asI_eW(κ:IntKind)(y:Int):asI κ (.t (.s (.int κ y)))=some y:=by simp[asI]
theorem ldT_eW(y:Int):ldT (eW y) 0 false 1=some (eW y):=rfl
theorem mul_in(a b:List Int)(hb:Wd b)(x t:Int)(hx0:0≤x)(hx1:x<4294967296)(i:Nat)(hlen:a.length+b.length≤549755813888)(hi:i<a.length)(out0:List Int):∀(m k:Nat) (out:List Int) (c:Int),k+m=b.length→out.length=a.length+b.length→Wd out →
 0≤c→c<4294967296→(∀j,i+k≤j→nth out j=nth out0 j)→valN out+4294967296^(i+k)*c.toNat=valN out0+4294967296^i*(x.toNat*valN (b.take k)) →
 ∃(out':List Int) (c':Int),out'.length=a.length+b.length∧Wd out'∧0≤c'∧c'<4294967296∧(∀j,i+b.length≤j→nth out' j=nth out0 j)∧valN out'+4294967296^(i+b.length)*c'.toNat=valN out0+4294967296^i*(x.toNat*valN b) ∧
  ∃N,∀n,N≤n→itP n Mul_l2 (b,a.length+b.length,a,(a.length:Int),t,(i:Int),x,c,b,(b.length:Int),(k:Int),out.map eW,()) =
   some (b,a.length+b.length,a,(a.length:Int),t,(i:Int),x,c',b,(b.length:Int),(b.length:Int),out'.map eW,())
 | 0,k,out,c,hk,ho,hw,hc0,hc1,hz,hv=>by
  have:k=b.length:=by omega
  subst this;refine⟨out,c,ho,hw,hc0,hc1,hz,by rw[qC (qB _)]at hv;exact hv,1,fun n hn=>?_⟩
  obtain⟨n,rfl⟩:∃q,n=q+1:=⟨n-1,by omega⟩
  rw[itP_s];simp[Mul_l2]
 | m+1,k,out,c,hk,ho,hw,hc0,hc1,hz,hv=>by
  have hkb:k<b.length:=by omega
  have hj:i+k<out.length:=by omega
  obtain⟨y0,y1⟩:=nth_wd hb k;obtain⟨o0,o1⟩:=nth_wd hw (i+k)
  have hy:idx b (k:Int)=some (nth b k):=by rw[idx_nat,qu hkb];simp[nth,qu hkb]
  obtain⟨X,rfl⟩:∃X:Nat,x=(X:Int):=⟨x.toNat,by omega⟩
  obtain⟨Y,hY⟩:∃Y:Nat,nth b k=(Y:Int):=⟨(nth b k).toNat,by omega⟩
  obtain⟨Z,hZ⟩:∃Z:Nat,nth out (i+k)=(Z:Int):=⟨(nth out (i+k)).toNat,by omega⟩
  obtain⟨C,rfl⟩:∃C:Nat,c=(C:Int):=⟨c.toNat,by omega⟩
  have hXY:X*Y≤4294967295*4294967295:=yt (by omega) (by omega)
  have e0:IntKind.i64.wrap ((i:Int)+(k:Int))=((i+k:Nat):Int):=by rw[w64 (by omega) (by omega)];rfl
  have e1:IntKind.u64.wrap (X:Int)=X:=wu64 (by omega) (by omega)
  have e2:IntKind.u64.wrap (Y:Int)=Y:=wu64 (by omega) (by omega)
  have e3:IntKind.u64.wrap (Z:Int)=Z:=wu64 (by omega) (by omega)
  have e4:IntKind.u64.wrap ((X:Int)*(Y:Int))=((X*Y:Nat):Int):=by rw[← yj];exact wu64 (by omega) (by omega)
  have e5:IntKind.u64.wrap (((X*Y:Nat):Int)+(Z:Int))=((X*Y+Z:Nat):Int):=by rw[wu64 (by omega) (by omega)];rfl
  have e6:IntKind.u64.wrap ((C:Int)+((X*Y+Z:Nat):Int))=((C+(X*Y+Z):Nat):Int):=by rw[wu64 (by omega) (by omega)];rfl
  have e9:IntKind.i64.wrap ((k:Int)+1)=((k+1:Nat):Int):=by rw[w64 (by omega) (by omega)];rfl
  generalize hS:C+(X*Y+Z)=S at *
  have e7:IntKind.u32.wrap (S:Int)=((S % 4294967296:Nat):Int):=by rw[wrap_u32];omega
  have e8:Int.fdiv (S:Int) (2^32)=((S / 4294967296:Nat):Int):=by
   rw[jY _ (by decide)];rfl
  have hset:=valN_set out (i+k) ((S % 4294967296:Nat):Int) hj
  rw[hZ]at hset;obtain⟨out',c',h1,h2,h3,h4,h5,h6,N,h7⟩:=mul_in a b hb (X:Int) t hx0 hx1 i hlen hi out0 m (k+1) (out.set (i+k) ((S % 4294967296:Nat):Int)) ((S / 4294967296:Nat):Int) (by omega) (by simp[ho])
   (hw.set (by omega) (by omega) _) (by omega) (by omega) (fun j hj=>by rw[nth_set_ne _ (by omega)];exact hz j (by omega)) (by
     simp only[qb]at hset hv ⊢;rw[valN_nth,hY];simp only[qb];have hp:4294967296^(i+(k+1))*(S / 4294967296)+4294967296^(i+k)*(S % 4294967296)=4294967296^(i+k)*S:=by
      rw[← jl,qQ,qx,← jy];congr 1;omega
     have hq:4294967296^(i+k)*S=4294967296^(i+k)*C+4294967296^(i+k)*(X*Y)+4294967296^(i+k)*Z:=by
      rw[← hS,jy,jy,jl]
     have hr:4294967296^i*(X*(valN (b.take k)+4294967296^k*Y))=4294967296^i*(X*valN (b.take k))+4294967296^(i+k)*(X*Y):=by
      rw[jy,jy,qH]
      congr 1
      rw[yL X,qx]
     rw[hr];omega)
  refine⟨out',c',h1,h2,h3,h4,h5,h6,N+1,fun n hn=>?_⟩
  obtain⟨n,rfl⟩:∃q,n=q+1:=⟨n-1,by omega⟩
  have hst:Mul_l2 (b,a.length+b.length,a,(a.length:Int),t,(i:Int),(X:Int),(C:Int),b,(b.length:Int),(k:Int),out.map eW,()) =
   some (.inl (b,a.length+b.length,a,(a.length:Int),t,(i:Int),(X:Int),((S / 4294967296:Nat):Int),b,(b.length:Int),((k+1:Nat):Int),(out.set (i+k) ((S % 4294967296:Nat):Int)).map eW,())):=by
   have d1:decide ((k:Int)<(b.length:Int))=true:=qc (by omega)
   have d2:decide ((0:Int)≤((i+k:Nat):Int))=true:=qc (by omega)
   have d3:decide (((i+k:Nat):Int)<((a.length+b.length:Nat):Int))=true:=qc (by omega)
   have hg:(out.map eW)[0+((i+k:Nat):Int).toNat]?=some (eW (Z:Int)):=by
    rw[qF,qb,row_get hj,hZ]
   simp only[Mul_l2,d1,qe,hy,hY,qf,e0,d2,d3,j7,hg,ldT_eW,asI_eW,e1,e2,e3,e4,e5,e6,e7,e8,e9];simp only[qF,qb,row_set]
  rw[itP_s,hst];exact h7 n (by omega)
theorem mul_out(a b:List Int)(ha:Wd a)(hb:Wd b)(hlen:a.length+b.length≤549755813888):∀(m i:Nat) (out:List Int),i+m=a.length→out.length=a.length+b.length→Wd out→(∀j,i+b.length≤j→nth out j=0) →
 valN out=valN (a.take i)*valN b →
 ∃out':List Int,out'.length=a.length+b.length∧Wd out'∧valN out'=valN a*valN b ∧
  ∃N,∀fu,N≤fu→∀n,N≤n→itP n (Mul_l1 fu) (b,a.length+b.length,a,(a.length:Int),(i:Int),out.map eW,())=some (b,a.length+b.length,a,(a.length:Int),(a.length:Int),out'.map eW,())
 | 0,i,out,hk,ho,hw,hz,hv=>by
  have:i=a.length:=by omega
  subst this;refine⟨out,ho,hw,by rw[qC (qB _)]at hv;exact hv,1,fun fu _ n hn=>?_⟩
  obtain⟨n,rfl⟩:∃q,n=q+1:=⟨n-1,by omega⟩
  rw[itP_s];simp[Mul_l1]
 | m+1,i,out,hk,ho,hw,hz,hv=>by
  have hia:i<a.length:=by omega
  obtain⟨x0,x1⟩:=nth_wd ha i;have hx:idx a (i:Int)=some (nth a i):=by rw[idx_nat,qu hia];simp[nth,qu hia]
  obtain⟨o1,c,g1,g2,g3,g4,g5,g6,N1,g7⟩:=mul_in a b hb (nth a i) (i:Int) x0 x1 i hlen hia out b.length 0 out 0 (by omega) ho hw (by omega) (by omega) (fun _ _=>rfl) (by simp[valN])
  have hj:i+b.length<o1.length:=by omega
  have hnz:nth o1 (i+b.length)=0:=by rw[g5 _ (qB _)];exact hz _ (qB _)
  have hset:=valN_set o1 (i+b.length) c hj
  rw[hnz]at hset;obtain⟨out',h1,h2,h3,N2,h4⟩:=mul_out a b ha hb hlen m (i+1) (o1.set (i+b.length) c) (by omega) (by simp[g1]) (g2.set g3 g4 _)
   (fun j hj=>by rw[nth_set_ne _ (by omega),g5 j (by omega)];exact hz j (by omega)) (by
     have e:valN (a.take (i+1))*valN b=valN (a.take i)*valN b+4294967296^i*((nth a i).toNat*valN b):=by
      rw[valN_nth,qL,qx]
     simp only[ye,yh,jx]at hset;omega)
  refine⟨out',h1,h2,h3,max N1 N2+1,fun fu hfu n hn=>?_⟩
  obtain⟨n,rfl⟩:∃q,n=q+1:=⟨n-1,by omega⟩
  have e9:IntKind.i64.wrap ((i:Int)+1)=((i+1:Nat):Int):=by rw[w64 (by omega) (by omega)];rfl
  have e0:IntKind.i64.wrap ((i:Int)+(b.length:Int))=((i+b.length:Nat):Int):=by rw[w64 (by omega) (by omega)];rfl
  have e7:IntKind.u32.wrap c=c:=wu32 g3 g4
  have hst:Mul_l1 fu (b,a.length+b.length,a,(a.length:Int),(i:Int),out.map eW,())=some (.inl (b,a.length+b.length,a,(a.length:Int),((i+1:Nat):Int),(o1.set (i+b.length) c).map eW,())):=by
   have d1:decide ((i:Int)<(a.length:Int))=true:=qc (by omega)
   have d2:decide ((0:Int)≤((i+b.length:Nat):Int))=true:=qc (by omega)
   have d3:decide (((i+b.length:Nat):Int)<((a.length+b.length:Nat):Int))=true:=qc (by omega)
   have hg:(o1.map eW)[0+((i+b.length:Nat):Int).toNat]?=some (eW 0):=by
    rw[qF,qb,row_get hj,hnz]
   have g7':=g7 fu (by omega)
   simp only[Int.natCast_zero]at g7';simp only[Mul_l1,d1,qe,hx,qf,g7',e0,d2,d3,j7,hg,asI_eW,e7,e9];simp only[qF,qb,row_set]
  rw[itP_s,hst];exact h4 fu (by omega) n (by omega)
theorem valN_zeros(n:Nat):valN (List.replicate n 0)=0:=by
 induction n with
 | zero=>rfl
 | succ n ih=>simp[yQ,valN,ih]
def Mul_s(p:List Int×List Int):Option (List Int):=bif Nat.ble (p.1.length+p.2.length) 549755813888 then some (ofN (valN p.1*valN p.2))else none
theorem Mul_ok(p:List Int×List Int)(y:List Int)(hg:(dc (cQ 1 1) (d1 (cQ 1 1))).good p)(h:Mul_s p=some y):∃n,Mul n p.1 p.2=some y:=by
 obtain⟨a,b⟩:=p;obtain⟨⟨ha,la⟩,hb,lb⟩:=hg;obtain⟨hm,h⟩:=bif_some h;have:=soi h;subst this
 have hlen:a.length+b.length≤549755813888:=qn hm
 obtain⟨out,h1,h2,h3,N,h4⟩:=mul_out a b (Wd.of ha) (Wd.of hb) hlen a.length 0 (List.replicate (a.length+b.length) 0) (by omega) (by simp) (fun x hx=>by
  have:=(jO.1 hx).2;subst this;exact⟨zE _,by decide⟩) (fun j _=>by unfold nth;rw[jW];split <;> rfl) (by simp[valN_zeros,valN])
 refine⟨N,?_⟩
 have e0:IntKind.i64.wrap ((a.length:Int)+(b.length:Int))=((a.length+b.length:Nat):Int):=by rw[w64 (by omega) (by omega)];rfl
 have d1:decide ((0:Int)≤((a.length+b.length:Nat):Int))=true:=qc (by omega)
 have d2:decide (((a.length+b.length:Nat):Int)≤((a.length+b.length:Nat):Int))=true:=qc (by omega)
 have d3:decide (((a.length+b.length:Nat):Int)≤549755813888)=true:=qc (by omega)
 have h4':=h4 N (qB _) N (qB _)
 rw[yC,Int.natCast_zero]at h4';unfold Mul;simp only[e0,d1,d2,d3,j7,qe,qb];rw[show(T.s (.int .u32 0))=eW 0 from rfl,h4'];have hs:sub (out.map eW) 0 (a.length+b.length)=some (out.map eW):=by
  have:=sub_all (out.map eW)
  rwa [qD,h1]at this
 simp only[qf,hs,unviews_w];show some (ofN (valN out))=_
 rw[h3]
end
end Su
end
