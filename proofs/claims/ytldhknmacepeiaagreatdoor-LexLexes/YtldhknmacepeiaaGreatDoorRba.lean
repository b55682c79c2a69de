/-
  Bits and rounding, in plain Lean. No condition.
-/
import Derived.Test.YtldhknmacepeiaaGreatDoorNT14
import Derived.Test.YtldhknmacepeiaaGreatDoorNY02
import Derived.Test.YtldhknmacepeiaaGreatDoorSuXl
set_option linter.unusedVariables false
set_option linter.unusedSimpArgs false
set_option maxRecDepth 10000
section
namespace Su
open Go Fly
set_option exponentiation.threshold 3000 in
set_option exponentiation.threshold 3000 in
theorem qBK{c:UInt8}{r:List UInt8}(h:isD c=true)(h0:c≠48):10^r.length≤dv (c::r):=by
 have hc:=jP.1 h;have hne:c.toNat≠48:=fun e=>h0 (KJ.1 e)
 have e:=qas [c] r
 have e1:dv [c]=c.toNat-48:=by unfold dv;simp
 rw[e1]at e;have:1*10^r.length≤(c.toNat-48)*10^r.length:=zu _ (by omega)
 show _≤dv ([c]++r)
 omega
end Su
end
section
namespace Su
open Go Fly
theorem sk_c{r:List UInt8}:sk false (47::47::r)=2+sk true r:=by
 rw[sk,zp (by decide),zr ⟨rfl,rfl⟩,sk,zp (by decide)];omega
theorem sk_t{c:UInt8}{r:List UInt8}(h:c≠10):sk true (c::r)=1+sk true r:=by rw[sk,zp h]
theorem c32:∀k,k<256→Lib.contains [UInt8.ofNat k,32] [32]=true:=by decide +kernel
end Su
end
section
namespace Su
open Go Fly
theorem powL{a b c d:Nat}(h:a+c≤b+d):10^a*10^c≤10^b*10^d:=by
 rw[← zP,← zP];exact Ka (by decide) h
theorem mulP{a b:Nat}(w:Nat)(h:a<b):a*2^w<b*2^w:=zY h (zH _)
theorem qvE{N D:Nat}(h:N*2^1075<D):Nr N D 0:=by
 have e:jf 0=1:=by rw[qbl];rfl
 refine⟨.inl rfl,fun _=>.inl ?_,by omega⟩
 rw[e,qer,K8];exact h
theorem qvF:jf yu≤2^2100:=by
 rw[qbl];unfold kM kE yu;exact zm (by decide +kernel)
theorem qzs{a b:Nat}(h:Nat.ble (a+1) b=true):a<b:=zm h
theorem qvG:2^2100<10^320*2^1075:=qzs (by decide +kernel)
theorem qvH{N D y:Nat}(hy:y=320)(hD:0<D)(h:D*10^y≤N):Nr N D (yu+1):=by
 subst hy;refine⟨.inr (.inl ?_),fun h=>absurd h (by omega),zw _⟩
 rw[KQ,qer];have h1:=zu (2^1075) h
 have h2:D*jf yu≤D*2^2100:=zQ _ qvF
 have h3:D*2^2100<D*(10^320*2^1075):=Vr qvG hD
 rw[zt]at h1;exact KW h2 (Kk h3 h1)
theorem qco:∃x,x=326∧2^1075≤10^x:=⟨326,rfl,zm (by decide +kernel)⟩
theorem qm7{c:UInt8}{r:List UInt8}{pw:Int}{K:Nat}(hs:∀x∈c::r,isD x=true)(hn:c≠48)(hl:(c::r).length≤400)
 (nr:Nr (dv (c::r)*pT pw) (pU pw) K):qiM (c::r) pw=if K=9218868437227405312 then(0,82)else((K:Int),0):=by
 have hge:=qBK (r:=r) (hs c zE) hn
 have hlt:=qfN (c::r) hs
 have d0:dv (c::r)≠0:=by have:=Nat.one_le_pow r.length 10 (by decide);omega
 have lc:(c::r).length=r.length+1:=zy
 generalize hL:c::r=t at *
 generalize hV:dv t=V at *
 have t0:t≠[]:=by rw[← hL];exact List.cons_ne_nil _ _
 have hU:=qj6 pw;unfold qiM;by_cases h1:(t.length:Int)+pw < -325
 · rw[zr (.inr h1)]
   have k0:K=0:=by
    refine qhe nr (qvE ?_) rfl hU hU
    have e1:pT pw=1:=by unfold pT;rw[show pw.toNat=0 by omega]
    obtain⟨x,hx,qco⟩:=qco;have e2:pU pw=10^((-pw).toNat-(t.length+x))*(10^t.length*10^x):=by
     unfold pU;rw[← zP,← zP]
     congr 1;omega
    rw[e1,e2,K8];have a1:V*2^1075<10^t.length*2^1075:=mulP 1075 hlt
    have a2:10^t.length*2^1075≤10^t.length*10^x:=zQ _ qco
    have a3:=zu (10^t.length*10^x) (Nat.one_le_pow ((-pw).toNat-(t.length+x)) 10 (by decide))
    rw[KC]at a3;exact Kk a1 (Ky a2 a3)
   subst k0;rw[zp (by omega)];rfl
 · rw[zp (fun h=>h.elim t0 h1)]
   by_cases h2:320<(t.length:Int)+pw
   · rw[zr h2]
     have k1:K=yu+1:=by
      obtain⟨y,hy⟩:∃y,y=320:=⟨_,rfl⟩
      refine qhe nr (qvH hy hU ?_) rfl hU hU
      have a1:10^r.length*pT pw≤V*pT pw:=zu _ hge
      refine Ky ?_ a1
      unfold pT pU;exact powL (by omega)
     rw[zr (by rw[k1];rfl)]
   · rw[zp h2]
     have bn:qj V≤1601:=by have:=Jb hlt;omega
     have bt:qj (pT pw)≤1681:=bl_t (by omega)
     have bu:qj (pU pw)≤2941:=by have:=Qm (-pw).toNat;unfold pU;omega
     have bp:=J2 V (pT pw)
     have hm:V*pT pw≠0:=Nat.mul_ne_zero d0 (by have:=qpO pw;omega)
     have p1:=jE hm;have p2:=jE (show pU pw≠0 by omega)
     have fr:=qmY hm (show pU pw≠0 by omega) (by unfold jm;omega) (by unfold jm;omega)
     have:=qhe nr fr rfl hU hU
     subst this;rw[hV]
end Su
end
section
namespace Su
open Go Fly
noncomputable section
def qvI  (s:ByteArray):Option (Int×Int) :=
 (bif(decide (400<(ByteArray.size s:Int)))then
 some ((0:Int),(81:Int))
 else
  (qcn s).bind fun x0=>
  (bif(!x0.2.2.2)then
  some ((0:Int),(80:Int))
 else
  (qcm x0.1).bind fun x1=>
  (bif(decide ((qj (qf x1):Int)=0))then
  some ((0:Int),(0:Int))
 else
  (qcl (max (IntKind.wrap .i64 (x0.2.2.1-x0.2.1)) 0)).bind fun x2=>
  (JO (x1,x2)).bind fun x3=>
  (qcl (max (IntKind.wrap .i64 (x0.2.1-x0.2.2.1)) 0)).bind fun x4=>
  (qqy (false,x3,x4) 0).bind fun x5=>
  (bif(decide (x5.1=9218868437227405312))then
  some ((0:Int),(82:Int))
 else
  some (x5.1,(0:Int))))))
theorem qqG:∀d:List UInt8,dv (d.dropWhile (· == 48))=dv d
 | []=>rfl
 | c::r=>by
  rw[List.dropWhile_cons];by_cases h:(c == 48)=true
  · rw[zr h,qqG r]
    have:=qas [c] r
    have e1:dv [c]=0:=by rw[show c=48 by simpa using h];rfl
    rw[e1]at this;rw[show c::r=[c]++r from rfl,this];omega
  · rw[zp h]
def qcp(s:ByteArray):Option (Int×Int):=bif okS []then some (Qn (lb s))else none
theorem qqH(S:List UInt8):qcp (bs S)=some (Qn S):=by unfold qcp;rw[ZK,jB];rfl
theorem qvJ(s:ByteArray)(y:Int×Int)(hg:(d1 cS).good s)(h:qcp s=some y):qvI s=some y:=by
 clear hg;revert h;refine onB (P:=fun s=>qcp s=some y→qvI s=some y) (fun S h=>?_) s
 rw[qqH]at h;have:=soi h;subst this
 unfold qvI Qn;rw[qe];by_cases c1:400<S.length
 · rw[zr c1,bdT (by omega)]
 rw[zp c1,bdF (by omega)];refine obs (qzr (S:=S) (by omega)) ?_
 obtain⟨q1,q2⟩:=qBJ S;obtain⟨b1,b2,b3⟩:=qxb S;have hd:=qlz S;rw[← q1];generalize ptL S=L at *
 obtain⟨d,pw,ok⟩:=L;generalize qtL S=Q at *
 obtain⟨D,bh,p,ok'⟩:=Q;cases ok' with
 | false=>rfl
 | true=>
  obtain⟨e1,e2⟩:=q2 rfl;dsimp only at e1 e2 b1 b2 b3 hd ⊢;subst e1;rw[zp (by decide)];simp only[tb4,Wr,zj];refine obs (qzp (S:=D) (by omega) hd) ?_
  rw[qck];have tp:=@qpU (D.dropWhile (· == 48)) D rfl hd
  have tv:=qqG D;have tl:(D.dropWhile (· == 48)).length≤D.length:=(List.dropWhile_sublist _).length_le
  have th:=List.head?_dropWhile_not (p:=(· == (48:UInt8))) (l:=D)
  by_cases h0:dv D=0
  · have ht:D.dropWhile (· == 48)=[]:=by
     by_cases e:D.dropWhile (· == 48)=[]
     · exact e
     · exact absurd (tv.trans h0) (tp e).2
    rw[h0,ht];unfold qiM;rw[zr (.inl rfl)];rfl
  · have hb0:=jE h0
    have hlt:=qfN D hd;have hbd:=Jb hlt;have w1:IntKind.i64.wrap (p-bh)=pw:=by rw[e2];exact w64 (by omega) (by omega)
    have w2:IntKind.i64.wrap (bh-p) = -pw:=by rw[show bh-p = -pw by omega];exact w64 (by omega) (by omega)
    have m1:max pw 0=((pw.toNat:Nat):Int):=by omega
    have m2:max (-pw) 0=(((-pw).toNat:Nat):Int):=by omega
    have bt:=Qm pw.toNat;have bu:=Qm (-pw).toNat
    have hU:=qj6 pw;rw[bdF (by omega),w1,w2,m1,m2];refine obs (qqB (by omega)) (obs (qkh (by rw[Zf,Zf];omega)) (obs (qqB (by omega)) ?_))
    have l1:=qi0 (cN (dv D)) (cN (10^pw.toNat))
    rw[Zf,Zf]at l1;have v1:qf (Zc (cN (dv D)) (cN (10^pw.toNat)))=dv D*pT pw:=by rw[qby,qck,qck];rfl
    have v2:qf (cN (10^(-pw).toNat))=pU pw:=by rw[qck];rfl
    obtain⟨K,⟨fl,hK⟩,nr⟩:=qm6 (A:=Zc (cN (dv D)) (cN (10^pw.toNat))) (B:=cN (10^(-pw).toNat)) (by omega) (by rw[Zf];omega) (by rw[v2];omega)
    rw[v1,v2]at nr;refine obs hK ?_
    cases ht:D.dropWhile (· == 48)with
    | nil=>
     rw[ht]at tv;exact absurd tv.symm h0
    | cons c r=>
     rw[ht]at tp tv tl th;have hn:c≠48:=by simpa using th
     rw[← tv]at nr;rw[qm7 (tp (List.cons_ne_nil _ _)).1 hn (by omega) nr];by_cases hk:K=9218868437227405312
     · rw[zr hk]
       exact bdT (by show(K:Int)=_;omega) _ _
     · rw[zp hk]
       exact bdF (by show¬(K:Int)=_;omega) _ _
end
end Su
end
section
namespace Su
open Go Fly
set_option maxRecDepth 100000
def amL(s:List UInt8):List UInt8→List UInt8→Bool
 | _,[]=>false
 | cur,c::r=>if c=32 then(cur == s||amL s [] r)else amL s (cur++[c]) r
def qzt:List UInt8:=[116,105,99,107,115,32,105,110,112,117,116,32,118,97,114,32,105,110,105,116,32,115,116,101,112,32,105,102,32,101,108,115,101,32,102,111,114,32,116,114,117,101,32,102,97,108,115,101,32,105,110,116,32,102,108,111,97,116,32,98,111,111,108,32,97,98,115,32,105,110,32]
def Z3:List UInt8:=[61,61,32,33,61,32,60,61,32,62,61,32,38,38,32,124,124,32,46,46,32]
def Zg:List UInt8:=[40,32,41,32,91,32,93,32,123,32,125,32,44,32,59,32,58,32,61,32,60,32,62,32,43,32,45,32,42,32,47,32,33,32]
theorem qqI(l:List UInt8):∀P:List (List UInt8×Int),(∀x∈P,0<x.2)→decide (0<wdN l P)=P.any (fun x=>x.1 == l)
 | [],_=>rfl
 | (k,v)::P,h=>by
  have ih:=qqI l P fun x hx=>h x (zq _ hx)
  have h0:0<v:=h (k,v) zE
  have e1:wdN l ((k,v)::P)=if l=k then v else wdN l P:=rfl
  rw[List.any_cons,← ih,e1];by_cases e:l=k
  · subst e
    rw[zr rfl,za h0];simp
  · rw[zp e]
    have:(k == l)=false:=by simpa using fun h=>e h.symm
    rw[this];rfl
theorem qxm(s:List UInt8):amL s [] qzt=Jt s:=by
 unfold Jt;rw[qqI s wdP (by decide)];rfl
def qzu(k:Nat):Bool:=[32,33,38,46,60,61,62,124].contains k
theorem qBL(b:UInt8):((List.range 256).all fun k=>qzu k||(!(Lib.contains sg2 [UInt8.ofNat k,b])&&!(amL [UInt8.ofNat k,b] [] Z3)))=true:=by kernel_rfl
theorem qBM:∀k,k<256→(qzu k=true→∀j,j<256→amL [UInt8.ofNat k,UInt8.ofNat j] [] Z3=(Lib.contains sg2 [UInt8.ofNat k,UInt8.ofNat j]&&!Lib.contains [UInt8.ofNat k,UInt8.ofNat j] [32])):=by decide +kernel
theorem qzv(a b:UInt8):amL [a,b] [] Z3=(Lib.contains sg2 [a,b]&&!Lib.contains [a,b] [32]):=by
 have h:∀k,k<256→amL [UInt8.ofNat k,b] [] Z3=(Lib.contains sg2 [UInt8.ofNat k,b]&&!Lib.contains [UInt8.ofNat k,b] [32]):=fun k hk=>by
  cases hf:qzu k with
  | true=>
   have:=qBM k hk hf b.toNat b.toNat_lt
   rw[Vh]at this;exact this
  | false=>
   have:=zX.1 (qBL b) k (Wi.2 hk)
   rw[hf,VP,zk,Vw,Vw]at this;rw[this.1,this.2];rfl
 have:=h a.toNat a.toNat_lt
 rwa [Vh]at this
theorem qvK:∀k,k<256→amL [UInt8.ofNat k] [] Zg=Lib.contains sg1 [UInt8.ofNat k]:=by decide +kernel
theorem qqJ(a:UInt8):amL [a] [] Zg=Lib.contains sg1 [a]:=by
 have:=qvK a.toNat a.toNat_lt
 rwa [Vh]at this
theorem qzw{R:List UInt8}(h:R≠[]):JN R=if 2≤R.length∧amL (R.take 2) [] Z3=true then R.take 2 else if amL (R.take 1) [] Zg=true then R.take 1 else[]:=by
 match R,h with
 | [a],_=>
  unfold JN;have h1 : ¬1<([a]:List UInt8).length:=by simp
  have h2 : ¬2≤([a]:List UInt8).length:=by simp
  rw[zp (c:=1<([a]:List UInt8).length∧Lib.contains sg2 (([a]:List UInt8).take 2)=true∧Lib.contains (([a]:List UInt8).take 2) [32]=false) (fun h=>h1 h.1),zp (c:=2≤([a]:List UInt8).length∧amL (([a]:List UInt8).take 2) [] Z3=true) (fun h=>h2 h.1)];show(if Lib.contains sg1 [a]=true then _ else _)=(if amL [a] [] Zg=true then _ else _)
  rw[qqJ]
 | a::b::r,_=>
  unfold JN;show(if 1<r.length+2∧Lib.contains sg2 [a,b]=true∧Lib.contains [a,b] [32]=false then _ else if Lib.contains sg1 [a]=true then _ else _)=(if 2≤r.length+2∧amL [a,b] [] Z3=true then _ else if amL [a] [] Zg=true then _ else _)
  rw[qzv,qqJ];cases Lib.contains sg2 [a,b] <;> cases Lib.contains [a,b] [32] <;> simp
end Su
end
