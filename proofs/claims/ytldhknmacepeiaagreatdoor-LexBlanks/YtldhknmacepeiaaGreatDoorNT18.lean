/-
  What functions of the program compute, in plain Lean, and that the evaluator finds it.
-/
import Derived.Test.YtldhknmacepeiaaGreatDoorSuXl
import Derived.Test.YtldhknmacepeiaaGreatDoorNX03
import Derived.Test.YtldhknmacepeiaaGreatDoorNT15
set_option linter.unusedVariables false
set_option linter.unusedSimpArgs false
set_option maxRecDepth 10000
section
namespace Su
open Go Fly
noncomputable section
def qx0  (a:(Bool×(List Int)×List Int)):Option ByteArray :=
 (qeu a).bind fun x0=>
 (QG x0.2.1).bind fun x1=>
 (bif x0.1 then
 (bif(Nat.ble (1+(ByteArray.size x1)) 549755813888)then
 (bif(!(decide ((yy (qa x0.2.2) (qa (ofN 1)))=0)))then
 (QG x0.2.2).bind fun x2=>
 (bif(Nat.ble (1+(ByteArray.size x2)) 549755813888)then
 (bif(Nat.ble ((ByteArray.size ((ByteArray.mk (List.toArray [45]))++x1))+(ByteArray.size ((ByteArray.mk (List.toArray [47]))++x2))) 549755813888)then
 some (((ByteArray.mk (List.toArray [45]))++x1)++((ByteArray.mk (List.toArray [47]))++x2))
 else none)
 else none)
 else
  some ((ByteArray.mk (List.toArray [45]))++x1))
 else none)
 else
  (bif(!(decide ((yy (qa x0.2.2) (qa (ofN 1)))=0)))then
  (QG x0.2.2).bind fun x3=>
  (bif(Nat.ble (1+(ByteArray.size x3)) 549755813888)then
  (bif(Nat.ble ((ByteArray.size x1)+(ByteArray.size ((ByteArray.mk (List.toArray [47]))++x3))) 549755813888)then
  some (x1++((ByteArray.mk (List.toArray [47]))++x3))
 else none)
 else none)
 else
  some x1))
def qaF(a:Rt):Option ByteArray:=bif qur a&&(Nat.beq (qa a.2.2) 1&&Nat.ble (qa a.2.1) 1000000000000)then some (bs ((bif a.1&&!(Nat.beq (qa a.2.1) 0)then[45]else[])++dg (qa a.2.1)))else none
theorem quv(a:Rt)(y:ByteArray)(hg:(d1 cRt).good a)(h:qaF a=some y):qx0 a=some y:=by
 obtain⟨hm,h⟩:=qh h;have:=soi h;subst this
 clear h;rw[zn,zn]at hm;obtain⟨h1,h2,h3⟩:=hm;have h2:=zf h2;have h3:=zo h3;have e:qus a=(a.1&&!(Nat.beq (qa a.2.1) 0),ofN (qa a.2.1),ofN 1):=by
  unfold qus;rw[qg5,h2];unfold qix;by_cases h0:qa a.2.1=0
  · rw[zA (.inl h0),h0,show Nat.beq 0 0=true from rfl,Wq,Bool.and_false];rfl
  · rw[zw (by omega),Nat.gcd_one_right,V9,Z4 h0,Vw,Bool.and_true,V9]
 have hr:qeu a=some (qus a):=by unfold qeu;rw[h1];rfl
 have hl:=qel (n:=qa a.2.1) (by omega)
 have hc:yy (qa (ofN 1)) (qa (ofN 1))=0:=by
  unfold yy;rw[zw (Nat.lt_irrefl _),zA rfl]
 rw[e]at hr;generalize (a.1&&!(Nat.beq (qa a.2.1) 0))=b at *
 unfold qx0;refine obs hr ?_
 refine obs (qxE (by omega)) ?_
 simp only[hc];cases b with
 | true=>
  rw[zg,bdB (by rw[qe];omega)];simp only[qU,qM];rfl
 | false=>rfl
end
end Su
end
section
namespace Su
open Go Fly
end Su
end
section
namespace Su
open Go Fly
theorem qqf{n:Nat}:0<n→∃c r,dg n=c::r∧c≠48:=by
 induction n using Nat.strongRecOn with
 | ind n ih=>
  intro hn;by_cases h:n<10
  · refine⟨UInt8.ofNat (48+n),[],YQ h,fun e=>?_⟩
    have:=JU h
    rw[e]at this;have e48:(48:UInt8).toNat=48:=rfl
    omega
  · obtain⟨c,r,e,hc⟩:=ih (n / 10) (by omega) (by omega)
    exact⟨c,r++[UInt8.ofNat (48+n % 10)],by rw[Z9 (by omega),e];rfl,hc⟩
theorem qiy{c x:UInt8}{l:List UInt8}(h:x≠c):jL c (x::l)=x::jL c l:=by
 rw[qaC];have hb:(x == c)=false:=by simpa using h
 rw[hb];by_cases h0:jL c l=[]
 · rw[zA h0,h0];rfl
 · rw[zw h0]
theorem ZZ{A D B:List UInt8}(hD:∀c∈D,isD c=true)(hB:∀c,B[0]?=some c→isD c=false):rnL (A++(D++B)) A.length=D:=by
 unfold rnL;rw[We,List.takeWhile_append_of_pos hD];cases B with
 | nil=>simp
 | cons b B=>
  rw[VL,hB b rfl];simp
theorem JL{A D B:List UInt8}(hD:∀c∈D,isD c=true)(hB:∀c,B[0]?=some c→isD c=false):rn (A++(D++B)) A.length=(A++D).length:=by
 unfold rn;rw[ZZ hD hB,zq]
theorem qbx(A B:List UInt8)(i:Nat):(A++B)[A.length+i]?=B[i]?:=by
 rw[z8 (by omega)]
 congr 1;omega
theorem qqg{m:Nat}(h:m≤100000):exV (dg m)=m:=by
 induction m using Nat.strongRecOn with
 | ind m ih=>
  by_cases h1:m<10
  · rw[YQ h1]
    show min (0*10+((UInt8.ofNat (48+m)).toNat-48)) 100000=m
    rw[JU h1];omega
  · rw[Z9 (by omega),qeq,ih (m / 10) (by omega) (by omega),JU (by omega)]
    omega
def XE(X:List UInt8)(e:Int):Prop:=X=[]∧e=0∨X=101::itT e∧-100000≤e∧e≤100000
theorem qiz{X:List UInt8}{e:Int}(h:XE X e):∀c,X[0]?=some c→isD c=false∧c≠46:=by
 rcases h with⟨rfl,_⟩ | ⟨rfl,_⟩
 · intro c hc;cases hc
 · intro c hc
   have:c=101:=by cases hc;rfl
   subst this;decide
theorem qvR{A X:List UInt8}{e:Int}(h:XE X e)(D:List UInt8)(pw:Int)(ok:Bool):ptB (A++X) (D,pw,ok,A.length)=(D,pw+e,ok):=by
 unfold ptB;rcases h with⟨rfl,rfl⟩ | ⟨rfl,h1,h2⟩
 · have g:(A++[])[A.length]?=none:=by rw[KH];exact z7 (zI _)
   simp only[g];simp
 · have g:(A++101::itT e)[A.length]?=some 101:=qbx A (101::itT e) 0
   have g1:(A++101::itT e)[A.length+1]?=(itT e)[0]?:=qbx A (101::itT e) 1
   simp only[g,g1,true_or,if_true];by_cases hn:e<0
   · have ei:itT e=45::dg e.natAbs:=by unfold itT;rw[bdT hn]
     rw[ei];have e1:A++101::45::dg e.natAbs=(A++[101,45])++(dg e.natAbs++[]):=by simp
     have e2:A.length+2=(A++[101,45]).length:=by simp
     simp only[VY,or_true,if_true];rw[e1,e2,ZZ (Qb _) (fun c hc=>by cases hc),JL (Qb _) (fun c hc=>by cases hc),qqg (by omega),zb (qaa _),KH,zb rfl];have : -((e.natAbs:Nat):Int)=e:=by omega
     rw[this];simp
   · have ei:itT e=dg e.toNat:=by unfold itT;rw[bdF hn]
     rw[ei];obtain⟨c,r,ec⟩:∃c r,dg e.toNat=c::r:=by
      cases h:dg e.toNat with
      | nil=>exact absurd h (qaa _)
      | cons c r=>exact⟨c,r,rfl⟩
     have hc:=jY.1 (Qb e.toNat c (by rw[ec];exact zE))
     have n43 : ¬c=43:=fun h=>by subst h;revert hc;decide
     have n45 : ¬c=45:=fun h=>by subst h;revert hc;decide
     have e1:A++101::dg e.toNat=(A++[101])++(dg e.toNat++[]):=by simp
     have e2:A.length+1=(A++[101]).length:=by simp
     have gg:(dg e.toNat)[0]?=some c:=by rw[ec];rfl
     rw[gg];simp only[za,n43,n45,or_self,WQ];rw[e1,e2,ZZ (Qb _) (fun c hc=>by cases hc),JL (Qb _) (fun c hc=>by cases hc),qqg (by omega),zb (qaa _),KH,zb rfl];have:((e.toNat:Nat):Int)=e:=by omega
     rw[this];simp
theorem qg6{I F X:List UInt8}{e:Int}(hI:∀c∈I,isD c=true)(hI0:I≠[])(hF:∀c∈F,isD c=true)(hF0:F≠[])(hX:XE X e) :
 ptL (I++46::(F++X))=(I++F,-(F.length:Int)+e,true):=by
 have h46:∀c,(46::(F++X))[0]?=some c→isD c=false:=fun c hc=>by
  have:c=46:=by cases hc;rfl
  subst this;decide
 have hx:∀c,X[0]?=some c→isD c=false:=fun c hc=>(qiz hX c hc).1
 have r0:rnL (I++46::(F++X)) 0=I:=ZZ (A:=[]) hI h46
 have q0:rn (I++46::(F++X)) 0=I.length:=JL (A:=[]) hI h46
 have eS:I++46::(F++X)=(I++[46])++(F++X):=by simp
 have el:I.length+1=(I++[46]).length:=by simp
 have r1:rnL (I++46::(F++X)) (I.length+1)=F:=by rw[eS,el];exact ZZ hF hx
 have q1:rn (I++46::(F++X)) (I.length+1)=((I++[46])++F).length:=by rw[eS,el];exact JL hF hx
 have g:(I++46::(F++X))[I.length]?=some 46:=qbx I (46::(F++X)) 0
 have eA:ptA (I++46::(F++X))=(I++F,-(F.length:Int),true,((I++[46])++F).length):=by
  unfold ptA;rw[q0,g,zA rfl,r0,r1,q1,zb hI0,zb hF0];rfl
 unfold ptL;rw[eA];have e3:I++46::(F++X)=(I++[46]++F)++X:=by simp
 rw[e3];exact qvR hX _ _ _
theorem qx1{I X:List UInt8}{e:Int}(hI:∀c∈I,isD c=true)(hI0:I≠[])(hX:XE X e) :
 ptL (I++X)=(I,0+e,true):=by
 have hx:∀c,X[0]?=some c→isD c=false:=fun c hc=>(qiz hX c hc).1
 have r0:rnL (I++X) 0=I:=ZZ (A:=[]) hI hx
 have q0:rn (I++X) 0=I.length:=JL (A:=[]) hI hx
 have g : ¬(I++X)[I.length]?=some 46:=fun h=>by
  have:=qbx I X 0
  rw[KA,h]at this;exact(qiz hX 46 this.symm).2 rfl
 have eA:ptA (I++X)=(I,0,true,I.length):=by
  unfold ptA;rw[q0,zw g,r0,zb hI0]
 unfold ptL;rw[eA];exact qvR hX _ _ _
theorem qvS{c:UInt8}{r:List UInt8}(h:c≠48):(c::r).dropWhile (· == 48)=c::r:=by
 have hb:(c == 48)=false:=by simpa using h
 rw[Wu,hb];rfl
theorem qvT{l:List UInt8}:∀m,(zs m++l).dropWhile (· == 48)=l.dropWhile (· == 48)
 | 0=>rfl
 | m+1=>by
  have:zs (m+1)=48::zs m:=rfl
  rw[this,KJ,Wu];exact qvT m
theorem qev(m:Nat):∀c∈zs m,isD c=true:=fun c h=>by
 rw[List.eq_of_mem_replicate h];decide
theorem qby{A B:List UInt8}(hA:∀c∈A,isD c=true)(hB:∀c∈B,isD c=true):∀c∈A++B,isD c=true:=fun c h=>by
 rcases Kf.1 h with h | h
 · exact hA c h
 · exact hB c h
theorem qm1{d:List UInt8}{q:Int}(hd:∀c∈d,isD c=true)(h0:∃c r,d=c::r∧c≠48)(hl:d.length≤1000)(h1 : -1000≤q)(h2:q≤1000) :
 ∃j:Nat,j≤22∧(ptL (JJ d q)).2.2=true∧(ptL (JJ d q)).1.dropWhile (· == 48)=d++zs j∧(ptL (JJ d q)).2.1=q-j:=by
 obtain⟨c,r,e0,hc⟩:=h0;have dw:∀l,(d++l).dropWhile (· == 48)=d++l:=fun l=>by rw[e0];exact qvS hc
 have dw0:d.dropWhile (· == 48)=d:=by rw[e0];exact qvS hc
 have hdn:d≠[]:=by rw[e0];simp
 have dl:1≤d.length:=by rw[e0];simp
 have X0:XE [] 0:=.inl ⟨rfl,rfl⟩
 have z0:d++zs 0=d:=by show d++[]=d;simp
 unfold JJ;by_cases c1:0≤q∧(d.length:Int)+q≤21
 · rw[zA c1]
   have h:=qg6 (I:=d++zs q.toNat) (F:=[48]) (qby hd (qev _)) (by simp[hdn]) (by decide) (by decide) X0
   have e:d++zs q.toNat++[46,48]=(d++zs q.toNat)++46::([48]++[]):=by simp
   rw[e,h];refine⟨q.toNat+1,by omega,rfl,?_,?_⟩
   · have:d++zs q.toNat++[48]=d++zs (q.toNat+1):=by
      rw[zR];unfold zs;rw[List.replicate_succ']
     simp only[this,dw]
   · simp only[VA];omega
 · rw[zw c1]
   by_cases c2:q<0∧0<(d.length:Int)+q
   · rw[zA c2]
     generalize hk:((d.length:Int)+q).toNat=k
     have h:=qg6 (I:=d.take k) (F:=d.drop k) (fun c hc=>hd c (K5 hc)) (fun h=>by have:=congrArg List.length h;simp only[zL,zM]at this;omega) (fun c hc=>hd c (KB hc)) (fun h=>by have:=congrArg List.length h;simp only[zV,zM]at this;omega) X0
     have e:d.take k++[46]++d.drop k=d.take k++46::(d.drop k++[]):=by simp
     rw[e,h];refine⟨0,by omega,rfl,?_,?_⟩
     · simp only[KU,dw0,z0]
     · simp only[zV];omega
   · rw[zw c2]
     by_cases c3:(d.length:Int)+q≤0∧-5≤(d.length:Int)+q
     · rw[zA c3]
       generalize hk:(-((d.length:Int)+q)).toNat=k
       have h:=qg6 (I:=[48]) (F:=zs k++d) (by decide) (by decide) (qby (qev _) hd) (by simp[hdn]) X0
       have e:[48,46]++zs k++d=[48]++46::((zs k++d)++[]):=by simp
       rw[e,h];refine⟨0,by omega,rfl,?_,?_⟩
       · have:[48]++(zs k++d)=zs (k+1)++d:=rfl
         simp only[this,qvT,dw0,z0]
       · simp only[zq,J4];omega
     · rw[zw c3]
       have X1:XE (101::itT ((d.length:Int)+q-1)) ((d.length:Int)+q-1):=.inr ⟨rfl,by omega,by omega⟩
       by_cases c4:1<d.length
       · rw[zA c4]
         have h:=qg6 (I:=d.take 1) (F:=d.drop 1) (fun c hc=>hd c (K5 hc)) (fun h=>by have:=congrArg List.length h;simp only[zL,zM]at this;omega) (fun c hc=>hd c (KB hc)) (fun h=>by have:=congrArg List.length h;simp only[zV,zM]at this;omega) X1
         have e:d.take 1++46::d.drop 1++101::itT ((d.length:Int)+q-1)=d.take 1++46::(d.drop 1++101::itT ((d.length:Int)+q-1)):=by simp
         rw[e,h];refine⟨0,by omega,rfl,?_,?_⟩
         · simp only[KU,dw0,z0]
         · simp only[zV];omega
       · rw[zw c4]
         have ht:d.take 1=d:=zJ (by omega)
         have h:=qx1 hd hdn X1;rw[ht,KH,h];refine⟨0,by omega,rfl,?_,?_⟩
         · simp only[dw0,z0]
         · simp only[];omega
theorem qcd{n j:Nat}(h:n<10^(j+1)):(dg n).length≤j+1:=by
 induction j generalizing n with
 | zero=>rw[YQ (by omega)];simp
 | succ j ih=>
  by_cases h1:n<10
  · rw[YQ h1];simp
  · rw[Z9 (by omega),zq]
    have:=ih (n:=n / 10) (by rw[z6]at h;omega)
    simp only[VA];omega
theorem qjV{d:List UInt8}{q:Int}(h0:1≤d.length)(hl:d.length≤18)(h1 : -900≤(d.length:Int)+q)(h2:(d.length:Int)+q≤900):(JJ d q).length≤26:=by
 have hi:(itT ((d.length:Int)+q-1)).length≤4:=by
  unfold itT;by_cases hn:(d.length:Int)+q-1<0
  · rw[bdT hn,zu]
    have:=qcd (n:=((d.length:Int)+q-1).natAbs) (j:=2) (by omega)
    omega
  · rw[bdF hn]
    have:=qcd (n:=((d.length:Int)+q-1).toNat) (j:=2) (by omega)
    omega
 unfold JJ;split
 · simp only[zq,J4,zu,zM];omega
 · split
   · simp only[zq,zL,zV,zu,zM];omega
   · split
     · simp only[zq,J4,zu,zM];omega
     · split
       · simp only[zq,zL,zV,zu,zM];omega
       · simp only[zq,zL,zu,zM];omega
set_option exponentiation.threshold 3000 in
theorem qz9:2^54*2^2045<10^320*P75:=by rw[qgX];decide +kernel
set_option exponentiation.threshold 3000 in
theorem qAa:P75<10^326:=by rw[qgX];decide +kernel
theorem c_up:∃K T x y:Nat,x=320∧y=2045∧K=10^x∧T=2^54*2^y∧T<K*P75:=⟨_,_,_,_,rfl,rfl,rfl,rfl,qz9⟩
theorem c_lo:∃K x:Nat,x=326∧K=10^x∧P75<K:=⟨_,_,rfl,rfl,qAa⟩
theorem qqh{k x:Nat}(h:k≤jB)(hx:x=2045):jh k≤2^54*2^x:=by
 rw[qgY];refine VG ?_ (zX (by decide) ?_)
 · unfold kM;split <;> omega
 · unfold kE;unfold jB at h;omega
theorem qqi(k:Nat):1≤jh k:=by
 have:=qkS (show k<k+1 by omega)
 unfold jh;omega
theorem at_b{k n:Nat}{q:Int}{l:Nat}(hk:k≤jB)(hk0:k≠0)(h:Nr (n*pT q) (pU q) k)(h1:10^(l-1)≤n)(h2:n<10^l)(hl:1≤l) : -325≤(l:Int)+q∧(l:Int)+q≤320:=by
 obtain⟨a1,a2,_⟩:=h;have a2:=a2 hk;have b2:n*pT q*P75≤pU q*jh k:=by rcases a2 with h | h <;> omega
 have b1:pU q*jh (k-1)≤n*pT q*P75:=by rcases a1 with h | h | h <;> omega
 have m1:=qqi (k-1)
 constructor
 · obtain⟨K,x,hx,hK,cl⟩:=c_lo
   refine Int.not_lt.1 fun hlt=>?_
   have e1:10^l*pT q*K≤pU q:=by
    rw[hK];unfold pT pU;rw[← zP,← zP];exact zX (by decide) (by omega)
   have e2:n*pT q*K<10^l*pT q*K:=zZ (zZ h2 (J3 q)) (by omega)
   have e3:pU q*1≤pU q*jh (k-1):=zU _ m1
   have e4:n*pT q*P75≤n*pT q*K:=zU _ (Vg cl)
   generalize n*pT q*K=z1 at *
   generalize 10^l*pT q*K=z2 at *
   omega
 · obtain⟨K,T,x,y,hx,hy,hK,hT,cu⟩:=c_up
   have m2:jh k≤T:=by rw[hT];exact qqh hk hy
   refine Int.not_lt.1 fun hlt=>?_
   have e1:pU q*K≤10^(l-1)*pT q:=by
    rw[hK];unfold pT pU;rw[← zP,← zP];exact zX (by decide) (by omega)
   have e2:10^(l-1)*pT q≤n*pT q:=zD _ h1
   have e3:pU q*K*P75≤n*pT q*P75:=zD _ (Kj e1 e2)
   have e4:pU q*jh k≤pU q*T:=zU _ m2
   have e5:pU q*T<pU q*(K*P75):=VJ cu (yV q)
   rw[zx]at e3;exact absurd (Kj e3 (Kj b2 e4)) (Nat.not_le.2 e5)
theorem qAb{c:UInt8}{r:List UInt8}(h:isD c=true)(h0:c≠48):10^r.length≤dv (c::r):=by
 have hc:=jY.1 h;have hne:c.toNat≠48:=fun e=>h0 (Wl.1 e)
 have e:=qgS [c] r
 have e1:dv [c]=c.toNat-48:=by unfold dv;simp
 rw[e1]at e;have:1*10^r.length≤(c.toNat-48)*10^r.length:=zD _ (by omega)
 show _≤dv ([c]++r)
 omega
theorem qqj(l:List UInt8):∀m,dv (l++zs m)=dv l*10^m
 | 0=>by show dv (l++[])=_;simp
 | m+1=>by
  have:zs (m+1)=zs m++[48]:=by unfold zs;rw[List.replicate_succ']
  rw[this,← zR,qgQ,qqj l m,z6,zx];rfl
theorem qfB:∀(n:Nat) (l:List UInt8),l.length=n→∃m,l=jL 48 l++zs m
 | 0,l,h=>by
  obtain rfl:=K8 h
  exact⟨0,rfl⟩
 | n+1,l,h=>by
  rcases VP l with e | ⟨A,c,e⟩
  · subst e;exact⟨0,rfl⟩
  · subst e
    rw[VO]at h ⊢;rw[yU];by_cases hc:c=48
    · subst hc
      obtain⟨m,hm⟩:=qfB n A (by simpa using h)
      refine⟨m+1,?_⟩
      have:zs (m+1)=zs m++[48]:=by unfold zs;rw[List.replicate_succ']
      rw[this,← zR];show A++[48]=jL 48 A++zs m++[48]
      rw[← hm]
    · have hb:(c == 48)=false:=by simpa using hc
      rw[hb];exact⟨0,by show _=_++[];simp⟩
theorem qiA(l:List UInt8):∃m,l=jL 48 l++zs m:=qfB _ l rfl
theorem quw{k n:Nat}{q:Int}(hk:k≤jB)(hk0:k≠0)(h:IsD k n q):(JJ (lb (Ji n q).1) (Ji n q).2).length≤26∧yX (JJ (lb (Ji n q).1) (Ji n q).2)=((k:Int),0):=by
 obtain⟨h0,h1,h2,h3,h4⟩:=h;obtain⟨c,r,e0,hc⟩:=qqf (n:=n) (by omega)
 obtain⟨m,hm⟩:=qiA (dg n)
 have hT:jL 48 (dg n)=c::jL 48 r:=by rw[e0,qiy hc]
 obtain⟨d,hd⟩:∃d,d=jL 48 (dg n):=⟨_,rfl⟩
 rw[← hd]at hm hT;have hl:(dg n).length=d.length+m:=by rw[hm,zq,J4]
 have hv:n=dv d*10^m:=by rw[← qqj,← hm,qlc]
 have dD:∀c∈d,isD c=true:=fun c hc=>Qb n c (by rw[hm];exact Kf.2 (.inl hc))
 have l19:(dg n).length≤19:=qcd (j:=18) (KQ h1 (by decide))
 have dl:1≤d.length:=by rw[hT];simp
 have d18:d.length≤18:=by
  by_cases hn:n=10^18
  · subst hn
    rw[hd];decide +kernel
  · have:=qcd (n:=n) (j:=17) (by omega)
    omega
 have nlo:10^((dg n).length-1)≤n:=by
  have:=qAb (r:=r) (Qb n c (by rw[e0];exact zE)) hc
  rw[← e0,qlc]at this;rw[e0,zu,Ve];exact this
 have nhi:n<10^(dg n).length:=by have:=qfw (dg n) (Qb n);rwa [qlc]at this
 have bn:=qmV h1;have bt:=qit (q:=q) (by omega)
 have bu:=qxD (q:=q) (by omega)
 have bp:=yt n (pT q)
 have hm0:n*pT q≠0:=V5 h0 (by have:=J3 q;omega)
 have hu0:pU q≠0:=by have:=yV q;omega
 have p1:=jl hm0;have p2:=jl hu0;have nr:=ZV hm0 hu0 (by unfold jd;omega) (by unfold jd;omega)
 rw[h4]at nr;obtain⟨b1,b2⟩:=at_b hk hk0 nr nlo nhi (by omega)
 have eq:(Ji n q).2=q+m:=by unfold Ji;rw[← hd];show q+(((dg n).length:Nat):Int)-((d.length:Nat):Int)=_;omega
 have ed:lb (Ji n q).1=d:=by unfold Ji;rw[← hd];rfl
 rw[eq,ed];have len:=qjV (d:=d) (q:=q+m) dl d18 (by omega) (by omega)
 refine⟨len,?_⟩
 obtain⟨j,j1,r1,r2,r3⟩:=qm1 (d:=d) (q:=q+m) dD ⟨c,_,hT,hc⟩ (by omega) (by omega) (by omega)
 unfold yX;rw[zw (by omega),r1,r2,r3];rw[zw (by decide)];have tl:((d++zs j).length:Int)+(q+m-j)=(dg n).length+q:=by rw[zq,J4];omega
 have tv:=qqj d j;have tn:d++zs j≠[]:=by rw[hT];simp
 have tv0:dv (d++zs j)≠0:=by
  rw[tv];refine V5 (fun h=>?_) (by have:=Nat.pow_pos (n:=j) (show 0<10 by decide);omega)
  rw[h,KY]at hv;exact h0 hv
 have b3:qf (dv (d++zs j))≤4*(d.length+j)+1:=by
  have:=Jq (qfw (d++zs j) (qby dD (qev j)))
  rwa [zq,J4]at this
 generalize d++zs j=t at *
 generalize hpw:q+m-j=pw at *
 have c1:qf (pT pw)≤1681:=qit (by omega)
 have c2:qf (pU pw)≤1689:=by have:=Qf (-pw).toNat;unfold pU;omega
 have c3:=yt (dv t) (pT pw)
 have hm1:dv t*pT pw≠0:=V5 tv0 (by have:=J3 pw;omega)
 have hu1:pU pw≠0:=by have:=yV pw;omega
 have p3:=jl hm1;have p4:=jl hu1;have nr2:=ZV hm1 hu1 (by unfold jd;omega) (by unfold jd;omega)
 have e:dv t*pT pw*pU q=n*pT q*pU pw:=by
  rw[tv,hv];unfold pT pU;simp only[zx,← zP]
  congr 2;omega
 have ek:Qg false 0 (dv t*pT pw) (pU pw)=k:=qlq nr2 nr e (yV _) (yV _)
 unfold qjP;rw[zw (by rintro(h | h);exact tn h;omega),zw (by omega),ek,zw (by unfold jB at hk;omega)]
end Su
end
