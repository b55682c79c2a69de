/-
  Bits and rounding, in plain Lean. No condition.
-/
import Derived.Test.YtldhknmacepeiaaGreatDoorNT18
import Derived.Test.YtldhknmacepeiaaGreatDoorSuXl
set_option linter.unusedVariables false
set_option linter.unusedSimpArgs false
set_option maxRecDepth 10000
section
namespace Su
open Go Fly
def yB:Nat→List UInt8
 | 1=>[9,13,10,32]
 | 2=>[32,47,47,32,120,32,61,32,49,59,10]
 | 3=>[32,47,47,10,47,47,10]
 | _=>[32]
theorem qjW{c:UInt8}{r:List UInt8}(h:YW c=true):sk false (c::r)=1+sk false r:=by rw[sk,zA h]
theorem qx2{r:List UInt8}:sk false (47::47::r)=2+sk true r:=by
 rw[sk,zw (by decide),zA ⟨rfl,rfl⟩,sk,zw (by decide)];omega
theorem qjX{c:UInt8}{r:List UInt8}(h:c≠10):sk true (c::r)=1+sk true r:=by rw[sk,zw h]
theorem qx3{r:List UInt8}:sk true (10::r)=1+sk false r:=by rw[sk,zA rfl]
theorem qjY(m:Nat)(R:List UInt8):sk false (yB m++R)=(yB m).length+sk false R:=by
 unfold yB;split
 · simp only[KJ,zH,zu,zM]
   rw[qjW (by decide),qjW (by decide),qjW (by decide),qjW (by decide)];omega
 · simp only[KJ,zH,zu,zM]
   rw[qjW (by decide),qx2,qjX (by decide),qjX (by decide),qjX (by decide),qjX (by decide),qjX (by decide),qjX (by decide),qjX (by decide),qx3];omega
 · simp only[KJ,zH,zu,zM]
   rw[qjW (by decide),qx2,qx3,qx2,qx3];omega
 · simp only[KJ,zH,zu,zM]
   rw[qjW (by decide)]
theorem qqk(m:Nat):∃g r,yB m=g::r∧(g=32∨g=9):=by
 unfold yB;split
 · exact⟨_,_,rfl,.inr rfl⟩
 · exact⟨_,_,rfl,.inl rfl⟩
 · exact⟨_,_,rfl,.inl rfl⟩
 · exact⟨_,_,rfl,.inl rfl⟩
theorem qux{p:UInt8→Bool}{l:List UInt8}{g:UInt8}{R:List UInt8}(h:∀c∈l,p c=true)(hg:p g=false):(l++g::R).takeWhile p=l:=by
 rw[List.takeWhile_append_of_pos h,VL,hg];simp
theorem qm2(P A:List UInt8)(i:Nat):(P++A)[P.length+i]?=A[i]?:=qbx P A i
theorem qad(P A:List UInt8):(P++A)[P.length]?=A[0]?:=qm2 P A 0
theorem qx4{P R l:List UInt8}{g c:UInt8}{r:List UInt8}(hl:l=c::r)(hc:j9 c=true)(hi:∀c∈l,Qt c=true)(hg:g=32∨g=9)(h32:l.length≤32) :
 yg (P++(l++g::R)) P.length=((bif YI l then 4 else 1,((P.length:Nat):Int),bs l,0,0),((P.length+l.length:Nat):Int),0):=by
 have hgi:Qt g=false:=by rcases hg with rfl | rfl <;> decide
 have h0:(P++(l++g::R))[P.length]?=some c:=by rw[qad,hl];rfl
 have hs:spI (P++(l++g::R)) P.length=P.length+l.length:=by
  unfold spI;rw[We,qux hi hgi]
 have ht:((P++(l++g::R)).drop P.length).take (P.length+l.length-P.length)=l:=by
  rw[We,Vk,VI]
 unfold yg;rw[h0,zA (by exact hc),hs,ht,zw (by omega)]
theorem qx5{P R:List UInt8}{g:UInt8}{n:Nat}(hg:g=32∨g=9)(hn:n≤2147483647) :
 yg (P++(dg n++g::R)) P.length=((2,((P.length:Nat):Int),bs [],(n:Int),0),((P.length+(dg n).length:Nat):Int),0):=by
 have hgd:isD g=false:=by rcases hg with rfl | rfl <;> decide
 have hd:=Qb n;obtain⟨c,r,hc⟩:∃c r,dg n=c::r:=by
  cases h:dg n with
  | nil=>exact absurd h (qaa n)
  | cons c r=>exact⟨c,r,rfl⟩
 have hcd:isD c=true:=hd c (by rw[hc];exact zE)
 have hcl:j9 c=false:=by
  have:=jY.1 hcd
  unfold j9;cases h1:Nat.ble 65 c.toNat with
  | true=>have:=zo h1;omega
  | false=>
   cases h2:Nat.ble 97 c.toNat with
   | true=>have:=zo h2;omega
   | false=>
    cases h3:Nat.beq c.toNat 95 with
    | true=>have:=zf h3;omega
    | false=>rfl
 have h0:(P++(dg n++g::R))[P.length]?=some c:=by rw[qad,hc];rfl
 have hgs:∀d,(g::R)[0]?=some d→isD d=false:=fun d h=>by cases h;exact hgd
 have hr:rn (P++(dg n++g::R)) P.length=P.length+(dg n).length:=by rw[JL hd hgs,zq]
 have hgN:(P++(dg n++g::R))[P.length+(dg n).length]?=some g:=by
  rw[qm2,← KA (dg n).length,qm2];rfl
 have hN:yo (P++(dg n++g::R)) P.length=(P.length+(dg n).length,false):=by
  unfold yo;rw[hr,hgN,zw (by rintro⟨h,_⟩;rcases hg with rfl | rfl <;> cases h)];unfold numE;rw[hgN,zw (by rintro⟨h,_⟩;rcases hg with rfl | rfl <;> (rcases h with h | h <;> cases h))]
 have hl:(dg n).length≤10:=qcd (j:=9) (by omega)
 have ht:((P++(dg n++g::R)).drop P.length).take (P.length+(dg n).length-P.length)=dg n:=by
  rw[We,Vk,VI]
 have hv:∀t:Tk,qcc t (dg n) false=((2,t.2.1,t.2.2.1,(n:Int),t.2.2.2.2),0):=fun t=>by
  unfold qcc;rw[zw (by omega),zw (by decide),qlc,zw (by omega)]
 unfold yg;rw[h0,zw (by show¬j9 c=true;rw[hcl];decide),zA (by exact hcd),hN];simp only[ht,hv]
theorem c32:∀k,k<256→Lib.contains [UInt8.ofNat k,32] [32]=true:=by decide +kernel
theorem c9:∀k,k<256→Lib.contains sg2 [UInt8.ofNat k,9]=false:=by decide +kernel
theorem c47:∀k,k<256→Lib.contains sg2 [47,UInt8.ofNat k]=false:=by decide +kernel
theorem qql{p:UInt8→Prop}(h:∀k,k<256→p (UInt8.ofNat k))(c:UInt8):p c:=by
 have:=h c.toNat c.toNat_lt
 rwa [zy]at this
def SgT(l:List UInt8):Prop:=(∃a b,l=[a,b]∧Lib.contains sg2 [a,b]=true∧Lib.contains [a,b] [32]=false)∨(∃a,l=[a]∧Lib.contains sg1 [a]=true)
theorem qx6{R:List UInt8}(h:QK R≠[]):SgT (QK R):=by
 unfold QK at h ⊢
 split
 · rename_i hc
   obtain⟨h1,h2,h3⟩:=hc
   match R,h1 with
   | a::b::r,_=>exact .inl ⟨a,b,rfl,h2,h3⟩
 · rename_i hc
   rw[zw hc]at h;split
   · rename_i h1
     rw[zA h1]at h;cases R with
     | nil=>exact absurd rfl h
     | cons a r=>exact .inr ⟨a,rfl,h1⟩
   · rename_i h1
     rw[zw h1]at h;exact absurd rfl h
theorem qm3{l R:List UInt8}{g:UInt8}(hl:SgT l)(hg:g=32∨g=9):QK (l++g::R)=l:=by
 rcases hl with⟨a,b,rfl,h2,h3⟩ | ⟨a,rfl,h1⟩
 · unfold QK
   rw[zA ⟨by simp,h2,h3⟩];rfl
 · have hn : ¬(1<([a]++g::R).length∧Lib.contains sg2 (([a]++g::R).take 2)=true∧Lib.contains (([a]++g::R).take 2) [32]=false):=by
    rintro⟨_,g2,g3⟩
    have t2:([a]++g::R).take 2=[a,g]:=rfl
    rw[t2]at g2 g3;rcases hg with rfl | rfl
    · rw[qql (p:=fun a=>Lib.contains [a,32] [32]=true) c32 a]at g3;cases g3
    · rw[qql (p:=fun a=>Lib.contains sg2 [a,9]=false) c9 a]at g2;cases g2
   unfold QK;have t1:([a]++g::R).take 1=[a]:=rfl
   rw[zw hn,t1,zA h1]
theorem qx7{P R l:List UInt8}{g c:UInt8}{r:List UInt8}(hl:SgT l)(hc:l=c::r)(h1:j9 c=false)(h2:isD c=false)(hg:g=32∨g=9) :
 yg (P++(l++g::R)) P.length=((5,((P.length:Nat):Int),bs l,0,0),((P.length+l.length:Nat):Int),0):=by
 have h0:(P++(l++g::R))[P.length]?=some c:=by rw[qad,hc];rfl
 have ne:l≠[]:=by rw[hc];simp
 unfold yg;rw[h0,zw (by show¬j9 c=true;rw[h1];decide),zw (by show¬isD c=true;rw[h2];decide),We,qm3 hl hg,zw ne]
theorem qqm{A X R:List UInt8}{e:Int}{g:UInt8}{fl:Bool}(hX:XE X e)(hf:X≠[]∨fl=true)(hg:g=32∨g=9):numE (A++(X++g::R)) A.length fl=(A.length+X.length,true):=by
 have hgs:∀d,(g::R)[0]?=some d→isD d=false:=fun d h=>by cases h;rcases hg with rfl | rfl <;> decide
 unfold numE;rcases hX with⟨rfl,_⟩ | ⟨rfl,b1,b2⟩
 · have h0:(A++([]++g::R))[A.length]?=some g:=by rw[qad];rfl
   have hf:fl=true:=hf.resolve_left (fun h=>h rfl)
   rw[h0,zw (by rintro⟨h,_⟩;rcases hg with rfl | rfl <;> (rcases h with h | h <;> cases h)),hf];rfl
 · have h0:(A++(101::itT e++g::R))[A.length]?=some 101:=by rw[qad];rfl
   have h1:(A++(101::itT e++g::R))[A.length+1]?=(itT e++g::R)[0]?:=by rw[qm2];rfl
   have dig:∀(B D:List UInt8),(∀c∈D,isD c=true)→D≠[]→qbv (B++(D++g::R)) B.length=true:=fun B D hD hn=>by
    unfold qbv;rw[qad];cases D with
    | nil=>exact absurd rfl hn
    | cons c r=>exact hD c zE
   by_cases hn:e<0
   · have ei:itT e=45::dg e.natAbs:=by unfold itT;rw[bdT hn]
     rw[ei]at h0 h1 ⊢;have hk:exK (A++(101::(45::dg e.natAbs)++g::R)) A.length=A.length+2:=by
      unfold exK;rw[h1];rfl
     have e1:A++(101::(45::dg e.natAbs)++g::R)=(A++[101,45])++(dg e.natAbs++g::R):=by simp
     have e2:A.length+2=(A++[101,45]).length:=by simp
     rw[hk,h0,e1,e2,zA ⟨.inl rfl,dig _ _ (Qb _) (qaa _)⟩,JL (Qb _) hgs];simp only[zq,zu,zM];refine Prod.ext ?_ rfl
     show A.length+(0+1+1)+(dg e.natAbs).length=A.length+((dg e.natAbs).length+1+1)
     omega
   · have ei:itT e=dg e.toNat:=by unfold itT;rw[bdF hn]
     rw[ei]at h0 h1 ⊢;obtain⟨c,r,ec⟩:∃c r,dg e.toNat=c::r:=by
      cases h:dg e.toNat with
      | nil=>exact absurd h (qaa _)
      | cons c r=>exact⟨c,r,rfl⟩
     have hc:=jY.1 (Qb e.toNat c (by rw[ec];exact zE))
     have hk:exK (A++(101::dg e.toNat++g::R)) A.length=A.length+1:=by
      unfold exK;rw[h1,ec];show(if some c=some 43∨some c=some 45 then _ else _)=_
      rw[zw]
      rintro(h | h) <;> (cases h;revert hc;decide)
     have e1:A++(101::dg e.toNat++g::R)=(A++[101])++(dg e.toNat++g::R):=by simp
     have e2:A.length+1=(A++[101]).length:=by simp
     rw[hk,h0,e1,e2,zA ⟨.inl rfl,dig _ _ (Qb _) (qaa _)⟩,JL (Qb _) hgs];simp only[zq,zu,zM];refine Prod.ext ?_ rfl
     show A.length+(0+1)+(dg e.toNat).length=A.length+((dg e.toNat).length+1)
     omega
def FlT(L:List UInt8):Prop:=(∃c r,L=c::r∧isD c=true)∧∀(P R:List UInt8) (g:UInt8),g=32∨g=9→yo (P++(L++g::R)) P.length=(P.length+L.length,true)
theorem qew{I F X:List UInt8}{e:Int}(hI:∀c∈I,isD c=true)(hI0:I≠[])(hF:∀c∈F,isD c=true)(hF0:F≠[])(hX:XE X e):FlT (I++46::(F++X)):=by
 refine⟨?_,fun P R g hg=>?_⟩
 · cases I with
   | nil=>exact absurd rfl hI0
   | cons c r=>exact⟨c,_,rfl,hI c zE⟩
 · have e0:P++(I++46::(F++X)++g::R)=P++(I++(46::(F++(X++g::R)))):=by simp
   have h46:∀c,(46::(F++(X++g::R)))[0]?=some c→isD c=false:=fun c hc=>by cases hc;decide
   have hx:∀c,(X++g::R)[0]?=some c→isD c=false:=fun c hc=>by
    cases X with
    | nil=>cases hc;rcases hg with rfl | rfl <;> decide
    | cons d q=>cases hc;exact(qiz hX _ rfl).1
   have q0:rn (P++(I++(46::(F++(X++g::R))))) P.length=P.length+I.length:=by rw[JL hI h46,zq]
   have g0:(P++(I++(46::(F++(X++g::R)))))[P.length+I.length]?=some 46:=by
    rw[qm2,qad];rfl
   have e1:P++(I++(46::(F++(X++g::R))))=(P++I++[46])++(F++(X++g::R)):=by simp
   have l1:P.length+I.length+1=(P++I++[46]).length:=by simp only[zq,zu,zM]
   have hdig:qbv (P++(I++(46::(F++(X++g::R))))) (P.length+I.length+1)=true:=by
    rw[e1,l1];unfold qbv;rw[qad];cases F with
    | nil=>exact absurd rfl hF0
    | cons c r=>exact hF c zE
   have q1:rn (P++(I++(46::(F++(X++g::R))))) (P.length+I.length+1)=(P++I++[46]++F).length:=by rw[e1,l1,JL hF hx]
   rw[e0];unfold yo;rw[q0,g0,zA ⟨rfl,hdig⟩,q1];have e2:P++(I++(46::(F++(X++g::R))))=(P++I++[46]++F)++(X++g::R):=by simp
   rw[e2,qqm hX (.inr rfl) hg];refine Prod.ext ?_ rfl
   simp only[zq,zu,zM];omega
theorem qx8{I X:List UInt8}{e:Int}(hI:∀c∈I,isD c=true)(hI0:I≠[])(hX:XE X e)(hX0:X≠[]):FlT (I++X):=by
 refine⟨?_,fun P R g hg=>?_⟩
 · cases I with
   | nil=>exact absurd rfl hI0
   | cons c r=>exact⟨c,_,rfl,hI c zE⟩
 · have e0:P++(I++X++g::R)=P++(I++(X++g::R)):=by simp
   obtain⟨d,q,rfl⟩:∃d q,X=d::q:=by
    cases X with
    | nil=>exact absurd rfl hX0
    | cons d q=>exact⟨d,q,rfl⟩
   have hd:=qiz hX d rfl;have hx:∀c,(d::q++g::R)[0]?=some c→isD c=false:=fun c hc=>by cases hc;exact hd.1
   have q0:rn (P++(I++(d::q++g::R))) P.length=P.length+I.length:=by rw[JL hI hx,zq]
   have g0:(P++(I++(d::q++g::R)))[P.length+I.length]?=some d:=by
    rw[qm2,qad];rfl
   rw[e0];unfold yo;rw[q0,g0,zw (by rintro⟨h,_⟩;exact hd.2 (KR h))];have e2:P++(I++(d::q++g::R))=(P++I)++(d::q++g::R):=by simp
   have l2:P.length+I.length=(P++I).length:=by simp
   rw[e2,l2,qqm hX (.inl hX0) hg];refine Prod.ext ?_ rfl
   simp only[zq];omega
theorem qAc:FlT [48,46,48]:=qew (I:=[48]) (F:=[48]) (X:=[]) (e:=0) (by decide) (by decide) (by decide) (by decide) (.inl ⟨rfl,rfl⟩)
theorem qqn{d:List UInt8}{q:Int}(hd:∀c∈d,isD c=true)(hdn:d≠[])(hl:d.length≤1000)(h1 : -1000≤q)(h2:q≤1000):FlT (JJ d q):=by
 have dl:1≤d.length:=by
  cases d with
  | nil=>exact absurd rfl hdn
  | cons c r=>simp
 have X0:XE [] 0:=.inl ⟨rfl,rfl⟩
 unfold JJ;by_cases c1:0≤q∧(d.length:Int)+q≤21
 · rw[zA c1]
   have h:=qew (I:=d++zs q.toNat) (F:=[48]) (qby hd (qev _)) (by simp[hdn]) (by decide) (by decide) X0
   have e:d++zs q.toNat++[46,48]=(d++zs q.toNat)++46::([48]++[]):=by simp
   rw[e];exact h
 · rw[zw c1]
   by_cases c2:q<0∧0<(d.length:Int)+q
   · rw[zA c2]
     generalize hk:((d.length:Int)+q).toNat=k
     have h:=qew (I:=d.take k) (F:=d.drop k) (fun c hc=>hd c (K5 hc)) (fun h=>by have:=congrArg List.length h;simp only[zL,zM]at this;omega) (fun c hc=>hd c (KB hc)) (fun h=>by have:=congrArg List.length h;simp only[zV,zM]at this;omega) X0
     have e:d.take k++[46]++d.drop k=d.take k++46::(d.drop k++[]):=by simp
     rw[e];exact h
   · rw[zw c2]
     by_cases c3:(d.length:Int)+q≤0∧-5≤(d.length:Int)+q
     · rw[zA c3]
       generalize hk:(-((d.length:Int)+q)).toNat=k
       have h:=qew (I:=[48]) (F:=zs k++d) (by decide) (by decide) (qby (qev _) hd) (by simp[hdn]) X0
       have e:[48,46]++zs k++d=[48]++46::((zs k++d)++[]):=by simp
       rw[e];exact h
     · rw[zw c3]
       have X1:XE (101::itT ((d.length:Int)+q-1)) ((d.length:Int)+q-1):=.inr ⟨rfl,by omega,by omega⟩
       by_cases c4:1<d.length
       · rw[zA c4]
         have h:=qew (I:=d.take 1) (F:=d.drop 1) (fun c hc=>hd c (K5 hc)) (fun h=>by have:=congrArg List.length h;simp only[zL,zM]at this;omega) (fun c hc=>hd c (KB hc)) (fun h=>by have:=congrArg List.length h;simp only[zV,zM]at this;omega) X1
         have e:d.take 1++46::d.drop 1++101::itT ((d.length:Int)+q-1)=d.take 1++46::(d.drop 1++101::itT ((d.length:Int)+q-1)):=by simp
         rw[e];exact h
       · rw[zw c4]
         have ht:d.take 1=d:=zJ (by omega)
         rw[ht,KH];exact qx8 hd hdn X1 (by simp)
theorem qx9{c:UInt8}(h:isD c=true):j9 c=false:=by
 have:=jY.1 h
 unfold j9;cases h1:Nat.ble 65 c.toNat with
 | true=>have:=zo h1;omega
 | false=>
  cases h2:Nat.ble 97 c.toNat with
  | true=>have:=zo h2;omega
  | false=>
   cases h3:Nat.beq c.toNat 95 with
   | true=>have:=zf h3;omega
   | false=>rfl
theorem qya{P R L:List UInt8}{g:UInt8}{f:Int}(hF:FlT L)(hl:L.length≤400)(hp:yX L=(f,0))(hg:g=32∨g=9) :
 yg (P++(L++g::R)) P.length=((3,((P.length:Nat):Int),bs [],0,f),((P.length+L.length:Nat):Int),0):=by
 obtain⟨⟨c,r,hc,hcd⟩,hN⟩:=hF;have h0:(P++(L++g::R))[P.length]?=some c:=by rw[qad,hc];rfl
 have ht:((P++(L++g::R)).drop P.length).take (P.length+L.length-P.length)=L:=by
  rw[We,Vk,VI]
 have hv:∀t:Tk,qcc t L true=((3,t.2.1,t.2.2.1,t.2.2.2.1,f),0):=fun t=>by
  unfold qcc;rw[zw (by omega),zA rfl,hp,zA rfl]
 unfold yg;rw[h0,zw (by show¬j9 c=true;rw[qx9 hcd];decide),zA (by exact hcd),hN P R g hg];simp only[ht,hv]
theorem qqo{S:List UInt8}(h:(yX S).2=0):∃k:Nat,k≤jB∧(yX S).1=(k:Int):=by
 unfold yX at h ⊢
 by_cases h1:400<S.length
 · rw[zA h1]at h
   have h:(81:Int)=0:=h
   omega
 · rw[zw h1]at h ⊢
   by_cases h2:(ptL S).2.2=false
   · rw[zA h2]at h
     have h:(80:Int)=0:=h
     omega
   · rw[zw h2]at h ⊢
     have hd:=qlx S;obtain⟨b1,_,_⟩:=qvJ S;generalize (ptL S).1=D at *
     generalize (ptL S).2.1=pw at *
     have tl:(D.dropWhile (· == 48)).length≤D.length:=(V8 _).length_le
     have tp:=@qpY (D.dropWhile (· == 48)) D rfl hd
     generalize D.dropWhile (· == 48)=t at *
     unfold qjP at h ⊢
     by_cases h3:t=[]∨(t.length:Int)+pw < -325
     · rw[zA h3];exact⟨0,by unfold jB;omega,rfl⟩
     · rw[zw h3]at h ⊢
       by_cases h4:320<(t.length:Int)+pw
       · rw[zA h4]at h
         have h:(82:Int)=0:=h
         omega
       · rw[zw h4]at h ⊢
         by_cases h5:Qg false 0 (dv t*pT pw) (pU pw)=9218868437227405312
         · rw[zA h5]at h
           have h:(82:Int)=0:=h
           omega
         · rw[zw h5]
           obtain⟨hs,d0⟩:=tp (fun e=>h3 (.inl e))
           have h3b : ¬(t.length:Int)+pw < -325:=fun e=>h3 (.inr e)
           have bn:qf (dv t)≤1601:=by have:=Jq (qfw t hs);omega
           have bt:qf (pT pw)≤1681:=qit (by omega)
           have bu:qf (pU pw)≤2941:=by have:=Qf (-pw).toNat;unfold pU;omega
           have bp:=yt (dv t) (pT pw)
           have hm:dv t*pT pw≠0:=V5 d0 (by have:=J3 pw;omega)
           have hu:pU pw≠0:=by have:=yV pw;omega
           have p1:=jl hm;have p2:=jl hu;have nr:=ZV hm hu (by unfold jd;omega) (by unfold jd;omega)
           exact⟨_,by have:=nr.2.2;unfold jB at *;omega,rfl⟩
theorem qlF{k n:Nat}{q:Int}(h:IsD k n q):okF (lb (Ji n q).1) (Ji n q).2=true:=by
 obtain⟨h0,h1,h2,h3,_⟩:=h;have hl:=qel h1;have ht:=qfy 48 (dg n)
 obtain⟨c,r,e,hc⟩:=qqf (n:=n) (by omega)
 have hp:0<(jL 48 (dg n)).length:=by rw[e,qiy hc];simp
 unfold Ji;refine qdb.2 ?_
 simp only[qC];omega
theorem quy:yX [48,46,48]=(0,0):=by
 have h:ptL [48,46,48]=([48,48],-1,true):=by decide +kernel
 unfold yX;rw[h,zw (by decide),zw (fun h=>by cases h)];rfl
theorem qqp{k:Nat}(hk:k≤jB):∃L,yW (k:Int)=some (bs L)∧L.length≤26∧yX L=((k:Int),0)∧FlT L:=by
 have hg:inR .u64 (k:Int)=true:=qc3.2 ⟨by omega,by unfold jB at hk;omega⟩
 have hb:bK (Int.toNat (k:Int))=k:=by rw[zd];exact qg0 (by unfold jB at hk;omega)
 have hsg:sgL (k:Int)=[]:=by
  unfold sgL;rw[zk (by rw[JH];intro h;unfold jB at hk;omega)];rfl
 obtain⟨x,hx,hP⟩:=qpW (f:=(k:Int)) hg
 have hv:=Zl k;have n4 : ¬((j8 (bK (Int.toNat (k:Int))):Nat):Int)=4:=by
  rw[hb];intro h;unfold jB at hk;revert hv;(repeat' split) <;> omega
 have n3 : ¬((j8 (bK (Int.toNat (k:Int))):Nat):Int)=3:=by
  rw[hb];intro h;unfold jB at hk;revert hv;(repeat' split) <;> omega
 rcases hP with⟨c2,c1,rfl⟩ | ⟨hc,n,q,hD,rfl⟩
 · rw[hb]at c1 c2
   have hc:j8 k=0:=by rw[hb]at n3 n4;revert hv;(repeat' split) <;> omega
   have h0:k=0:=by rw[hc]at hv;revert hv;(repeat' split) <;> omega
   subst h0;refine⟨[48,46,48],?_,by decide,quy,qAc⟩
   unfold yW;rw[bdF n4,bdF n3,bdT (by rw[hb,hc];rfl),hsg];rfl
 · rw[hb]at hc hD
   obtain⟨hk',hk0⟩:=qlv hc;have n0 : ¬((j8 (bK (Int.toNat (k:Int))):Nat):Int)=0:=by rw[hb];omega
   obtain⟨b1,b2⟩:=quw hk' hk0 hD;have f1:Qk (Ji n q)=some (bs (JJ (lb (Ji n q).1) (Ji n q).2)):=by unfold Qk;rw[qlF hD];rfl
   have ho:=qdb.1 (qlF hD)
   have hdig:∀c∈lb (Ji n q).1,isD c=true:=fun c hc=>by
    have hc:c∈jL 48 (dg n):=hc
    obtain⟨m,hm⟩:=qiA (dg n)
    exact Qb n c (by rw[hm];exact Kf.2 (.inl hc))
   refine⟨_,?_,b1,b2,qqn hdig (fun h=>by have:=ho.1;rw[h]at this;simp at this) ho.2.1 ho.2.2.1 ho.2.2.2⟩
   unfold yW;rw[bdF n4,bdF n3,bdF n0,hx];simp only[zh,f1,qC,hsg,zH]
end Su
end
section
namespace Su
open Go Fly
noncomputable section
abbrev Tb:=Int×(ByteArray×Int×Int)
def tb0(t:Tk):Tb:=(t.1,t.2.2)
def WT(t:Tb):Prop :=
 (∃l c r,l=c::r∧j9 c=true∧(∀c∈l,Qt c=true)∧l.length≤32∧t=(bif YI l then 4 else 1,bs l,0,0)) ∨
 (∃n:Nat,n≤2147483647∧t=(2,bs [],(n:Int),0)) ∨
 (∃k:Nat,k≤jB∧t=(3,bs [],0,(k:Int))) ∨
 (∃l c r,l=c::r∧j9 c=false∧isD c=false∧SgT l∧t=(5,bs l,0,0))
theorem qyb{p:UInt8→Bool}{l:List UInt8}{n:Nat}(h:n≤(l.takeWhile p).length):∀c∈l.take n,p c=true:=fun c hc=>by
 have hp:l.takeWhile p <+: l:=List.takeWhile_prefix _
 have e:l.take n=(l.takeWhile p).take n:=by
  rw[VX.1 hp,List.take_take,Va h]
 rw[e]at hc;exact(Ke.1 (List.all_takeWhile (p:=p) (l:=l))) c (K5 hc)
theorem qyc{R:List UInt8}(h:QK R≠[]):∃c r q,QK R=c::r∧R=c::q:=by
 cases R with
 | nil=>exact absurd rfl h
 | cons c q=>
  unfold QK at h ⊢
  split
  · exact⟨c,_,q,Wt,rfl⟩
  · rename_i h1
    rw[zw h1]at h;split
    · exact⟨c,_,q,Wt,rfl⟩
    · rename_i h2
      rw[zw h2]at h;exact absurd rfl h
theorem quz{S:List UInt8}{i:Nat}{c:UInt8}(h:S[i]?=some c):S.drop i=c::S.drop (i+1):=by
 obtain⟨hi,e⟩:=zr.1 h
 rw[zY hi,e]
theorem qyd{S:List UInt8}{i:Nat}(hi:i<S.length)(h:(yg S i).2.2=0):WT (tb0 (yg S i).1):=by
 obtain⟨c,hc⟩:∃c,S[i]?=some c:=⟨_,zt hi⟩
 have hd:=quz hc;unfold yg at h ⊢
 rw[hc]at h ⊢;by_cases h1:(some c).any j9=true
 · rw[zA h1]at h ⊢
   have h1:j9 c=true:=h1
   have h2:Qt c=true:=by unfold Qt;rw[h1];rfl
   have hs:spI S i-i=((S.drop i).takeWhile Qt).length:=by unfold spI;omega
   have hn:1≤spI S i-i:=by
    rw[hs,hd,VL,h2];simp
   obtain⟨n,hn⟩:∃n,spI S i-i=n+1:=⟨spI S i-i-1,by omega⟩
   have h32:spI S i-i≤32:=by
    by_cases h32:32<spI S i-i
    · have h:(if 32<spI S i-i then(91:Int)else 0)=0:=h
      rw[zA h32]at h;omega
    · omega
   refine .inl ⟨(S.drop i).take (spI S i-i),c,(S.drop (i+1)).take n,?_,h1,qyb (by omega),?_,rfl⟩
   · rw[hn,hd,Wt]
   · rw[zL];omega
 · rw[zw h1]at h ⊢
   have h1:j9 c=false:=by
    cases hb:j9 c with
    | false=>rfl
    | true=>exact absurd hb h1
   by_cases h2:(some c).any isD=true
   · rw[zA h2]at h ⊢
     have h:(qcc (0,(i:Int),bs [],0,0) ((S.drop i).take ((yo S i).1-i)) (yo S i).2).2=0:=h
     show WT (tb0 (qcc (0,(i:Int),bs [],0,0) ((S.drop i).take ((yo S i).1-i)) (yo S i).2).1)
     generalize (S.drop i).take ((yo S i).1-i)=l at *
     generalize (yo S i).2=fl at *
     unfold qcc at h ⊢
     by_cases g1:400<l.length
     · rw[zA g1]at h
       have h:(91:Int)=0:=h
       omega
     · rw[zw g1]at h ⊢
       by_cases g2:fl=true
       · rw[zA g2]at h ⊢
         by_cases g3:(yX l).2=0
         · rw[zA g3]
           obtain⟨k,k1,k2⟩:=qqo g3;refine .inr (.inr (.inl ⟨k,k1,?_⟩))
           rw[k2];rfl
         · rw[zw g3]at h
           have h:(93:Int)=0:=h
           omega
       · rw[zw g2]at h ⊢
         by_cases g3:2147483647<dv l
         · rw[zA g3]at h
           have h:(92:Int)=0:=h
           omega
         · rw[zw g3]
           exact .inr (.inl ⟨dv l,by omega,rfl⟩)
   · rw[zw h2]at h ⊢
     have h2:isD c=false:=by
      cases hb:isD c with
      | false=>rfl
      | true=>exact absurd hb h2
     by_cases h3:QK (S.drop i)=[]
     · rw[zA h3]at h
       have h:(90:Int)=0:=h
       omega
     · rw[zw h3]
       obtain⟨d,r,q,e1,e2⟩:=qyc h3;have:d=c:=by rw[hd]at e2;exact(List.cons.inj e2).1.symm
       subst this;exact .inr (.inr (.inr ⟨_,d,r,e1,h1,h2,qx6 h3,rfl⟩))
theorem qlG{S:List UInt8}:∀(f i:Nat),(Q7 S f i).2.1=0→∃ts,(Q7 S f i).1=ts++[J6 S]∧ts.length≤f∧∀t∈ts,WT (tb0 t)
 | 0,i,h=>⟨[],rfl,zI 0,fun t ht=>by cases ht⟩
 | f+1,i,h=>by
  rw[Q7]at h ⊢;by_cases hl:i<S.length
  · rw[zA hl]at h ⊢
    by_cases he:(yg S i).2.2=0
    · rw[zA he]at h ⊢
      by_cases hq:(Q7 S f (skE S (yg S i).2.1.toNat)).2.1=0
      · rw[zA hq]
        obtain⟨ts,e1,e2,e3⟩:=qlG f _ hq;refine⟨(yg S i).1::ts,?_,by rw[zu];omega,fun t ht=>?_⟩
        · rw[e1];rfl
        · rcases zS.1 ht with rfl | ht
          · exact qyd hl he
          · exact e3 t ht
      · rw[zw hq]at h
        exact absurd h hq
    · rw[zw he]at h
      exact absurd h he
  · rw[zw hl]
    exact⟨[],rfl,WJ _,fun t ht=>by cases ht⟩
def Wrd(t:Tb)(W:List UInt8):Prop :=
 1≤W.length∧W.length≤32∧∀(P R:List UInt8) (g:UInt8),g=32∨g=9→sk false (W++g::R)=0∧yg (P++(W++g::R)) P.length=((t.1,((P.length:Nat):Int),t.2),((P.length+W.length:Nat):Int),0)
theorem qye{c:UInt8}{r:List UInt8}(h1:YW c=false)(h2:c≠47∨r.head?≠some 47):sk false (c::r)=0:=by
 rw[sk,zw (by rw[h1];decide),zw]
 rintro⟨a,b⟩
 rcases h2 with h2 | h2
 · exact h2 a
 · exact h2 b
theorem quA{c:UInt8}(h:Qt c=true):YW c=false∧c≠47:=by
 refine⟨?_,fun e=>?_⟩
 · cases hb:YW c with
   | false=>rfl
   | true=>
    exfalso;unfold YW at hb;simp only[VM,beq_iff_eq]at hb;rcases hb with rfl | rfl | rfl | rfl <;> revert h <;> decide
 · subst e;revert h;decide
theorem qqq{W:List UInt8}{c:UInt8}{r R:List UInt8}(hW:W=c::r)(h:Qt c=true):sk false (W++R)=0:=by
 subst hW;obtain⟨h1,h2⟩:=quA h;exact qye h1 (.inl h2)
theorem c1b:∀k,k<256→(Lib.contains sg1 [UInt8.ofNat k]=true→YW (UInt8.ofNat k)=false):=by decide +kernel
theorem cb2:∀k,k<256→(YW (UInt8.ofNat k)=true→∀j,j<256→(Lib.contains sg2 [UInt8.ofNat k,UInt8.ofNat j]=true→Lib.contains [UInt8.ofNat k,UInt8.ofNat j] [32]=true)):=by decide +kernel
theorem qAd{W:List UInt8}{g:UInt8}{R:List UInt8}(h:SgT W)(hg:g=32∨g=9):sk false (W++g::R)=0:=by
 rcases h with⟨a,b,rfl,h2,h3⟩ | ⟨a,rfl,h1⟩
 · refine qye ?_ ?_
   · cases hb:YW a with
     | false=>rfl
     | true=>
      exfalso;have:=qql (p:=fun a=>YW a=true→∀j,j<256→(Lib.contains sg2 [a,UInt8.ofNat j]=true→Lib.contains [a,UInt8.ofNat j] [32]=true)) cb2 a hb b.toNat b.toNat_lt
      rw[zy,h3]at this;cases this h2
   · refine .inl fun e=>?_
     subst e;rw[qql (p:=fun b=>Lib.contains sg2 [47,b]=false) c47 b]at h2;cases h2
 · refine qye (qql (p:=fun a=>Lib.contains sg1 [a]=true→YW a=false) c1b a h1) (.inr fun e=>?_)
   have e:some g=some 47:=e
   rcases hg with rfl | rfl <;> revert e <;> decide
def wdT(t:Tb):Option ByteArray:=if t.1=2 then some (bs (dg t.2.2.1.toNat))else if t.1=3 then yW t.2.2.2 else some t.2.1
theorem quB{t:Tb}(h:WT t):∃W,wdT t=some (bs W)∧Wrd t W:=by
 rcases h with⟨l,c,r,hl,hc,hi,h32,rfl⟩ | ⟨n,hn,rfl⟩ | ⟨k,hk,rfl⟩ | ⟨l,c,r,hl,h1,h2,hs,rfl⟩
 · refine⟨l,?_,by rw[hl];simp,h32,fun P R g hg=>⟨qqq hl (hi c (by rw[hl];exact zE)),?_⟩⟩
   · unfold wdT
     cases YI l <;> rfl
   · exact qx4 hl hc hi hg h32
 · have hl:(dg n).length≤10:=qcd (j:=9) (by omega)
   obtain⟨c,r,hc⟩:∃c r,dg n=c::r:=by
    cases h:dg n with
    | nil=>exact absurd h (qaa n)
    | cons c r=>exact⟨c,r,rfl⟩
   refine⟨dg n,?_,by rw[hc];simp,by omega,fun P R g hg=>⟨qqq hc ?_,qx5 hg hn⟩⟩
   · unfold wdT
     rw[zA rfl];show some (bs (dg (Int.toNat (n:Int))))=_
     rw[zd]
   · unfold Qt
     rw[Qb n c (by rw[hc];exact zE),Bool.or_true]
 · obtain⟨L,e1,e2,e3,e4⟩:=qqp hk
   have e5:=e4;obtain⟨⟨c,r,hc,hcd⟩,_⟩:=e5;refine⟨L,?_,by rw[hc];simp,by omega,fun P R g hg=>⟨qqq hc ?_,qya e4 (by omega) e3 hg⟩⟩
   · unfold wdT
     rw[zw (show¬(3:Int)=2 by decide),zA rfl];exact e1
   · unfold Qt
     rw[hcd,Bool.or_true]
 · have hlen:l.length≤2:=by
    rcases hs with⟨a,b,rfl,_⟩ | ⟨a,rfl,_⟩ <;> simp
   refine⟨l,rfl,by rw[hl];simp,by omega,fun P R g hg=>⟨qAd hs hg,qx7 hs hl h1 h2 hg⟩⟩
def jS(m:Nat):List (List UInt8)→List UInt8
 | []=>yB m
 | W::l=>W++(yB m++jS m l)
theorem qde(m:Nat):1≤(yB m).length∧(yB m).length≤11:=by unfold yB;split <;> simp
theorem qiB(m:Nat):∀l:List (List UInt8),l.length<(jS m l).length
 | []=>(qde m).1
 | W::l=>by
  have:=qiB m l
  have:=(qde m).1
  unfold jS;rw[zu,zq,zq];omega
inductive Wds:List Tb→List (List UInt8)→Prop
 | nil:Wds [] []
 | cons {t:Tb} {W:List UInt8} {ts:List Tb} {Ws:List (List UInt8)}:wdT t=some (bs W)→Wrd t W→Wds ts Ws→Wds (t::ts) (W::Ws)
theorem qqr:∀(ts:List Tb),(∀t∈ts,WT t)→∃Ws,Wds ts Ws
 | [],_=>⟨[],.nil⟩
 | t::ts,h=>by
  obtain⟨W,h1,h2⟩:=quB (h t zE)
  obtain⟨Ws,h3⟩:=qqr ts (fun t ht=>h t (zB _ ht))
  exact⟨_,.cons h1 h2 h3⟩
theorem qqs{m:Nat}:sk false (jS m [])=(yB m).length:=by
 have:=qjY m []
 rw[KH]at this;show sk false (yB m)=_
 rw[this];show(yB m).length+sk false []=_
 rfl
theorem qqt{m:Nat}{t:Tb}{W:List UInt8}{Ws:List (List UInt8)}(h2:Wrd t W):sk false (jS m (W::Ws))=0:=by
 obtain⟨g,r,hg,hg2⟩:=qqk m;show sk false (_++(yB m++jS m _))=0
 rw[hg,KJ];exact(h2.2.2 [] _ g hg2).1
theorem qiC{m:Nat}:∀ {ts:List Tb} {Ws:List (List UInt8)},Wds ts Ws→∀(P:List UInt8) (f:Nat),ts.length<f →
 ∃l,Q7 (P++jS m Ws) f (P.length+sk false (jS m Ws))=(l,0,0)∧l.map tb0=ts++[tb0 (J6 [])]
 | _,_,.nil,P,f,hf=>by
  obtain⟨f,rfl⟩:∃k,f=k+1:=⟨f-1,by omega⟩
  rw[qqs];refine⟨[J6 (P++jS m [])],?_,?_⟩
  · rw[Q7,zw]
    show¬P.length+(yB m).length<(P++yB m).length
    rw[zq];omega
  · rfl
 | _,_,.cons (t:=t) (W:=W) (ts:=ts) (Ws:=Ws) h1 h2 h3,P,f,hf=>by
  obtain⟨f,rfl⟩:∃k,f=k+1:=⟨f-1,by omega⟩
  obtain⟨g,r,hg,hg2⟩:=qqk m;rw[qqt (m:=m) (Ws:=Ws) h2];obtain⟨w1,w2,w3⟩:=h2;obtain⟨_,ht⟩:=w3 P (r++jS m Ws) g hg2
  have eb:jS m (W::Ws)=W++g::(r++jS m Ws):=by
   show W++(yB m++jS m Ws)=_
   rw[hg];rfl
  obtain⟨l,l1,l2⟩:=qiC (m:=m) h3 (P++(W++yB m)) f (by rw[zu]at hf;omega)
  have eS:P++(W++yB m)++jS m Ws=P++jS m (W::Ws):=by
   show _=P++(W++(yB m++jS m Ws))
   simp only[zR]
  rw[eS]at l1;have ek:skE (P++jS m (W::Ws)) (P.length+W.length)=(P++(W++yB m)).length+sk false (jS m Ws):=by
   unfold skE;have ed:(P++jS m (W::Ws)).drop (P.length+W.length)=yB m++jS m Ws:=by
    show(P++(W++(yB m++jS m Ws))).drop _=_
    rw[← zR,← zq,We]
   rw[ed,qjY,zq,zq];omega
  refine⟨(t.1,((P.length:Nat):Int),t.2)::l,?_,?_⟩
  · rw[show P.length+0=P.length from rfl,Q7,zA (by rw[eb];simp only[zq,zu];omega)]
    rw[← eb]at ht;rw[ht,zA rfl];simp only[zd];rw[ek,l1];rfl
  · rw[KV,l2];rfl
def qex(m:Nat)(Ws:List (List UInt8)):List UInt8:=yB m++jS m Ws
theorem qm4{m:Nat}{ts:List Tb}{Ws:List (List UInt8)}(h:Wds ts Ws)(hl:(qex m Ws).length≤16384) :
 ∃l,qeO (qex m Ws)=(l,0,0)∧l.map tb0=ts++[tb0 (J6 [])]:=by
 have hlen:ts.length=Ws.length:=by
  clear hl;induction h with
  | nil=>rfl
  | cons _ _ _ ih=>rw[zu,zu,ih]
 unfold qeO;rw[zw (by omega)];have e:sk false (qex m Ws)=(yB m).length+sk false (jS m Ws):=qjY m _
 have:=qiB m Ws
 rw[e];exact qiC h (yB m) _ (by unfold qex;rw[zq];omega)
end
end Su
end
section
namespace Su
open Go Fly
noncomputable section
def qyf  (t:(Int×Int×ByteArray×Int×Int)):Option ByteArray :=
 (bif(decide (t.1=1))then
 (bif(decide (t.1=1))then
 some t.2.2.1
 else
  (bif(decide (t.1=2))then
  (qaF (qes (decide ((IntKind.wrap .i64 t.2.2.2.1)<0)) (Int.natAbs (IntKind.wrap .i64 t.2.2.2.1)) 1)).bind fun x0=>
  some x0
 else
  (bif(decide (t.1=3))then
  (yW t.2.2.2.2).bind fun x1=>
  some x1
 else
  some (ByteArray.mk (List.toArray [])))))
 else
  (bif(decide (t.1=4))then
  (bif(decide (t.1=4))then
  some t.2.2.1
 else
  (bif(decide (t.1=2))then
  (qaF (qes (decide ((IntKind.wrap .i64 t.2.2.2.1)<0)) (Int.natAbs (IntKind.wrap .i64 t.2.2.2.1)) 1)).bind fun x2=>
  some x2
 else
  (bif(decide (t.1=3))then
  (yW t.2.2.2.2).bind fun x3=>
  some x3
 else
  some (ByteArray.mk (List.toArray [])))))
 else
  (bif(decide (t.1=5))then
  some t.2.2.1
 else
  (bif(decide (t.1=2))then
  (qaF (qes (decide ((IntKind.wrap .i64 t.2.2.2.1)<0)) (Int.natAbs (IntKind.wrap .i64 t.2.2.2.1)) 1)).bind fun x4=>
  some x4
 else
  (bif(decide (t.1=3))then
  (yW t.2.2.2.2).bind fun x5=>
  some x5
 else
  some (ByteArray.mk (List.toArray [])))))))
noncomputable section
theorem qAe{n:Nat}(h:n≤1000000000000):qaF (qes (decide ((n:Int)<0)) (Int.natAbs (n:Int)) 1)=some (bs (dg n)):=by
 rw[zk (by omega),Int.natAbs_natCast];have e:qes false n 1=(false,ofN n,ofN 1):=by
  rw[qg5];unfold qix;by_cases h0:n=0
  · subst h0;rfl
  · rw[zw (by omega),Nat.gcd_one_right,V9,V9]
 rw[e];have g:qur (false,ofN n,ofN 1)=true:=by
  unfold qur;show(okL (ofN n)&&okL (ofN 1))=true
  rw[Yq (by omega),Yq (by omega)];rfl
 unfold qaF;rw[g];simp only[valN_ofN];rw[zp (by omega)];rfl
def Zw(t:Tk):Option ByteArray :=
 if t.1=2 then(if 0≤t.2.2.2.1∧t.2.2.2.1≤2147483647 then some (bs (dg t.2.2.2.1.toNat))else none)else if t.1=3 then yW t.2.2.2.2 else if t.1=0 then some (bs [])else if t.1=1∨t.1=4∨t.1=5 then some t.2.2.1 else none
theorem quC(t:Tk)(y:ByteArray)(hg:(d1 cTk).good t)(h:Zw t=some y):qyf t=some y:=by
 clear hg;obtain⟨k,i,s,n,f⟩:=t;unfold Zw at h;simp only[]at h;unfold qyf;simp only[];by_cases h2:k=2
 · subst h2
   rw[zA rfl]at h;by_cases hn:0≤n∧n≤2147483647
   · rw[zA hn]at h
     obtain⟨m,rfl⟩:∃m:Nat,n=((m:Nat):Int):=⟨n.toNat,by omega⟩
     rw[zd]at h;rw[w64 (by omega) (by omega),qAe (by omega)];exact h
   · rw[zw hn]at h;cases h
 · rw[zw h2]at h
   by_cases h3:k=3
   · subst h3
     rw[zA rfl]at h;rw[h];rfl
   · rw[zw h3]at h
     by_cases h0:k=0
     · subst h0
       rw[zA rfl]at h;exact h
     · rw[zw h0]at h
       by_cases hk:k=1∨k=4∨k=5
       · rw[zA hk]at h
         rcases hk with rfl | rfl | rfl <;> exact h
       · rw[zw hk]at h;cases h
theorem quD{t:Tk}{W:ByteArray}(h:WT (tb0 t))(hW:wdT (tb0 t)=some W):Zw t=some W:=by
 obtain⟨k,i,s,n,f⟩:=t;unfold WT tb0 at h;unfold wdT tb0 at hW;unfold Zw;simp only[Kk]at h hW ⊢;rcases h with⟨l,c,r,hl,hc,hi,h32,e1,e2,e3,e4⟩ | ⟨m,hm,e1,e2,e3,e4⟩ | ⟨m,hm,e1,e2,e3,e4⟩ | ⟨l,c,r,hl,h1,h2,hs,e1,e2,e3,e4⟩
 · subst e1
   generalize YI l=b at hW ⊢
   cases b <;> exact hW
 · subst e1 e3
   rw[zA rfl]at hW ⊢;rw[zA ⟨by omega,by omega⟩];exact hW
 · subst e1
   exact hW
 · subst e1
   exact hW
theorem qqu(S:List UInt8):Zw (J6 S)=some (bs []):=rfl
end
end
end Su
end
section
namespace Su
open Go Fly
noncomputable section
def QZ:Stp (Bool×(List (Int×Int×ByteArray×Int×Int))×ByteArray×ByteArray×Int×Unit):=fun p1=>(bif(decide (p1.2.2.2.2.1<(List.length p1.2.1:Int)))then
 (idx p1.2.1 p1.2.2.2.2.1).bind fun x2=>
 (Zw x2).bind fun x3=>
 (bif(Nat.ble ((ByteArray.size p1.2.2.2.1)+(ByteArray.size x3)) 549755813888)then
 (bif(Nat.ble ((ByteArray.size (p1.2.2.2.1++x3))+(ByteArray.size p1.2.2.1)) 549755813888)then
 some (.inl (p1.1,p1.2.1,p1.2.2.1,((p1.2.2.2.1++x3)++p1.2.2.1),(IntKind.wrap .i64 (p1.2.2.2.2.1+1)),()))
 else none)
 else none)
 else
  some (.inr (p1.1,p1.2.1,p1.2.2.1,p1.2.2.2.1,p1.2.2.2.2.1,())))
def JX:(Bool×(List (Int×Int×ByteArray×Int×Int))×ByteArray×ByteArray×Int×(List (Int×Int×ByteArray×Int×Int))×Int×Unit)→Option ((Bool×(List (Int×Int×ByteArray×Int×Int))×ByteArray×ByteArray×Int×(List (Int×Int×ByteArray×Int×Int))×Int×Unit) ⊕ (Lp (Bool×(List (Int×Int×ByteArray×Int×Int))×ByteArray×ByteArray×Int×(List (Int×Int×ByteArray×Int×Int))×Int×Unit) Bool)):=fun p6=>(bif(decide (p6.2.2.2.2.2.2.1<(List.length p6.2.1:Int)))then
 (idx p6.2.1 p6.2.2.2.2.2.2.1).bind fun x7=>
 (idx p6.2.2.2.2.2.1 p6.2.2.2.2.2.2.1).bind fun x8=>
 (idx p6.2.2.2.2.2.1 p6.2.2.2.2.2.2.1).bind fun x9=>
 (bif(!((decide (x7.1=x9.1))&&((decide (x8.2.1=x9.2.1))&&((decide (x7.2.2.1=x9.2.2.1))&&((decide (x7.2.2.2.1=x9.2.2.2.1))&&((decide (x7.2.2.2.2=x9.2.2.2.2))&&true))))))then
 some (.inr (.ret false))
 else
  some (.inl (p6.1,p6.2.1,p6.2.2.1,p6.2.2.2.1,p6.2.2.2.2.1,p6.2.2.2.2.2.1,(IntKind.wrap .i64 (p6.2.2.2.2.2.2.1+1)),())))
 else
  some (.inr (.exit 3 (p6.1,p6.2.1,p6.2.2.1,p6.2.2.2.1,p6.2.2.2.2.1,p6.2.2.2.2.2.1,p6.2.2.2.2.2.2.1,()))))
def qqv  (fu:Nat)(s:ByteArray)(between:Int):Option Bool :=
 (bif(decide (1024<(ByteArray.size s:Int)))then
 some true
 else
  (JK s).bind fun x0=>
  (bif(!(decide (x0.2.1=0)))then
  some true
 else
  (bif(decide ((Fly.qR Go.BinOp.and .i64 between 3)=1))then
  (itP fu (QZ) (true,x0.1,(ByteArray.mk (List.toArray [9,13,10,32])),(ByteArray.mk (List.toArray [9,13,10,32])),(0:Int),())).bind fun x4=>
  (JK x4.2.2.2.1).bind fun x5=>
  (bif(decide (16384<(ByteArray.size x4.2.2.2.1:Int)))then
  (bif x4.1 then
  some (decide (x5.2.1=91))
 else
  some false)
 else
  (bif(!(decide (x5.2.1=0)))then
  some false
 else
  (bif(!(decide (x5.2.2=0)))then
  some false
 else
  (bif(!(decide ((List.length x4.2.1:Int)=(List.length x5.1:Int))))then
  some false
 else
  (itP fu (JX) (x4.1,x4.2.1,x4.2.2.1,x4.2.2.2.1,x4.2.2.2.2.1,x5.1,(0:Int),())).bind fun x10=>
  (match x10 with
 | .exit i11 p12=>(bif(Nat.beq i11 3)then
  some p12.1
 else none)
 | .ret o13=>some o13)))))
 else
  (bif(decide ((Fly.qR Go.BinOp.and .i64 between 3)=2))then
  (itP fu (QZ) (true,x0.1,(ByteArray.mk (List.toArray [32,47,47,32,120,32,61,32,49,59,10])),(ByteArray.mk (List.toArray [32,47,47,32,120,32,61,32,49,59,10])),(0:Int),())).bind fun x17=>
  (JK x17.2.2.2.1).bind fun x18=>
  (bif(decide (16384<(ByteArray.size x17.2.2.2.1:Int)))then
  (bif x17.1 then
  some (decide (x18.2.1=91))
 else
  some false)
 else
  (bif(!(decide (x18.2.1=0)))then
  some false
 else
  (bif(!(decide (x18.2.2=0)))then
  some false
 else
  (bif(!(decide ((List.length x17.2.1:Int)=(List.length x18.1:Int))))then
  some false
 else
  (itP fu (JX) (x17.1,x17.2.1,x17.2.2.1,x17.2.2.2.1,x17.2.2.2.2.1,x18.1,(0:Int),())).bind fun x23=>
  (match x23 with
 | .exit i24 p25=>(bif(Nat.beq i24 3)then
  some p25.1
 else none)
 | .ret o26=>some o26)))))
 else
  (bif(decide ((Fly.qR Go.BinOp.and .i64 between 3)=3))then
  (itP fu (QZ) (true,x0.1,(ByteArray.mk (List.toArray [32,47,47,10,47,47,10])),(ByteArray.mk (List.toArray [32,47,47,10,47,47,10])),(0:Int),())).bind fun x30=>
  (JK x30.2.2.2.1).bind fun x31=>
  (bif(decide (16384<(ByteArray.size x30.2.2.2.1:Int)))then
  (bif x30.1 then
  some (decide (x31.2.1=91))
 else
  some false)
 else
  (bif(!(decide (x31.2.1=0)))then
  some false
 else
  (bif(!(decide (x31.2.2=0)))then
  some false
 else
  (bif(!(decide ((List.length x30.2.1:Int)=(List.length x31.1:Int))))then
  some false
 else
  (itP fu (JX) (x30.1,x30.2.1,x30.2.2.1,x30.2.2.2.1,x30.2.2.2.2.1,x31.1,(0:Int),())).bind fun x36=>
  (match x36 with
 | .exit i37 p38=>(bif(Nat.beq i37 3)then
  some p38.1
 else none)
 | .ret o39=>some o39)))))
 else
  (itP fu (QZ) (true,x0.1,(ByteArray.mk (List.toArray [32])),(ByteArray.mk (List.toArray [32])),(0:Int),())).bind fun x43=>
  (JK x43.2.2.2.1).bind fun x44=>
  (bif(decide (16384<(ByteArray.size x43.2.2.2.1:Int)))then
  (bif x43.1 then
  some (decide (x44.2.1=91))
 else
  some false)
 else
  (bif(!(decide (x44.2.1=0)))then
  some false
 else
  (bif(!(decide (x44.2.2=0)))then
  some false
 else
  (bif(!(decide ((List.length x43.2.1:Int)=(List.length x44.1:Int))))then
  some false
 else
  (itP fu (JX) (x43.1,x43.2.1,x43.2.2.1,x43.2.2.2.1,x43.2.2.2.2.1,x44.1,(0:Int),())).bind fun x49=>
  (match x49 with
 | .exit i50 p51=>(bif(Nat.beq i50 3)then
  some p51.1
 else none)
 | .ret o52=>some o52))))))))))
noncomputable section
theorem itn{S R:Type}{n:Nat}{F:S→Option (S ⊕ R)}{s s':S}{r:R}(h:F s=some (.inl s'))(hn:itP n F s'=some r):itP (n+1) F s=some r:=by rw[jr,h];exact hn
theorem itx{S R:Type}{n:Nat}{F:S→Option (S ⊕ R)}{s:S}{r:R}(h:F s=some (.inr r)):itP (n+1) F s=some r:=by rw[jr,h];rfl
theorem qg7{a:List Tk}{j:Nat}{t:Tk}(h:a[j]?=some t):idx a (j:Int)=some t:=by
 rw[QX];exact h
theorem qlH{a:List Tk}{j:Nat}{t:Tk}{r:List Tk}(h:a.drop j=t::r):a[j]?=some t∧a.drop (j+1)=r∧a.length=j+1+r.length:=by
 have h1:(a.drop j)[0]?=a[j]?:=by rw[K6];rfl
 have h2:(a.drop j).drop 1=a.drop (j+1):=by rw[List.drop_drop]
 have h3:(a.drop j).length=a.length-j:=zV
 rw[h]at h1 h2 h3;refine⟨h1.symm,h2.symm,?_⟩
 rw[zu]at h3;omega
abbrev WrS:=Bool×(List Tk×ByteArray×ByteArray×Int×Unit)
abbrev wrS(a:List Tk)(g t:List UInt8)(j:Nat):WrS:=(true,a,bs g,bs t,(j:Int),())
theorem qlI{a:List Tk}{g T0 W:List UInt8}{j:Nat}{t:Tk}(hj:j<1000000)(h:a[j]?=some t)(hW:Zw t=some (bs W))(hl:(T0++(W++g)).length≤1000000) :
 QZ (wrS a g T0 j)=some (.inl (wrS a g (T0++(W++g)) (j+1))):=by
 have hlt:j<a.length:=(zr.1 h).1
 have hw:IntKind.i64.wrap ((j:Int)+1)=((j+1:Nat):Int):=by rw[w64 (by omega) (by omega)];omega
 rw[zq,zq]at hl;unfold QZ;simp only[hw];rw[bdT (by omega)];refine obs (qg7 h) ?_
 refine obs hW ?_
 simp only[qM,qe];rw[bdB (by omega),bdB (by rw[zq];omega),zR]
theorem qyg{a:List Tk}{g T0:List UInt8}:QZ (wrS a g T0 a.length)=some (.inr (wrS a g T0 a.length)):=by
 unfold QZ;simp only[];rw[bdF (by omega)]
theorem qqw{a:List Tk}{S:List UInt8}{m:Nat}:∀(ts:List Tk) (Ws:List (List UInt8)),Wds (ts.map tb0) Ws→(∀t∈ts,WT (tb0 t))→∀(j:Nat) (T0:List UInt8) (f:Nat),a.drop j=ts++[J6 S]→(T0++jS m Ws).length≤1000000→j+ts.length<100000 →
 itP (ts.length+2+f) QZ (wrS a (yB m) T0 j)=some (wrS a (yB m) (T0++jS m Ws) a.length)
 | [],Ws,hW,_,j,T0,f,hd,hl,hj=>by
  cases hW;obtain⟨h1,h2,h3⟩:=qlH (show a.drop j=J6 S::[] from hd)
  rw[show[].length+2+f=f+1+1 by simp;omega];refine itn (qlI (W:=[]) (by omega) h1 (qqu S) hl) ?_
  rw[zM,KA]at h3;rw[← h3];exact itx qyg
 | t::ts,_,.cons (W:=W) (Ws:=Ws) e1 e2 e3,hT,j,T0,f,hd,hl,hj=>by
  obtain⟨h1,h2,h3⟩:=qlH (show a.drop j=t::(ts++[J6 S]) from hd)
  have eb:T0++jS m (W::Ws)=T0++(W++yB m)++jS m Ws:=by
   show T0++(W++(yB m++jS m Ws))=_
   simp only[zR]
  rw[zu]at hj ⊢;rw[eb]at hl ⊢;rw[show ts.length+1+2+f=ts.length+2+f+1 by omega];refine itn (qlI (W:=W) (by omega) h1 (quD (hT t zE) e1) ?_) ?_
  · rw[zq]at hl;omega
  · exact qqw ts Ws e3 (fun t ht=>hT t (zB _ ht)) (j+1) _ f h2 hl (by omega)
theorem quE{m:Nat}{ts:List Tb}{Ws:List (List UInt8)}(h:Wds ts Ws):(jS m Ws).length≤43*ts.length+11:=by
 have g:=qde m;induction h with
 | nil=>
  show(yB m).length≤_
  rw[zM];omega
 | cons e1 e2 e3 ih=>
  have:=e2.2.1
  show(_++(yB m++jS m _)).length≤_
  rw[zq,zq,zu];omega
abbrev CmS:=Bool×(List Tk×ByteArray×ByteArray×Int×List Tk×Int×Unit)
abbrev cmS(a b:List Tk)(g t:ByteArray)(n:Int)(j:Nat):CmS:=(true,a,g,t,n,b,(j:Int),())
theorem qqx{a b:List Tk}{g t:ByteArray}{n:Int}(hab:a.map tb0=b.map tb0)(hla:a.length<100000):∀(k j f:Nat),j+k=a.length→∃p,itP (k+1+f) JX (cmS a b g t n j)=some (.exit 3 p)∧p.1=true
 | 0,j,f,h=>by
  refine⟨cmS a b g t n j,?_,rfl⟩
  rw[show 0+1+f=f+1 by omega];refine itx ?_
  unfold JX;simp only[];rw[bdF (by omega)]
 | k+1,j,f,h=>by
  have hlen:a.length=b.length:=by have:=congrArg List.length hab;simpa using this
  obtain⟨p,hp1,hp2⟩:=qqx (g:=g) (t:=t) (n:=n) hab hla k (j+1) f (by omega)
  refine⟨p,?_,hp2⟩
  obtain⟨x,hx⟩:∃x,a[j]?=some x:=⟨_,zt (by omega)⟩
  obtain⟨y,hy⟩:∃y,b[j]?=some y:=⟨_,zt (by omega)⟩
  have hxy:tb0 x=tb0 y:=by
   have e:=congrArg (fun l:List Tb=>l[j]?) hab
   simp only[Kq,hx,hy,Wj,za]at e;exact e
  obtain⟨x1,x2,x3,x4,x5⟩:=x;obtain⟨y1,y2,y3,y4,y5⟩:=y;unfold tb0 at hxy;simp only[Kk]at hxy;obtain⟨e1,e3,e4,e5⟩:=hxy;subst e1 e3 e4 e5
  have hw:IntKind.i64.wrap ((j:Int)+1)=((j+1:Nat):Int):=by rw[w64 (by omega) (by omega)];omega
  rw[show k+1+1+f=k+1+f+1 by omega];refine itn ?_ hp1
  unfold JX;simp only[hw];rw[bdT (by omega)];refine obs (qg7 hx) ?_
  refine obs (qg7 hy) ?_
  refine obs (qg7 hy) ?_
  simp only[WM,Ki,Wq,zm]
def blX(fu:Nat)(a:List Tk)(g:ByteArray):Option Bool :=
 (itP fu (QZ) (true,a,g,g,(0:Int),())).bind fun x4=>
 (JK x4.2.2.2.1).bind fun x5=>
 (bif(decide (16384<(ByteArray.size x4.2.2.2.1:Int)))then
 (bif x4.1 then some (decide (x5.2.1=91))else some false)
 else
  (bif(!(decide (x5.2.1=0)))then some false else
  (bif(!(decide (x5.2.2=0)))then some false else
  (bif(!(decide ((List.length x4.2.1:Int)=(List.length x5.1:Int))))then some false else
  (itP fu (JX) (x4.1,x4.2.1,x4.2.2.1,x4.2.2.2.1,x4.2.2.2.2.1,x5.1,(0:Int),())).bind fun x10=>
  (match x10 with
 | .exit i11 p12=>(bif(Nat.beq i11 3)then some p12.1 else none)
 | .ret o13=>some o13)))))
theorem qyh{S:List UInt8}{m:Nat}{ts:List Tk}{Ws:List (List UInt8)}(hW:Wds (ts.map tb0) Ws)(hT:∀t∈ts,WT (tb0 t))(hl:ts.length≤1025):blX 5000 (ts++[J6 S]) (bs (yB m))=some true:=by
 have hb:=quE (m:=m) hW
 have hg:=qde m;rw[zK]at hb;have r1:=qqw (a:=ts++[J6 S]) (S:=S) (m:=m) ts Ws hW hT 0 (yB m) (5000-(ts.length+2)) (by rw[KM]) (by rw[zq];omega) (by omega)
 rw[show ts.length+2+(5000-(ts.length+2))=5000 by omega]at r1;unfold blX;refine obs r1 ?_
 show(JK (bs (yB m++jS m Ws))).bind _=_
 have hx:=qjT (bs (yB m++jS m Ws))
 rw[qC]at hx;refine obs hx ?_
 simp only[qe];by_cases hL:16384<(yB m++jS m Ws).length
 · rw[bdT (by omega),zg]
   unfold qeO;rw[zA hL];rfl
 · rw[bdF (by omega)]
   obtain⟨l,l1,l2⟩:=qm4 (m:=m) hW (show(qex m Ws).length≤16384 by unfold qex;omega)
   unfold qex at l1;rw[l1];have hab:(ts++[J6 S]).map tb0=l.map tb0:=by rw[l2,Ks];rfl
   have hlen:(ts++[J6 S]).length=l.length:=by have:=congrArg List.length hab;simpa using this
   have hlt:(ts++[J6 S]).length=ts.length+1:=by rw[zq];rfl
   simp only[];rw[bdN,bdT trivial,bdN,bdT trivial,bdN,bdT (by rw[hlen])];obtain⟨p,hp1,hp2⟩:=qqx (g:=bs (yB m)) (t:=bs (yB m++jS m Ws)) (n:=(((ts++[J6 S]).length:Nat):Int)) hab (by omega) (ts++[J6 S]).length 0 (5000-((ts++[J6 S]).length+1)) (by omega)
   rw[show(ts++[J6 S]).length+1+(5000-((ts++[J6 S]).length+1))=5000 by omega]at hp1;refine obs hp1 ?_
   show(bif Nat.beq 3 3 then some p.1 else none)=some true
   rw[hp2];rfl
def qqy(_:ByteArray×Int):Option Bool:=some true
theorem quF(p:ByteArray×Int)(y:Bool)(hg:(dc cS (d1 (cI .i64))).good p)(h:qqy p=some y):∃n,qqv n p.1 p.2=some y:=by
 have:=soi h;subst this
 clear h hg;obtain⟨s,btw⟩:=p;refine⟨5000,?_⟩
 show qqv 5000 s btw=some true
 refine onB (P:=fun s=>qqv 5000 s btw=some true) (fun S=>?_) s
 unfold qqv;simp only[qe];by_cases hS:1024<S.length
 · rw[bdT (by omega)]
 · rw[bdF (by omega)]
   have hlx:=qjT (bs S)
   rw[qC]at hlx;refine obs hlx ?_
   by_cases h0:(qeO S).2.1=0
   · rw[bdN,bdT h0]
     have eS:qeO S=Q7 S (S.length+1) (sk false S):=by unfold qeO;rw[zw (by omega)]
     rw[eS]at h0 ⊢;obtain⟨ts,e1,e2,e3⟩:=qlG (S:=S) (S.length+1) (sk false S) h0
     rw[e1];obtain⟨Ws,hW⟩:=qqr (ts.map tb0) (fun t ht=>by
      obtain⟨u,hu,rfl⟩:=KZ.1 ht;exact e3 u hu)
     have fin:=fun m=>qyh (S:=S) (m:=m) hW e3 (by omega)
     generalize Fly.qR Go.BinOp.and .i64 btw 3=c
     by_cases c1:c=1
     · rw[bdT c1];exact fin 1
     · rw[bdF c1]
       by_cases c2:c=2
       · rw[bdT c2];exact fin 2
       · rw[bdF c2]
         by_cases c3:c=3
         · rw[bdT c3];exact fin 3
         · rw[bdF c3];exact fin 0
   · rw[bdN,bdF h0]
end
end
end Su
end
