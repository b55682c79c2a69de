/-
  What functions of the program compute, in plain Lean, and that the evaluator finds it.
-/
import Derived.Test.YtldhknmacepeiaaGreatDoorSuXl
import Derived.Test.YtldhknmacepeiaaGreatDoorRfc
set_option linter.unusedVariables false
set_option linter.unusedSimpArgs false
set_option maxRecDepth 10000
section
namespace Su
open Go Fly
noncomputable section
def ZW:Stp (Int×(List Int)×(List Int)×Unit):=fun p3=>(ju (IntKind.wrap .i64 (p3.1+1))).bind fun x4=>
 (ye (x4,p3.2.2.1)).bind fun x5=>
 (ju (IntKind.wrap .i64 ((IntKind.wrap .i64 (0-p3.1))-1))).bind fun x6=>
 (ye (p3.2.1,x6)).bind fun x7=>
 (bif(decide ((yy (qa x5) (qa x7))≤0))then
 some (.inl ((IntKind.wrap .i64 (p3.1+1)),p3.2.1,p3.2.2.1,()))
 else
  some (.inr (p3.1,p3.2.1,p3.2.2.1,())))
abbrev qb6:=(Int×(List Int)×(List Int)×Int×Int×(List Int)×(List Int)×Unit)
def Jj:qb6→Option (qb6 ⊕ (Lp qb6 ((Int×Int×(List Int)×(List Int)×Unit) ⊕ (Lp (Int×Int×(List Int)×(List Int)×Unit) (ByteArray×Int))))):=fun p11=>(bif(decide (p11.2.2.2.1<2))then
 (bif((decide (0≤p11.2.2.2.1))&&(decide (p11.2.2.2.1<2)))then
 (bif(decide (p11.2.2.2.1=0))then
 (ju p11.1).bind fun x12=>
 (ye (p11.2.1,x12)).bind fun x13=>
 (ju (IntKind.wrap .i64 (0-p11.1))).bind fun x14=>
 (yA (false,x13,x14,(0:Int))).bind fun x15=>
 (bif(decide (x15.1=p11.2.2.2.2.1))then
 (QG p11.2.1).bind fun x16=>
 (qbs (x16,p11.1)).bind fun x17=>
 some (.inr (.ret (.inr (.ret x17))))
 else
  some (.inl (p11.1,p11.2.1,p11.2.2.1,(IntKind.wrap .i64 (p11.2.2.2.1+1)),p11.2.2.2.2.1,p11.2.2.2.2.2.1,p11.2.2.2.2.2.2.1,())))
 else
  (bif(decide (p11.2.2.2.1=((1:Nat):Int)))then
  (ju p11.1).bind fun x18=>
  (ye (p11.2.2.1,x18)).bind fun x19=>
  (ju (IntKind.wrap .i64 (0-p11.1))).bind fun x20=>
  (yA (false,x19,x20,(0:Int))).bind fun x21=>
  (bif(decide (x21.1=p11.2.2.2.2.1))then
  (QG p11.2.2.1).bind fun x22=>
  (qbs (x22,p11.1)).bind fun x23=>
  some (.inr (.ret (.inr (.ret x23))))
 else
  some (.inl (p11.1,p11.2.1,p11.2.2.1,(IntKind.wrap .i64 (p11.2.2.2.1+1)),p11.2.2.2.2.1,p11.2.2.2.2.2.1,p11.2.2.2.2.2.2.1,())))
 else none))
 else none)
 else
  some (.inr (.exit 2 (p11.1,p11.2.1,p11.2.2.1,p11.2.2.2.1,p11.2.2.2.2.1,p11.2.2.2.2.2.1,p11.2.2.2.2.2.2.1,()))))
def JV(fu:Nat):(Int×Int×(List Int)×(List Int)×Unit)→Option ((Int×Int×(List Int)×(List Int)×Unit) ⊕ (Lp (Int×Int×(List Int)×(List Int)×Unit) (ByteArray×Int))):=fun p9=>(qis (p9.2.2.1,p9.2.2.2.1) p9.1).bind fun x10=>
 (itP fu (Jj) (p9.1,x10.1,x10.2,(0:Int),p9.2.1,p9.2.2.1,p9.2.2.2.1,())).bind fun x24=>
 (match x24 with
 | .exit i25 p26=>(bif(Nat.beq i25 2)then
  some (.inl ((IntKind.wrap .i64 (p26.1-1)),p26.2.2.2.2.1,p26.2.2.2.2.2.1,p26.2.2.2.2.2.2.1,()))
 else
  (bif(Nat.beq i25 1)then
  some (.inl ((IntKind.wrap .i64 (p26.1-1)),p26.2.2.2.2.1,p26.2.2.2.2.2.1,p26.2.2.2.2.2.2.1,()))
 else
  some (.inr (.exit i25 (p26.1,p26.2.2.2.2.1,p26.2.2.2.2.2.1,p26.2.2.2.2.2.2.1,())))))
 | .ret o27=>some o27)
def qjN  (fu:Nat)(f:Int):Option (ByteArray×Int) :=
 (bif(!(decide ((((j8 (bK (Int.toNat (qbf f.toNat:Int)))):Nat):Int)=2)))then
 (bif(!(decide ((((j8 (bK (Int.toNat (qbf f.toNat:Int)))):Nat):Int)=1)))then
 some ((ByteArray.mk (List.toArray [])),(0:Int))
 else
  (dOf (qbf f.toNat:Int)).bind fun x0=>
  (Len x0.1).bind fun x1=>
  (Len x0.2).bind fun x2=>
  (itP fu (ZW) ((IntKind.wrap .i64 ((IntKind.wrap .i64 (Int.tdiv (IntKind.wrap .i64 ((IntKind.wrap .i64 (x1-x2))*30103)) 100000))-2)),x0.1,x0.2,())).bind fun x8=>
  (itP fu (JV fu) (x8.1,(qbf f.toNat:Int),x0.1,x0.2,())).bind fun x28=>
  (match x28 with
 | .exit i29 p30=>(bif(Nat.beq i29 0)then
  none
 else none)
 | .ret o31=>some o31))
 else
  (dOf (qbf f.toNat:Int)).bind fun x32=>
  (Len x32.1).bind fun x33=>
  (Len x32.2).bind fun x34=>
  (itP fu (ZW) ((IntKind.wrap .i64 ((IntKind.wrap .i64 (Int.tdiv (IntKind.wrap .i64 ((IntKind.wrap .i64 (x33-x34))*30103)) 100000))-2)),x32.1,x32.2,())).bind fun x40=>
  (itP fu (JV fu) (x40.1,(qbf f.toNat:Int),x32.1,x32.2,())).bind fun x60=>
  (match x60 with
 | .exit i61 p62=>(bif(Nat.beq i61 0)then
  none
 else none)
 | .ret o63=>some o63))
abbrev AhS:=Int×((List Int)×(List Int)×Unit)
abbrev ahS(N D:Nat)(p:Int):AhS:=(p,ofN N,ofN D,())
theorem qt4(a b:Nat):decide (yy a b≤0)=decide (a≤b):=by
 unfold yy;by_cases h1:a<b
 · rw[zA h1];simp;omega
 · rw[zw h1]
   by_cases h2:a=b
   · rw[zA h2];simp;omega
   · rw[zw h2];simp;omega
theorem qls{q:Int}(h:q≤2000):ju q=some (ofN (pT q)):=by unfold ju;rw[zb (by omega)];rfl
theorem qlt{q:Int}(h : -2000≤q):ju (-q)=some (ofN (pU q)):=by unfold ju;rw[zb (by omega)];rfl
theorem qt5{N D:Nat}{p:Int}(hN:qf N≤2000)(hD:qf D≤2000)(h1 : -1000≤p)(h2:p≤1000) :
 ZW (ahS N D p)=if pT (p+1)*D≤N*pU (p+1)then some (.inl (ahS N D (p+1)))else some (.inr (ahS N D p)):=by
 have w1:IntKind.i64.wrap (p+1)=p+1:=w64 (by omega) (by omega)
 have w2:IntKind.i64.wrap (IntKind.i64.wrap (0-p)-1) = -(p+1):=by rw[w64 (n:=0-p) (by omega) (by omega),w64 (by omega) (by omega)];omega
 have bt:=bT (q:=p+1) (by omega)
 have bu:=bU (q:=p+1) (by omega)
 have m1:=qab (u:=pT (p+1)) (v:=D) (by omega) (by omega)
 have m2:=qab (u:=N) (v:=pU (p+1)) (by omega) (by omega)
 unfold ZW;simp only[w1,w2];refine obs (qls (by omega)) (obs m1 (obs (qlt (by omega)) (obs m2 ?_)))
 simp only[valN_ofN];rw[qt4,Qe]
set_option exponentiation.threshold 1200 in
theorem qpU{N D:Nat}(hN:qf N≤1100)(hD:qf D≤1100)(hD0:0<D):∀(j:Nat) (p:Int),-400≤p→p+j=400→pT p*D≤N*pU p →
 ∃p',yK (j+1) ZW (ahS N D p) (ahS N D p')∧p≤p'∧p'≤400∧pT p'*D≤N*pU p'∧N*pU (p'+1)<pT (p'+1)*D
 | 0,p,h1,h2,h3=>by
  exfalso;have:p=400:=by omega
  subst this;have e1:pT 400=10^400:=rfl
  have e2:pU 400=1:=rfl
  rw[e2,Vn]at h3;have hl:=yY N;have h4:2^qf N≤2^1100:=zX (by decide) hN
  have h5:(2:Nat)^1100≤10^400:=by decide +kernel
  have h6:pT 400*1≤pT 400*D:=zU _ hD0
  rw[e1]at h6 h3;omega
 | j+1,p,h1,h2,h3=>by
  have st:=qt5 (N:=N) (D:=D) (p:=p) (by omega) (by omega) (by omega) (by omega)
  by_cases h:pT (p+1)*D≤N*pU (p+1)
  · rw[zA h]at st
    obtain⟨p',g1,g2,g3,g4,g5⟩:=qpU hN hD hD0 j (p+1) (by omega) (by omega) h
    exact⟨p',yK.next st g1,by omega,g3,g4,g5⟩
  · rw[zw h]at st
    exact⟨p,(yK.stop (K:=j+1) st).up (by omega),by omega,by omega,h3,by omega⟩
abbrev InS:=Int×((List Int)×(List Int)×Int×Int×(List Int)×(List Int)×Unit)
abbrev inS(N D k n0 n1:Nat)(q j:Int):InS:=(q,ofN n0,ofN n1,j,(k:Int),ofN N,ofN D,())
abbrev OuS:=Int×(Int×(List Int)×(List Int)×Unit)
abbrev ouS(N D k:Nat)(q:Int):OuS:=(q,(k:Int),ofN N,ofN D,())
def gV(n:Nat)(q:Int):Nat:=if n=0 then 0 else Qg false 0 (n*pT q) (pU q)
theorem qda(v:Nat)(h:qf v≤40000):Nat.ble (ofN v).length 100000=true:=zp (by have:=Zr v;omega)
theorem qmV{n:Nat}(h:n≤10^18):qf n≤60:=jM.2 (KQ h (by decide))
theorem qit{q:Int}(h:q≤420):qf (pT q)≤1681:=by have:=Qf q.toNat;unfold pT;omega
theorem qxD{q:Int}(h : -420≤q):qf (pU q)≤1681:=by have:=Qf (-q).toNat;unfold pU;omega
theorem fr_v{n:Nat}{q:Int}(hn:n≤10^18)(h1 : -420≤q)(h2:q≤420):∃z,yA (false,ofN (n*pT q),ofN (pU q),(0:Int))=some (((gV n q:Nat):Int),z):=by
 have bn:=qmV hn;have bt:=qit h2;have bu:=qxD h1;have bp:=yt n (pT q)
 unfold yA;simp only[valN_ofN];by_cases h0:n=0
 · subst h0
   rw[KY];refine⟨0,?_⟩
   rw[show Nat.beq 0 0=true from rfl,Bool.true_or,zg,show qf 0=0 by decide,show Nat.ble 0 100000=true from rfl,zp (show qf (pU q)≤100000 by omega)];rfl
 · have hm:n*pT q≠0:=V5 h0 (by have:=J3 q;omega)
   have hu:pU q≠0:=by have:=yV q;omega
   have p1:=jl hm;have p2:=jl hu;rw[Z4 hm,Z4 hu,qda _ (by omega),qda _ (by omega),zp (show qf (n*pT q)≤40000 by omega),zp (show qf (pU q)≤40000 by omega),zb (show -4000≤jd (n*pT q) (pU q) by unfold jd;omega),zb (show jd (n*pT q) (pU q)≤4000 by unfold jd;omega)];exact⟨qli false 0 (n*pT q) (pU q),by unfold gV;rw[zw h0];rfl⟩
theorem qel{n:Nat}(h:n≤10^18):(dg n).length≤20:=by
 have key:∀(j n:Nat),n<10^(j+1)→(dg n).length≤j+1:=fun j=>by
  induction j with
  | zero=>intro n h;rw[YQ (by omega)];simp
  | succ j ih=>
   intro n h;by_cases h1:n<10
   · rw[YQ h1];simp
   · rw[Z9 (by omega),zq]
     have:=ih (n / 10) (by rw[z6]at h;omega)
     simp only[VA];omega
 exact Kj (key 18 n (KQ h (by decide))) (by decide)
theorem qxE{n:Nat}(h:n≤10^18):QG (ofN n)=some (bs (dg n)):=by
 unfold QG;rw[valN_ofN,zp (by have:=qmV h;omega)];rfl
theorem tr_v{n:Nat}{q:Int}(h:n≤10^18)(h1 : -420≤q)(h2:q≤420):qbs (bs (dg n),q)=some (Ji n q):=by
 have hl:=qel h;unfold qbs;simp only[qC];rw[zp (by omega),zb (by omega),zb (by omega)];rfl
theorem qgZ{k n:Nat}{q:Int}(hk:k≠0):((gV n q:Nat):Int)=(k:Int)↔n≠0∧Qg false 0 (n*pT q) (pU q)=k:=by
 unfold gV;by_cases h0:n=0
 · rw[zA h0];constructor
   · intro h;omega
   · rintro⟨h,_⟩;exact absurd h0 h
 · rw[zw h0];constructor
   · intro h;exact⟨h0,by omega⟩
   · rintro⟨_,h⟩;omega
theorem in_0{N D k n0 n1:Nat}{q:Int}(hk:k≠0)(hn:n0≤10^18)(h1 : -420≤q)(h2:q≤420) :
 Jj (inS N D k n0 n1 q 0)=if n0≠0∧Qg false 0 (n0*pT q) (pU q)=k then some (.inr (.ret (.inr (.ret (Ji n0 q)))))else some (.inl (inS N D k n0 n1 q 1)):=by
 obtain⟨z,hz⟩:=fr_v hn h1 h2;have bn:=qmV hn;have bt:=qit h2;have m1:=qab (u:=n0) (v:=pT q) (by omega) (by omega)
 have w:IntKind.i64.wrap (0-q) = -q:=by rw[w64 (n:=0-q) (by omega) (by omega)];omega
 have key:Jj (inS N D k n0 n1 q 0)=(bif decide (((gV n0 q:Nat):Int)=(k:Int))then some (.inr (.ret (.inr (.ret (Ji n0 q)))))else some (.inl (inS N D k n0 n1 q 1))):=by
  have e1:Jj (inS N D k n0 n1 q 0)=((ju q).bind fun x12=>(ye (ofN n0,x12)).bind fun x13=>(ju (IntKind.i64.wrap (0-q))).bind fun x14=>(yA (false,x13,x14,(0:Int))).bind fun x15=>(bif(decide (x15.1=(k:Int)))then((QG (ofN n0)).bind fun x16=>(qbs (x16,q)).bind fun x17=>some (.inr (.ret (.inr (.ret x17)))))else some (.inl (inS N D k n0 n1 q 1)))):=rfl
  rw[e1,w];refine obs (qls (by omega)) (obs m1 (obs (qlt (by omega)) (obs hz ?_)))
  rw[qxE hn,zh,tr_v hn h1 h2,zh]
 rw[key,Qe];by_cases h:((gV n0 q:Nat):Int)=(k:Int)
 · rw[zA h,zA ((qgZ hk).1 h)]
 · rw[zw h,zw (fun h'=>h ((qgZ hk).2 h'))]
theorem in_1{N D k n0 n1:Nat}{q:Int}(hk:k≠0)(hn:n1≤10^18)(h1 : -420≤q)(h2:q≤420) :
 Jj (inS N D k n0 n1 q 1)=if n1≠0∧Qg false 0 (n1*pT q) (pU q)=k then some (.inr (.ret (.inr (.ret (Ji n1 q)))))else some (.inl (inS N D k n0 n1 q 2)):=by
 obtain⟨z,hz⟩:=fr_v hn h1 h2;have bn:=qmV hn;have bt:=qit h2;have m1:=qab (u:=n1) (v:=pT q) (by omega) (by omega)
 have w:IntKind.i64.wrap (0-q) = -q:=by rw[w64 (n:=0-q) (by omega) (by omega)];omega
 have key:Jj (inS N D k n0 n1 q 1)=(bif decide (((gV n1 q:Nat):Int)=(k:Int))then some (.inr (.ret (.inr (.ret (Ji n1 q)))))else some (.inl (inS N D k n0 n1 q 2))):=by
  have e1:Jj (inS N D k n0 n1 q 1)=((ju q).bind fun x12=>(ye (ofN n1,x12)).bind fun x13=>(ju (IntKind.i64.wrap (0-q))).bind fun x14=>(yA (false,x13,x14,(0:Int))).bind fun x15=>(bif(decide (x15.1=(k:Int)))then((QG (ofN n1)).bind fun x16=>(qbs (x16,q)).bind fun x17=>some (.inr (.ret (.inr (.ret x17)))))else some (.inl (inS N D k n0 n1 q 2)))):=rfl
  rw[e1,w];refine obs (qls (by omega)) (obs m1 (obs (qlt (by omega)) (obs hz ?_)))
  rw[qxE hn,zh,tr_v hn h1 h2,zh]
 rw[key,Qe];by_cases h:((gV n1 q:Nat):Int)=(k:Int)
 · rw[zA h,zA ((qgZ hk).1 h)]
 · rw[zw h,zw (fun h'=>h ((qgZ hk).2 h'))]
theorem in_2(N D k n0 n1:Nat)(q:Int):Jj (inS N D k n0 n1 q 2)=some (.inr (.exit 2 (inS N D k n0 n1 q 2))):=rfl
theorem qxF(A B:Nat):nrO A B≤A / B+1:=by unfold nrO;split <;> omega
def ouK(r:Lp InS (OuS ⊕ (Lp OuS (ByteArray×Int)))):Option (OuS ⊕ (Lp OuS (ByteArray×Int))) :=
 match r with
 | .exit i25 p26=>(bif(Nat.beq i25 2)then some (.inl ((IntKind.wrap .i64 (p26.1-1)),p26.2.2.2.2.1,p26.2.2.2.2.2.1,p26.2.2.2.2.2.2.1,()))
  else(bif(Nat.beq i25 1)then some (.inl ((IntKind.wrap .i64 (p26.1-1)),p26.2.2.2.2.1,p26.2.2.2.2.2.1,p26.2.2.2.2.2.2.1,()))else
   some (.inr (.exit i25 (p26.1,p26.2.2.2.2.1,p26.2.2.2.2.2.1,p26.2.2.2.2.2.2.1,())))))
 | .ret o27=>some o27
theorem qlu{N D k:Nat}{p q:Int}(hN:qf N≤1100)(hD:qf D≤1100)(hD0:0<D)(hk:k≠0)(h1 : -400≤q)(h2:q≤400)(hq:q≤p)(hp:p-17≤q)(hv:N*pU (p+1)<pT (p+1)*D) :
 (∃n,IsD k n q∧∀fu,3≤fu→JV fu (ouS N D k q)=some (.inr (.ret (Ji n q)))) ∨
 (¬(nrN (N*pU q) (D*pT q)≠0∧Qg false 0 (nrN (N*pU q) (D*pT q)*pT q) (pU q)=k)∧∀fu,3≤fu→JV fu (ouS N D k q)=some (.inl (ouS N D k (q-1)))):=by
 have dn:=qmT (N:=N) (D:=D) (q:=q) (by omega) (by omega) hD0 (by omega) (by omega)
 have ll:=qpS (q:=q) hD0 (by omega) hv
 have l18:10^(p+1-q).toNat≤10^18:=zX (by decide) (by omega)
 have g0:=qpT (N*pU q) (D*pT q)
 have g1:=qxF (N*pU q) (D*pT q)
 generalize N*pU q / (D*pT q)=L at *
 generalize nrN (N*pU q) (D*pT q)=n0 at *
 generalize nrO (N*pU q) (D*pT q)=n1 at *
 have w:IntKind.i64.wrap (q-1)=q-1:=w64 (by omega) (by omega)
 have s0:=in_0 (N:=N) (D:=D) (k:=k) (n0:=n0) (n1:=n1) (q:=q) hk (by omega) (by omega) (by omega)
 have s1:=in_1 (N:=N) (D:=D) (k:=k) (n0:=n0) (n1:=n1) (q:=q) hk (by omega) (by omega) (by omega)
 have s2:=in_2 N D k n0 n1 q;have fin:∀r,yK 3 Jj (inS N D k n0 n1 q 0) r→∀fu,3≤fu→JV fu (ouS N D k q)=ouK r:=fun r hr fu hfu=>by
  unfold JV;exact obs dn (obs (hr fu hfu) rfl)
 by_cases c0:n0≠0∧Qg false 0 (n0*pT q) (pU q)=k
 · rw[zA c0]at s0
   exact .inl ⟨n0,⟨c0.1,by omega,h1,h2,c0.2⟩,fin _ ((yK.stop (K:=0) s0).up (by omega))⟩
 · rw[zw c0]at s0
   by_cases c1:n1≠0∧Qg false 0 (n1*pT q) (pU q)=k
   · rw[zA c1]at s1
     exact .inl ⟨n1,⟨c1.1,by omega,h1,h2,c1.2⟩,fin _ ((yK.next s0 (yK.stop (K:=0) s1)).up (by omega))⟩
   · rw[zw c1]at s1
     refine .inr ⟨c0,fun fu hfu=>?_⟩
     refine(fin _ (yK.next s0 (yK.next s1 (yK.stop (K:=0) s2))) fu hfu).trans ?_
     show(some (Sum.inl (IntKind.i64.wrap (q-1),(k:Int),ofN N,ofN D,())):Option (OuS ⊕ (Lp OuS (ByteArray×Int))))=_
     rw[w]
theorem qpV{N D k:Nat}{p:Int}(hN:qf N≤1100)(hD:qf D≤1100)(hD0:0<D)(hk:k≠0)(ht:k≤jB)(hp:p≤400)(hp' : -380≤p)(hv:N*pU (p+1)<pT (p+1)*D)
 (hlast:nrN (N*pU (p-17)) (D*pT (p-17))≠0∧Qg false 0 (nrN (N*pU (p-17)) (D*pT (p-17))*pT (p-17)) (pU (p-17))=k) :
 ∀(j:Nat) (q:Int),q=p-17+j→q≤p→∃n q',IsD k n q'∧∀fu,3≤fu→yK (j+1) (JV fu) (ouS N D k q) (.ret (Ji n q'))
 | 0,q,h,hq=>by
  have:q=p-17:=by omega
  subst this;rcases qlu hN hD hD0 hk (by omega) (by omega) hq (by omega) hv with⟨n,g1,g2⟩ | ⟨g,_⟩
  · exact⟨n,_,g1,fun fu hfu=>yK.stop (g2 fu hfu)⟩
  · exact absurd hlast g
 | j+1,q,h,hq=>by
  rcases qlu hN hD hD0 hk (q:=q) (by omega) (by omega) hq (by omega) hv with⟨n,g1,g2⟩ | ⟨_,g⟩
  · exact⟨n,_,g1,fun fu hfu=>(yK.stop (K:=j+1) (g2 fu hfu)).up (by omega)⟩
  · obtain⟨n,q',e1,e2⟩:=qpV hN hD hD0 hk ht hp hp' hv hlast j (q-1) (by omega) (by omega)
    exact⟨n,q',e1,fun fu hfu=>yK.next (g fu hfu) (e2 fu hfu)⟩
def DgP(f:Int)(y:ByteArray×Int):Prop :=
 (j8 (bK f.toNat)≠2∧j8 (bK f.toNat)≠1∧y=(bs [],0)) ∨
 ((j8 (bK f.toNat)=2∨j8 (bK f.toNat)=1)∧∃n q,IsD (bK f.toNat) n q∧y=Ji n q)
theorem qlv{k:Nat}(h:j8 k=2∨j8 k=1):k≤jB∧k≠0:=by
 rw[Zl]at h;unfold jB;revert h
 (repeat' split) <;> omega
theorem qg0{k:Nat}(h:k<9223372036854775808):bK k=k:=KP h
theorem clsA{f:Int}(hf:inR .u64 f=true):j8 (bK (Int.toNat ((qbf f.toNat:Nat):Int)))=j8 (bK f.toNat):=by
 rw[zd];unfold qbf;cases qeM (bK f.toNat)with
 | true=>rfl
 | false=>rw[zm,qg0 (qoZ _)]
theorem qiu{f:Int}{k:Nat}(hk:k=bK f.toNat)(hc:j8 k=2∨j8 k=1):∃n q,IsD k n q∧∀fu,2000≤fu →
 ((dOf (k:Int)).bind fun x0=>(Len x0.1).bind fun x1=>(Len x0.2).bind fun x2=>
   (itP fu (ZW) ((IntKind.wrap .i64 ((IntKind.wrap .i64 (Int.tdiv (IntKind.wrap .i64 ((IntKind.wrap .i64 (x1-x2))*30103)) 100000))-2)),x0.1,x0.2,())).bind fun x8=>
   (itP fu (JV fu) (x8.1,(k:Int),x0.1,x0.2,())).bind fun x28=>
   (match x28 with
     | .exit i29 p30=>(bif(Nat.beq i29 0)then none else none)
     | .ret o31=>some o31))=some (Ji n q):=by
 obtain⟨ht,h0⟩:=qlv hc;have of:=qt3 (f:=(k:Int)) (k:=k) (by rw[zd,qg0 (by unfold jB at ht;omega)]) ht h0
 have bA:=bOfA ht;have bB:=bOfB k;have hD0:=qt1 k;have hv:=qxA k;have hA0:ofA k≠0:=V5 (qpQ h0) (by have:=zQ (((kE k:Nat):Int)-1074).toNat;omega)
 obtain⟨e,he⟩:∃e,e=(1074-((kE k:Nat):Int)).toNat:=⟨_,rfl⟩
 have eB:ofB k=2^e:=by unfold ofB;rw[he]
 have e1:e≤1099:=by omega
 have lB:qf (ofB k)=e+1:=by rw[eB];exact QV e
 have p0l:=qzP hA0 bA e1;have pin:=qzO (d:=(qf (ofA k):Int)-((e+1:Nat):Int)) (by omega) (by have:=jl hA0;omega)
 rw[← eB]at p0l;obtain⟨p,hp⟩:∃p,p=p0 ((qf (ofA k):Int)-((e+1:Nat):Int)):=⟨_,rfl⟩
 rw[← hp]at p0l pin;obtain⟨p',g1,g2,g3,g4,g5⟩:=qpU bA bB hD0 (400-p).toNat p (by omega) (by omega) p0l
 have hfit:pT p'*P75≤2*kV k*pU p':=by
  refine Nat.le_of_mul_le_mul_left (c:=ofB k) ?_ hD0
  have h1:=zD P75 g4;have e1:pT p'*ofB k*P75=ofB k*(pT p'*P75):=by rw[zF (pT p'),zx]
  have e2:ofA k*pU p'*P75=ofB k*(2*kV k*pU p'):=by
   rw[Kz,hv,← zx 2,zF 2 (ofB k),zx (ofB k*2) (kV k),zx (ofB k) 2,zx 2 (kV k)]
  rw[e1,e2]at h1;exact h1
 have hT:=fit hfit;have nn:=qpP (q:=p'-17) ht h0 hD0 hv hT
 have hlast:nrN (ofA k*pU (p'-17)) (ofB k*pT (p'-17))≠0∧Qg false 0 (nrN (ofA k*pU (p'-17)) (ofB k*pT (p'-17))*pT (p'-17)) (pU (p'-17))=k:=by
  have ll:=qpS (q:=p'-17) hD0 (by omega) g5
  have l18:10^(p'+1-(p'-17)).toNat≤10^18:=zX (by decide) (by omega)
  have g0:=qpT (ofA k*pU (p'-17)) (ofB k*pT (p'-17))
  generalize ofA k*pU (p'-17) / (ofB k*pT (p'-17))=L at *
  generalize nrN (ofA k*pU (p'-17)) (ofB k*pT (p'-17))=n at *
  have hn:n≠0:=fun h=>by
   subst h;rw[KY]at nn;obtain⟨h1,_,_⟩:=nn;have:=yV (p'-17)
   rcases h1 with h | h | ⟨h,_⟩
   · exact h0 h
   · omega
   · have m:=qgY (k-1)
     have:0<jh (k-1):=by rw[m];exact Wm (by omega) (zQ _)
     have:=Wm (yV (p'-17)) this
     omega
  refine⟨hn,?_⟩
  have hm:n*pT (p'-17)≠0:=V5 hn (by have:=J3 (p'-17);omega)
  have hu:pU (p'-17)≠0:=by have:=yV (p'-17);omega
  have bn:=qmV (n:=n) (by omega)
  have bt:=qit (q:=p'-17) (by omega)
  have bu:=qxD (q:=p'-17) (by omega)
  have bp:=yt n (pT (p'-17))
  exact qlq (ZV hm hu (by unfold jd;omega) (by unfold jd;omega)) nn rfl (yV _) (yV _)
 obtain⟨n,q,i1,i2⟩:=qpV bA bB hD0 h0 ht (by omega) (by omega) g5 hlast 17 p' (by omega) (by omega)
 refine⟨n,q,i1,fun fu hfu=>?_⟩
 have L1:=qef (v:=ofA k) (by omega)
 have L2:=qef (v:=ofB k) (by omega)
 have w1:IntKind.i64.wrap (((qf (ofA k):Nat):Int)-((qf (ofB k):Nat):Int))=((qf (ofA k):Nat):Int)-((qf (ofB k):Nat):Int):=w64 (by omega) (by omega)
 have w2:IntKind.i64.wrap (IntKind.i64.wrap (Int.tdiv (IntKind.i64.wrap (IntKind.i64.wrap (((qf (ofA k):Nat):Int)-((qf (ofB k):Nat):Int))*30103)) 100000)-2)=p:=by
  have pe:p=Int.tdiv ((((qf (ofA k):Nat):Int)-((qf (ofB k):Nat):Int))*30103) 100000-2:=by rw[hp,lB];rfl
  rw[w1,w64 (n:=(((qf (ofA k):Nat):Int)-((qf (ofB k):Nat):Int))*30103) (by omega) (by omega)];generalize Int.tdiv ((((qf (ofA k):Nat):Int)-((qf (ofB k):Nat):Int))*30103) 100000=t at *
  rw[w64 (n:=t) (by omega) (by omega),w64 (by omega) (by omega)];exact pe.symm
 refine obs of (obs L1 (obs L2 ?_))
 rw[w2];refine obs (g1 fu (by omega)) (obs (i2 fu (by omega) fu (by omega)) rfl)
theorem qxG(f:Int)(hf:inR .u64 f=true):∃y,(∃m,qjN m f=some y)∧DgP f y:=by
 have cA:=clsA hf;by_cases c2:j8 (bK f.toNat)=2
 · obtain⟨ht,_⟩:=qlv (.inl c2)
   have ab:qbf f.toNat=bK f.toNat:=by unfold qbf;rw[qh6.2 (by unfold jB at ht;omega)];rfl
   obtain⟨n,q,h1,h2⟩:=qiu (f:=f) rfl (.inl c2)
   refine⟨_,⟨2000,?_⟩,.inr ⟨.inl c2,n,q,h1,rfl⟩⟩
   unfold qjN;rw[cA,zb (show((j8 (bK f.toNat):Nat):Int)=2 by omega),Wq,zm,ab];exact h2 2000 (zI _)
 · by_cases c1:j8 (bK f.toNat)=1
   · obtain⟨ht,_⟩:=qlv (.inr c1)
     have ab:qbf f.toNat=bK f.toNat:=by unfold qbf;rw[qh6.2 (by unfold jB at ht;omega)];rfl
     obtain⟨n,q,h1,h2⟩:=qiu (f:=f) rfl (.inr c1)
     refine⟨_,⟨2000,?_⟩,.inr ⟨.inr c1,n,q,h1,rfl⟩⟩
     unfold qjN;rw[cA,zk (show¬((j8 (bK f.toNat):Nat):Int)=2 by omega),Vw,zg,zb (show((j8 (bK f.toNat):Nat):Int)=1 by omega),Wq,zm,ab];exact h2 2000 (zI _)
   · refine⟨(bs [],0),⟨0,?_⟩,.inl ⟨c2,c1,rfl⟩⟩
     unfold qjN;rw[cA,zk (show¬((j8 (bK f.toNat):Nat):Int)=2 by omega),Vw,zg,zk (show¬((j8 (bK f.toNat):Nat):Int)=1 by omega),Vw,zg];rfl
open Classical in
noncomputable def JI(f:Int):Option (ByteArray×Int):=if h:∃y,(∃m,qjN m f=some y)∧DgP f y then some (choose h)else none
theorem qt6(f:Int)(y:ByteArray×Int)(hg:(d1 (cI .u64)).good f)(h:JI f=some y):∃n,qjN n f=some y:=by
 unfold JI at h;split at h
 · rename_i hx
   have:=soi h;subst this
   exact(Classical.choose_spec hx).1
 · cases h
theorem qpW{f:Int}(hf:inR .u64 f=true):∃y,JI f=some y∧DgP f y:=by
 have hx:=qxG f hf;refine⟨Classical.choose hx,?_,(Classical.choose_spec hx).2⟩
 unfold JI;rw[dif_pos hx]
end
end Su
end
section
namespace Su
open Go Fly
noncomputable section
end
end Su
end
section
namespace Su
open Go Fly
noncomputable section
def qem(d:ByteArray)(q:Int) :=
 bif(true&&(decide (1≤(ByteArray.size d:Int))))then
 (bif(decide (1<(ByteArray.size d:Int)))then
 (bif((true&&(decide (1≤(ByteArray.size d:Int))))&&(decide ((ByteArray.size d:Int)≤(ByteArray.size d:Int))))then
 (bif(Nat.ble (1+(ByteArray.size (ByteArray.extract d 1 (Int.toNat (ByteArray.size d:Int))))) 549755813888)then
 (bif(Nat.ble ((ByteArray.size (ByteArray.extract d 0 1))+(ByteArray.size ((ByteArray.mk (List.toArray [46]))++(ByteArray.extract d 1 (Int.toNat (ByteArray.size d:Int)))))) 549755813888)then
 (bif(Nat.ble ((ByteArray.size ((ByteArray.extract d 0 1)++((ByteArray.mk (List.toArray [46]))++(ByteArray.extract d 1 (Int.toNat (ByteArray.size d:Int))))))+1) 549755813888)then
 (qfx (IntKind.wrap .i64 ((IntKind.wrap .i64 ((ByteArray.size d:Int)+q))-1))).bind fun x2=>
 (bif(Nat.ble ((ByteArray.size (((ByteArray.extract d 0 1)++((ByteArray.mk (List.toArray [46]))++(ByteArray.extract d 1 (Int.toNat (ByteArray.size d:Int)))))++(ByteArray.mk (List.toArray [101]))))+(ByteArray.size x2)) 549755813888)then
 some ((((ByteArray.extract d 0 1)++((ByteArray.mk (List.toArray [46]))++(ByteArray.extract d 1 (Int.toNat (ByteArray.size d:Int)))))++(ByteArray.mk (List.toArray [101])))++x2)
 else none)
 else none)
 else none)
 else none)
 else none)
 else
  (bif(Nat.ble ((ByteArray.size (ByteArray.extract d 0 1))+1) 549755813888)then
  (qfx (IntKind.wrap .i64 ((IntKind.wrap .i64 ((ByteArray.size d:Int)+q))-1))).bind fun x3=>
  (bif(Nat.ble ((ByteArray.size ((ByteArray.extract d 0 1)++(ByteArray.mk (List.toArray [101]))))+(ByteArray.size x3)) 549755813888)then
  some (((ByteArray.extract d 0 1)++(ByteArray.mk (List.toArray [101])))++x3)
 else none)
 else none))
 else
  none
def qen(d:ByteArray)(q:Int) :=
 bif(decide ((-5)≤(IntKind.wrap .i64 ((ByteArray.size d:Int)+q))))then
 (bif(decide ((IntKind.wrap .i64 ((ByteArray.size d:Int)+q))≤0))then
 (qej ((),(IntKind.wrap .i64 (0-(IntKind.wrap .i64 ((ByteArray.size d:Int)+q)))))).bind fun x1=>
 (bif(Nat.ble (2+(ByteArray.size x1)) 549755813888)then
 (bif(Nat.ble ((ByteArray.size ((ByteArray.mk (List.toArray [48,46]))++x1))+(ByteArray.size d)) 549755813888)then
 some (((ByteArray.mk (List.toArray [48,46]))++x1)++d)
 else none)
 else none)
 else
  (qem d q))
 else
  (qem d q)
def qeo(d:ByteArray)(q:Int) :=
 bif(decide (q<0))then
 (bif(decide (0<(IntKind.wrap .i64 ((ByteArray.size d:Int)+q))))then
 (bif((true&&(decide (0≤(IntKind.wrap .i64 ((ByteArray.size d:Int)+q)))))&&(decide ((IntKind.wrap .i64 ((ByteArray.size d:Int)+q))≤(ByteArray.size d:Int))))then
 (bif(Nat.ble ((ByteArray.size (ByteArray.extract d 0 (Int.toNat (IntKind.wrap .i64 ((ByteArray.size d:Int)+q)))))+1) 549755813888)then
 (bif(((decide (0≤(IntKind.wrap .i64 ((ByteArray.size d:Int)+q))))&&(decide ((IntKind.wrap .i64 ((ByteArray.size d:Int)+q))≤(ByteArray.size d:Int))))&&(decide ((ByteArray.size d:Int)≤(ByteArray.size d:Int))))then
 (bif(Nat.ble ((ByteArray.size ((ByteArray.extract d 0 (Int.toNat (IntKind.wrap .i64 ((ByteArray.size d:Int)+q))))++(ByteArray.mk (List.toArray [46]))))+(ByteArray.size (ByteArray.extract d (Int.toNat (IntKind.wrap .i64 ((ByteArray.size d:Int)+q))) (Int.toNat (ByteArray.size d:Int))))) 549755813888)then
 some (((ByteArray.extract d 0 (Int.toNat (IntKind.wrap .i64 ((ByteArray.size d:Int)+q))))++(ByteArray.mk (List.toArray [46])))++(ByteArray.extract d (Int.toNat (IntKind.wrap .i64 ((ByteArray.size d:Int)+q))) (Int.toNat (ByteArray.size d:Int))))
 else none)
 else none)
 else none)
 else none)
 else
  (qen d q))
 else
  (qen d q)
def qlw  (d:ByteArray)(q:Int):Option ByteArray :=
 (bif(decide (0≤q))then
 (bif(decide ((IntKind.wrap .i64 ((ByteArray.size d:Int)+q))≤21))then
 (qej ((),q)).bind fun x0=>
 (bif(Nat.ble ((ByteArray.size d)+(ByteArray.size x0)) 549755813888)then
 (bif(Nat.ble ((ByteArray.size (d++x0))+2) 549755813888)then
 some ((d++x0)++(ByteArray.mk (List.toArray [46,48])))
 else none)
 else none)
 else
  (qeo d q))
 else
  (qeo d q))
theorem bdT{α:Type}{p:Prop}[Decidable p](h:p)(a b:α):(bif decide p then a else b)=a:=by rw[zb h];rfl
theorem bdF{α:Type}{p:Prop}[Decidable p](h : ¬p)(a b:α):(bif decide p then a else b)=b:=by rw[zk h];rfl
theorem bdA{α:Type}(x y:Bool)(a b:α):(bif x&&y then a else b)=bif x then(bif y then a else b)else b:=by cases x <;> rfl
theorem bdB{α:Type}{n m:Nat}(h:n≤m)(a b:α):(bif Nat.ble n m then a else b)=a:=by rw[zp h];rfl
def JJ(d:List UInt8)(q:Int):List UInt8 :=
 if 0≤q∧(d.length:Int)+q≤21 then d++zs q.toNat++[46,48]else
 if q<0∧0<(d.length:Int)+q then d.take ((d.length:Int)+q).toNat++[46]++d.drop ((d.length:Int)+q).toNat else
 if(d.length:Int)+q≤0∧-5≤(d.length:Int)+q then[48,46]++zs (-((d.length:Int)+q)).toNat++d else
 d.take 1++(if 1<d.length then 46::d.drop 1 else[])++101::itT ((d.length:Int)+q-1)
def okF(d:List UInt8)(q:Int):Bool:=decide (1≤d.length)&&(decide (d.length≤1000)&&(decide (-1000≤q)&&decide (q≤1000)))
theorem qdb{d:List UInt8}{q:Int}:okF d q=true↔1≤d.length∧d.length≤1000∧-1000≤q∧q≤1000:=by
 unfold okF;simp only[zn,zO]
def Qk(p:ByteArray×Int):Option ByteArray:=bif okF (lb p.1) p.2 then some (bs (JJ (lb p.1) p.2))else none
theorem qvH{n:Int}(h1:0≤n)(h2:n≤40):qej ((),n)=some (bs (zs n.toNat)):=by unfold qej;rw[zb h1,zb h2];rfl
theorem it_v{n:Int}(h1 : -10000≤n)(h2:n≤10000):qfx n=some (bs (itT n)):=by unfold qfx;rw[zb (by omega),zb (by omega)];rfl
theorem J4(n:Nat):(zs n).length=n:=List.length_replicate
theorem qpX(p:ByteArray×Int)(y:ByteArray)(hg:(dc cS (d1 (cI .i64))).good p)(h:Qk p=some y):qlw p.1 p.2=some y:=by
 obtain⟨d,q⟩:=p;revert h;refine onB (P:=fun d=>Qk (d,q)=some y→qlw d q=some y) (fun l h=>?_) d
 obtain⟨h1,h2⟩:=qh h;have:=soi h2;subst this
 simp only[qC]at h1 ⊢;obtain⟨a1,a2,a3,a4⟩:=qdb.1 h1;clear hg h h1 h2;have w1:IntKind.i64.wrap (((l.length:Nat):Int)+q)=((l.length:Nat):Int)+q:=w64 (by omega) (by omega)
 have w2:IntKind.i64.wrap (0-(((l.length:Nat):Int)+q)) = -(((l.length:Nat):Int)+q):=by rw[w64 (by omega) (by omega)];omega
 have w3:IntKind.i64.wrap (((l.length:Nat):Int)+q-1)=((l.length:Nat):Int)+q-1:=w64 (by omega) (by omega)
 have il:=qgT (n:=((l.length:Nat):Int)+q-1) (by omega) (by omega)
 unfold qlw qeo qen qem;simp only[qe,w1,w2,w3,qU,yz,qM];unfold JJ;by_cases c1:0≤q∧((l.length:Nat):Int)+q≤21
 · rw[zA c1]
   have r:=qvH (n:=q) (by omega) (by omega)
   have zl:=J4 q.toNat;simp (disch:=omega) only[↓bdT,↓bdF,r,zh]
   simp (disch:=((try simp only[qe,zq,zl]);omega)) only[bdB,qM]
 · rw[zw c1]
   by_cases c2:q<0∧0<((l.length:Nat):Int)+q
   · rw[zA c2]
     simp (disch:=omega) only[↓bdT,↓bdF,↓bdA,↓zg]
     simp (disch:=(simp only[zq,zL,zV,zu,zM];omega)) only[bdB,qM,zd,KM,Vv]
     rw[zJ (l:=List.drop _ l) (by simp)]
   · rw[zw c2]
     by_cases c3:((l.length:Nat):Int)+q≤0∧-5≤((l.length:Nat):Int)+q
     · rw[zA c3]
       have r:=qvH (n:=-(((l.length:Nat):Int)+q)) (by omega) (by omega)
       have zl:=J4 (-(((l.length:Nat):Int)+q)).toNat
       simp (disch:=omega) only[↓bdT,↓bdF,↓bdA,↓zg,r,zh]
       simp (disch:=((try simp only[qe,zq,zu,zM,zl]);omega)) only[bdB,qM]
     · rw[zw c3]
       have r:=it_v (n:=((l.length:Nat):Int)+q-1) (by omega) (by omega)
       generalize itT (((l.length:Nat):Int)+q-1)=T at *
       have hq:0≤q∧21<((l.length:Nat):Int)+q∨q<0∧((l.length:Nat):Int)+q < -5:=by omega
       by_cases c4:1<l.length
       · rw[zA c4]
         have ht:List.take (l.length-1) (l.drop 1)=l.drop 1:=zJ (by simp)
         rcases hq with hq | hq
         · simp (disch:=omega) only[↓bdT,↓bdF,↓bdA,↓zg,r,zh]
           simp (disch:=((try simp only[qe,zq,zu,zM,zL,zV]);omega)) only[bdB,qM,zd,KM,Vv,ht]
           simp
         · simp (disch:=omega) only[↓bdT,↓bdF,↓bdA,↓zg,r,zh]
           simp (disch:=((try simp only[qe,zq,zu,zM,zL,zV]);omega)) only[bdB,qM,zd,KM,Vv,ht]
           simp
       · rw[zw c4]
         rcases hq with hq | hq
         · simp (disch:=omega) only[↓bdT,↓bdF,↓bdA,↓zg,r,zh]
           simp (disch:=((try simp only[qe,zq,zu,zM,zL,zV]);omega)) only[bdB,qM,zd,KM,Vv]
           simp
         · simp (disch:=omega) only[↓bdT,↓bdF,↓bdA,↓zg,r,zh]
           simp (disch:=((try simp only[qe,zq,zu,zM,zL,zV]);omega)) only[bdB,qM,zd,KM,Vv]
           simp
end
end Su
end
