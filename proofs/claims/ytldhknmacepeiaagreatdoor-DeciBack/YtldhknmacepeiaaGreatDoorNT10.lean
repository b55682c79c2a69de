/-
  What functions of the program compute, in plain Lean, and that the evaluator finds it.
-/
import Derived.Test.YtldhknmacepeiaaGreatDoorSuXl
import Derived.Test.YtldhknmacepeiaaGreatDoorRfc
set_option linter.unusedVariables false
set_option linter.unusedSimpArgs false
set_option maxRecDepth 10000
section
namespace Su
open Go Fly
noncomputable section
def dDig_l1:Stp (Int×(List Int)×(List Int)×Unit):=fun p3=>(dTen_s (IntKind.wrap .i64 (p3.1+1))).bind fun x4=>
 (Mul_s (x4,p3.2.2.1)).bind fun x5=>
 (dTen_s (IntKind.wrap .i64 ((IntKind.wrap .i64 (0-p3.1))-1))).bind fun x6=>
 (Mul_s (p3.2.1,x6)).bind fun x7=>
 (bif(decide ((cmpI (valN x5) (valN x7))≤0))then
 some (.inl ((IntKind.wrap .i64 (p3.1+1)),p3.2.1,p3.2.2.1,()))
 else
  some (.inr (p3.1,p3.2.1,p3.2.2.1,())))
abbrev dDig_l3_S:=(Int×(List Int)×(List Int)×Int×Int×(List Int)×(List Int)×Unit)
def dDig_l3:dDig_l3_S→Option (dDig_l3_S ⊕ (Lp dDig_l3_S ((Int×Int×(List Int)×(List Int)×Unit) ⊕ (Lp (Int×Int×(List Int)×(List Int)×Unit) (ByteArray×Int))))):=fun p11=>(bif(decide (p11.2.2.2.1<2))then
 (bif((decide (0≤p11.2.2.2.1))&&(decide (p11.2.2.2.1<2)))then
 (bif(decide (p11.2.2.2.1=0))then
 (dTen_s p11.1).bind fun x12=>
 (Mul_s (p11.2.1,x12)).bind fun x13=>
 (dTen_s (IntKind.wrap .i64 (0-p11.1))).bind fun x14=>
 (rFrac_s (false,x13,x14,(0:Int))).bind fun x15=>
 (bif(decide (x15.1=p11.2.2.2.2.1))then
 (nText_s p11.2.1).bind fun x16=>
 (dTr_s (x16,p11.1)).bind fun x17=>
 some (.inr (.ret (.inr (.ret x17))))
 else
  some (.inl (p11.1,p11.2.1,p11.2.2.1,(IntKind.wrap .i64 (p11.2.2.2.1+1)),p11.2.2.2.2.1,p11.2.2.2.2.2.1,p11.2.2.2.2.2.2.1,())))
 else
  (bif(decide (p11.2.2.2.1=((1:Nat):Int)))then
  (dTen_s p11.1).bind fun x18=>
  (Mul_s (p11.2.2.1,x18)).bind fun x19=>
  (dTen_s (IntKind.wrap .i64 (0-p11.1))).bind fun x20=>
  (rFrac_s (false,x19,x20,(0:Int))).bind fun x21=>
  (bif(decide (x21.1=p11.2.2.2.2.1))then
  (nText_s p11.2.2.1).bind fun x22=>
  (dTr_s (x22,p11.1)).bind fun x23=>
  some (.inr (.ret (.inr (.ret x23))))
 else
  some (.inl (p11.1,p11.2.1,p11.2.2.1,(IntKind.wrap .i64 (p11.2.2.2.1+1)),p11.2.2.2.2.1,p11.2.2.2.2.2.1,p11.2.2.2.2.2.2.1,())))
 else none))
 else none)
 else
  some (.inr (.exit 2 (p11.1,p11.2.1,p11.2.2.1,p11.2.2.2.1,p11.2.2.2.2.1,p11.2.2.2.2.2.1,p11.2.2.2.2.2.2.1,()))))
def dDig_l2(fu:Nat):(Int×Int×(List Int)×(List Int)×Unit)→Option ((Int×Int×(List Int)×(List Int)×Unit) ⊕ (Lp (Int×Int×(List Int)×(List Int)×Unit) (ByteArray×Int))):=fun p9=>(dNear (p9.2.2.1,p9.2.2.2.1) p9.1).bind fun x10=>
 (itP fu (dDig_l3) (p9.1,x10.1,x10.2,(0:Int),p9.2.1,p9.2.2.1,p9.2.2.2.1,())).bind fun x24=>
 (match x24 with
 | .exit i25 p26=>(bif(Nat.beq i25 2)then
  some (.inl ((IntKind.wrap .i64 (p26.1-1)),p26.2.2.2.2.1,p26.2.2.2.2.2.1,p26.2.2.2.2.2.2.1,()))
 else
  (bif(Nat.beq i25 1)then
  some (.inl ((IntKind.wrap .i64 (p26.1-1)),p26.2.2.2.2.1,p26.2.2.2.2.2.1,p26.2.2.2.2.2.2.1,()))
 else
  some (.inr (.exit i25 (p26.1,p26.2.2.2.2.1,p26.2.2.2.2.2.1,p26.2.2.2.2.2.2.1,())))))
 | .ret o27=>some o27)
def dDig  (fu:Nat)(f:Int):Option (ByteArray×Int) :=
 (bif(!(decide ((((clsK (bK (Int.toNat (absF f.toNat:Int)))):Nat):Int)=2)))then
 (bif(!(decide ((((clsK (bK (Int.toNat (absF f.toNat:Int)))):Nat):Int)=1)))then
 some ((ByteArray.mk (List.toArray [])),(0:Int))
 else
  (dOf (absF f.toNat:Int)).bind fun x0=>
  (Len x0.1).bind fun x1=>
  (Len x0.2).bind fun x2=>
  (itP fu (dDig_l1) ((IntKind.wrap .i64 ((IntKind.wrap .i64 (Int.tdiv (IntKind.wrap .i64 ((IntKind.wrap .i64 (x1-x2))*30103)) 100000))-2)),x0.1,x0.2,())).bind fun x8=>
  (itP fu (dDig_l2 fu) (x8.1,(absF f.toNat:Int),x0.1,x0.2,())).bind fun x28=>
  (match x28 with
 | .exit i29 p30=>(bif(Nat.beq i29 0)then
  none
 else none)
 | .ret o31=>some o31))
 else
  (dOf (absF f.toNat:Int)).bind fun x32=>
  (Len x32.1).bind fun x33=>
  (Len x32.2).bind fun x34=>
  (itP fu (dDig_l1) ((IntKind.wrap .i64 ((IntKind.wrap .i64 (Int.tdiv (IntKind.wrap .i64 ((IntKind.wrap .i64 (x33-x34))*30103)) 100000))-2)),x32.1,x32.2,())).bind fun x40=>
  (itP fu (dDig_l2 fu) (x40.1,(absF f.toNat:Int),x32.1,x32.2,())).bind fun x60=>
  (match x60 with
 | .exit i61 p62=>(bif(Nat.beq i61 0)then
  none
 else none)
 | .ret o63=>some o63))
abbrev AhS:=Int×((List Int)×(List Int)×Unit)
abbrev ahS(N D:Nat)(p:Int):AhS:=(p,ofN N,ofN D,())
theorem cmpI_le(a b:Nat):decide (cmpI a b≤0)=decide (a≤b):=by
 unfold cmpI;by_cases h1:a<b
 · rw[qT h1];simp;omega
 · rw[qI h1]
   by_cases h2:a=b
   · rw[qT h2];simp;omega
   · rw[qI h2];simp;omega
theorem ten_v{q:Int}(h:q≤2000):dTen_s q=some (ofN (pT q)):=by unfold dTen_s;rw[qc (by omega)];rfl
theorem ten_u{q:Int}(h : -2000≤q):dTen_s (-q)=some (ofN (pU q)):=by unfold dTen_s;rw[qc (by omega)];rfl
theorem ah_step{N D:Nat}{p:Int}(hN:blen N≤2000)(hD:blen D≤2000)(h1 : -1000≤p)(h2:p≤1000) :
 dDig_l1 (ahS N D p)=if pT (p+1)*D≤N*pU (p+1)then some (.inl (ahS N D (p+1)))else some (.inr (ahS N D p)):=by
 have w1:IntKind.i64.wrap (p+1)=p+1:=w64 (by omega) (by omega)
 have w2:IntKind.i64.wrap (IntKind.i64.wrap (0-p)-1) = -(p+1):=by rw[w64 (n:=0-p) (by omega) (by omega),w64 (by omega) (by omega)];omega
 have bt:=bT (q:=p+1) (by omega)
 have bu:=bU (q:=p+1) (by omega)
 have m1:=mul_b (u:=pT (p+1)) (v:=D) (by omega) (by omega)
 have m2:=mul_b (u:=N) (v:=pU (p+1)) (by omega) (by omega)
 unfold dDig_l1;simp only[w1,w2];refine obs (ten_v (by omega)) (obs m1 (obs (ten_u (by omega)) (obs m2 ?_)))
 simp only[valN_ofN];rw[cmpI_le,cond_dec]
set_option exponentiation.threshold 1200 in
theorem ah_run{N D:Nat}(hN:blen N≤1100)(hD:blen D≤1100)(hD0:0<D):∀(j:Nat) (p:Int),-400≤p→p+j=400→pT p*D≤N*pU p →
 ∃p',Runs (j+1) dDig_l1 (ahS N D p) (ahS N D p')∧p≤p'∧p'≤400∧pT p'*D≤N*pU p'∧N*pU (p'+1)<pT (p'+1)*D
 | 0,p,h1,h2,h3=>by
  exfalso;have:p=400:=by omega
  subst this;have e1:pT 400=10^400:=rfl
  have e2:pU 400=1:=rfl
  rw[e2,yd]at h3;have hl:=blen_lt N;have h4:2^blen N≤2^1100:=qL (by decide) hN
  have h5:(2:Nat)^1100≤10^400:=by decide +kernel
  have h6:pT 400*1≤pT 400*D:=qJ _ hD0
  rw[e1]at h6 h3;omega
 | j+1,p,h1,h2,h3=>by
  have st:=ah_step (N:=N) (D:=D) (p:=p) (by omega) (by omega) (by omega) (by omega)
  by_cases h:pT (p+1)*D≤N*pU (p+1)
  · rw[qT h]at st
    obtain⟨p',g1,g2,g3,g4,g5⟩:=ah_run hN hD hD0 j (p+1) (by omega) (by omega) h
    exact⟨p',Runs.next st g1,by omega,g3,g4,g5⟩
  · rw[qI h]at st
    exact⟨p,(Runs.stop (K:=j+1) st).up (by omega),by omega,by omega,h3,by omega⟩
abbrev InS:=Int×((List Int)×(List Int)×Int×Int×(List Int)×(List Int)×Unit)
abbrev inS(N D k n0 n1:Nat)(q j:Int):InS:=(q,ofN n0,ofN n1,j,(k:Int),ofN N,ofN D,())
abbrev OuS:=Int×(Int×(List Int)×(List Int)×Unit)
abbrev ouS(N D k:Nat)(q:Int):OuS:=(q,(k:Int),ofN N,ofN D,())
def gV(n:Nat)(q:Int):Nat:=if n=0 then 0 else fracV false 0 (n*pT q) (pU q)
theorem len_ofN(v:Nat)(h:blen v≤40000):Nat.ble (ofN v).length 100000=true:=qq (by have:=len_b v;omega)
theorem bl_n{n:Nat}(h:n≤10^18):blen n≤60:=blen_le.2 (jE h (by decide))
theorem bl_t{q:Int}(h:q≤420):blen (pT q)≤1681:=by have:=blen_ten q.toNat;unfold pT;omega
theorem bl_u{q:Int}(h : -420≤q):blen (pU q)≤1681:=by have:=blen_ten (-q).toNat;unfold pU;omega
theorem fr_v{n:Nat}{q:Int}(hn:n≤10^18)(h1 : -420≤q)(h2:q≤420):∃z,rFrac_s (false,ofN (n*pT q),ofN (pU q),(0:Int))=some (((gV n q:Nat):Int),z):=by
 have bn:=bl_n hn;have bt:=bl_t h2;have bu:=bl_u h1;have bp:=blen_mul n (pT q)
 unfold rFrac_s;simp only[valN_ofN];by_cases h0:n=0
 · subst h0
   rw[jN];refine⟨0,?_⟩
   rw[show Nat.beq 0 0=true from rfl,Bool.true_or,qe,show blen 0=0 by decide,show Nat.ble 0 100000=true from rfl,qq (show blen (pU q)≤100000 by omega)];rfl
 · have hm:n*pT q≠0:=y6 h0 (by have:=pT_pos q;omega)
   have hu:pU q≠0:=by have:=pU_pos q;omega
   have p1:=blen_pos hm;have p2:=blen_pos hu;rw[beq0 hm,beq0 hu,len_ofN _ (by omega),len_ofN _ (by omega),qq (show blen (n*pT q)≤40000 by omega),qq (show blen (pU q)≤40000 by omega),qc (show -4000≤fracE (n*pT q) (pU q) by unfold fracE;omega),qc (show fracE (n*pT q) (pU q)≤4000 by unfold fracE;omega)];exact⟨fracF false 0 (n*pT q) (pU q),by unfold gV;rw[qI h0];rfl⟩
theorem dg_len18{n:Nat}(h:n≤10^18):(dg n).length≤20:=by
 have key:∀(j n:Nat),n<10^(j+1)→(dg n).length≤j+1:=fun j=>by
  induction j with
  | zero=>intro n h;rw[dg_lt (by omega)];simp
  | succ j ih=>
   intro n h;by_cases h1:n<10
   · rw[dg_lt h1];simp
   · rw[dg_ge (by omega),qp]
     have:=ih (n / 10) (by rw[qS]at h;omega)
     simp only[yE];omega
 exact je (key 18 n (jE h (by decide))) (by decide)
theorem tx_v{n:Nat}(h:n≤10^18):nText_s (ofN n)=some (bs (dg n)):=by
 unfold nText_s;rw[valN_ofN,qq (by have:=bl_n h;omega)];rfl
theorem tr_v{n:Nat}{q:Int}(h:n≤10^18)(h1 : -420≤q)(h2:q≤420):dTr_s (bs (dg n),q)=some (ansD n q):=by
 have hl:=dg_len18 h;unfold dTr_s;simp only[lb_bs];rw[qq (by omega),qc (by omega),qc (by omega)];rfl
theorem gV_iff{k n:Nat}{q:Int}(hk:k≠0):((gV n q:Nat):Int)=(k:Int)↔n≠0∧fracV false 0 (n*pT q) (pU q)=k:=by
 unfold gV;by_cases h0:n=0
 · rw[qT h0];constructor
   · intro h;omega
   · rintro⟨h,_⟩;exact absurd h0 h
 · rw[qI h0];constructor
   · intro h;exact⟨h0,by omega⟩
   · rintro⟨_,h⟩;omega
theorem in_0{N D k n0 n1:Nat}{q:Int}(hk:k≠0)(hn:n0≤10^18)(h1 : -420≤q)(h2:q≤420) :
 dDig_l3 (inS N D k n0 n1 q 0)=if n0≠0∧fracV false 0 (n0*pT q) (pU q)=k then some (.inr (.ret (.inr (.ret (ansD n0 q)))))else some (.inl (inS N D k n0 n1 q 1)):=by
 obtain⟨z,hz⟩:=fr_v hn h1 h2;have bn:=bl_n hn;have bt:=bl_t h2;have m1:=mul_b (u:=n0) (v:=pT q) (by omega) (by omega)
 have w:IntKind.i64.wrap (0-q) = -q:=by rw[w64 (n:=0-q) (by omega) (by omega)];omega
 have key:dDig_l3 (inS N D k n0 n1 q 0)=(bif decide (((gV n0 q:Nat):Int)=(k:Int))then some (.inr (.ret (.inr (.ret (ansD n0 q)))))else some (.inl (inS N D k n0 n1 q 1))):=by
  have e1:dDig_l3 (inS N D k n0 n1 q 0)=((dTen_s q).bind fun x12=>(Mul_s (ofN n0,x12)).bind fun x13=>(dTen_s (IntKind.i64.wrap (0-q))).bind fun x14=>(rFrac_s (false,x13,x14,(0:Int))).bind fun x15=>(bif(decide (x15.1=(k:Int)))then((nText_s (ofN n0)).bind fun x16=>(dTr_s (x16,q)).bind fun x17=>some (.inr (.ret (.inr (.ret x17)))))else some (.inl (inS N D k n0 n1 q 1)))):=rfl
  rw[e1,w];refine obs (ten_v (by omega)) (obs m1 (obs (ten_u (by omega)) (obs hz ?_)))
  rw[tx_v hn,qf,tr_v hn h1 h2,qf]
 rw[key,cond_dec];by_cases h:((gV n0 q:Nat):Int)=(k:Int)
 · rw[qT h,qT ((gV_iff hk).1 h)]
 · rw[qI h,qI (fun h'=>h ((gV_iff hk).2 h'))]
theorem in_1{N D k n0 n1:Nat}{q:Int}(hk:k≠0)(hn:n1≤10^18)(h1 : -420≤q)(h2:q≤420) :
 dDig_l3 (inS N D k n0 n1 q 1)=if n1≠0∧fracV false 0 (n1*pT q) (pU q)=k then some (.inr (.ret (.inr (.ret (ansD n1 q)))))else some (.inl (inS N D k n0 n1 q 2)):=by
 obtain⟨z,hz⟩:=fr_v hn h1 h2;have bn:=bl_n hn;have bt:=bl_t h2;have m1:=mul_b (u:=n1) (v:=pT q) (by omega) (by omega)
 have w:IntKind.i64.wrap (0-q) = -q:=by rw[w64 (n:=0-q) (by omega) (by omega)];omega
 have key:dDig_l3 (inS N D k n0 n1 q 1)=(bif decide (((gV n1 q:Nat):Int)=(k:Int))then some (.inr (.ret (.inr (.ret (ansD n1 q)))))else some (.inl (inS N D k n0 n1 q 2))):=by
  have e1:dDig_l3 (inS N D k n0 n1 q 1)=((dTen_s q).bind fun x12=>(Mul_s (ofN n1,x12)).bind fun x13=>(dTen_s (IntKind.i64.wrap (0-q))).bind fun x14=>(rFrac_s (false,x13,x14,(0:Int))).bind fun x15=>(bif(decide (x15.1=(k:Int)))then((nText_s (ofN n1)).bind fun x16=>(dTr_s (x16,q)).bind fun x17=>some (.inr (.ret (.inr (.ret x17)))))else some (.inl (inS N D k n0 n1 q 2)))):=rfl
  rw[e1,w];refine obs (ten_v (by omega)) (obs m1 (obs (ten_u (by omega)) (obs hz ?_)))
  rw[tx_v hn,qf,tr_v hn h1 h2,qf]
 rw[key,cond_dec];by_cases h:((gV n1 q:Nat):Int)=(k:Int)
 · rw[qT h,qT ((gV_iff hk).1 h)]
 · rw[qI h,qI (fun h'=>h ((gV_iff hk).2 h'))]
theorem in_2(N D k n0 n1:Nat)(q:Int):dDig_l3 (inS N D k n0 n1 q 2)=some (.inr (.exit 2 (inS N D k n0 n1 q 2))):=rfl
theorem nrO_le(A B:Nat):nrO A B≤A / B+1:=by unfold nrO;split <;> omega
def ouK(r:Lp InS (OuS ⊕ (Lp OuS (ByteArray×Int)))):Option (OuS ⊕ (Lp OuS (ByteArray×Int))) :=
 match r with
 | .exit i25 p26=>(bif(Nat.beq i25 2)then some (.inl ((IntKind.wrap .i64 (p26.1-1)),p26.2.2.2.2.1,p26.2.2.2.2.2.1,p26.2.2.2.2.2.2.1,()))
  else(bif(Nat.beq i25 1)then some (.inl ((IntKind.wrap .i64 (p26.1-1)),p26.2.2.2.2.1,p26.2.2.2.2.2.1,p26.2.2.2.2.2.2.1,()))else
   some (.inr (.exit i25 (p26.1,p26.2.2.2.2.1,p26.2.2.2.2.2.1,p26.2.2.2.2.2.2.1,())))))
 | .ret o27=>some o27
theorem ou_step{N D k:Nat}{p q:Int}(hN:blen N≤1100)(hD:blen D≤1100)(hD0:0<D)(hk:k≠0)(h1 : -400≤q)(h2:q≤400)(hq:q≤p)(hp:p-17≤q)(hv:N*pU (p+1)<pT (p+1)*D) :
 (∃n,IsD k n q∧∀fu,3≤fu→dDig_l2 fu (ouS N D k q)=some (.inr (.ret (ansD n q)))) ∨
 (¬(nrN (N*pU q) (D*pT q)≠0∧fracV false 0 (nrN (N*pU q) (D*pT q)*pT q) (pU q)=k)∧∀fu,3≤fu→dDig_l2 fu (ouS N D k q)=some (.inl (ouS N D k (q-1)))):=by
 have dn:=dNear_val (N:=N) (D:=D) (q:=q) (by omega) (by omega) hD0 (by omega) (by omega)
 have ll:=low_le (q:=q) hD0 (by omega) hv
 have l18:10^(p+1-q).toNat≤10^18:=qL (by decide) (by omega)
 have g0:=nrN_le (N*pU q) (D*pT q)
 have g1:=nrO_le (N*pU q) (D*pT q)
 generalize N*pU q / (D*pT q)=L at *
 generalize nrN (N*pU q) (D*pT q)=n0 at *
 generalize nrO (N*pU q) (D*pT q)=n1 at *
 have w:IntKind.i64.wrap (q-1)=q-1:=w64 (by omega) (by omega)
 have s0:=in_0 (N:=N) (D:=D) (k:=k) (n0:=n0) (n1:=n1) (q:=q) hk (by omega) (by omega) (by omega)
 have s1:=in_1 (N:=N) (D:=D) (k:=k) (n0:=n0) (n1:=n1) (q:=q) hk (by omega) (by omega) (by omega)
 have s2:=in_2 N D k n0 n1 q;have fin:∀r,Runs 3 dDig_l3 (inS N D k n0 n1 q 0) r→∀fu,3≤fu→dDig_l2 fu (ouS N D k q)=ouK r:=fun r hr fu hfu=>by
  unfold dDig_l2;exact obs dn (obs (hr fu hfu) rfl)
 by_cases c0:n0≠0∧fracV false 0 (n0*pT q) (pU q)=k
 · rw[qT c0]at s0
   exact .inl ⟨n0,⟨c0.1,by omega,h1,h2,c0.2⟩,fin _ ((Runs.stop (K:=0) s0).up (by omega))⟩
 · rw[qI c0]at s0
   by_cases c1:n1≠0∧fracV false 0 (n1*pT q) (pU q)=k
   · rw[qT c1]at s1
     exact .inl ⟨n1,⟨c1.1,by omega,h1,h2,c1.2⟩,fin _ ((Runs.next s0 (Runs.stop (K:=0) s1)).up (by omega))⟩
   · rw[qI c1]at s1
     refine .inr ⟨c0,fun fu hfu=>?_⟩
     refine(fin _ (Runs.next s0 (Runs.next s1 (Runs.stop (K:=0) s2))) fu hfu).trans ?_
     show(some (Sum.inl (IntKind.i64.wrap (q-1),(k:Int),ofN N,ofN D,())):Option (OuS ⊕ (Lp OuS (ByteArray×Int))))=_
     rw[w]
theorem ou_run{N D k:Nat}{p:Int}(hN:blen N≤1100)(hD:blen D≤1100)(hD0:0<D)(hk:k≠0)(ht:k≤topN)(hp:p≤400)(hp' : -380≤p)(hv:N*pU (p+1)<pT (p+1)*D)
 (hlast:nrN (N*pU (p-17)) (D*pT (p-17))≠0∧fracV false 0 (nrN (N*pU (p-17)) (D*pT (p-17))*pT (p-17)) (pU (p-17))=k) :
 ∀(j:Nat) (q:Int),q=p-17+j→q≤p→∃n q',IsD k n q'∧∀fu,3≤fu→Runs (j+1) (dDig_l2 fu) (ouS N D k q) (.ret (ansD n q'))
 | 0,q,h,hq=>by
  have:q=p-17:=by omega
  subst this;rcases ou_step hN hD hD0 hk (by omega) (by omega) hq (by omega) hv with⟨n,g1,g2⟩ | ⟨g,_⟩
  · exact⟨n,_,g1,fun fu hfu=>Runs.stop (g2 fu hfu)⟩
  · exact absurd hlast g
 | j+1,q,h,hq=>by
  rcases ou_step hN hD hD0 hk (q:=q) (by omega) (by omega) hq (by omega) hv with⟨n,g1,g2⟩ | ⟨_,g⟩
  · exact⟨n,_,g1,fun fu hfu=>(Runs.stop (K:=j+1) (g2 fu hfu)).up (by omega)⟩
  · obtain⟨n,q',e1,e2⟩:=ou_run hN hD hD0 hk ht hp hp' hv hlast j (q-1) (by omega) (by omega)
    exact⟨n,q',e1,fun fu hfu=>Runs.next (g fu hfu) (e2 fu hfu)⟩
def DgP(f:Int)(y:ByteArray×Int):Prop :=
 (clsK (bK f.toNat)≠2∧clsK (bK f.toNat)≠1∧y=(bs [],0)) ∨
 ((clsK (bK f.toNat)=2∨clsK (bK f.toNat)=1)∧∃n q,IsD (bK f.toNat) n q∧y=ansD n q)
theorem cls12{k:Nat}(h:clsK k=2∨clsK k=1):k≤topN∧k≠0:=by
 rw[clsK_val]at h;unfold topN;revert h
 (repeat' split) <;> omega
theorem bK_idem{k:Nat}(h:k<9223372036854775808):bK k=k:=jD h
theorem clsA{f:Int}(hf:inR .u64 f=true):clsK (bK (Int.toNat ((absF f.toNat:Nat):Int)))=clsK (bK f.toNat):=by
 rw[qb];unfold absF;cases nanK (bK f.toNat)with
 | true=>rfl
 | false=>rw[qh,bK_idem (bK_lt _)]
theorem dig_body{f:Int}{k:Nat}(hk:k=bK f.toNat)(hc:clsK k=2∨clsK k=1):∃n q,IsD k n q∧∀fu,2000≤fu →
 ((dOf (k:Int)).bind fun x0=>(Len x0.1).bind fun x1=>(Len x0.2).bind fun x2=>
   (itP fu (dDig_l1) ((IntKind.wrap .i64 ((IntKind.wrap .i64 (Int.tdiv (IntKind.wrap .i64 ((IntKind.wrap .i64 (x1-x2))*30103)) 100000))-2)),x0.1,x0.2,())).bind fun x8=>
   (itP fu (dDig_l2 fu) (x8.1,(k:Int),x0.1,x0.2,())).bind fun x28=>
   (match x28 with
     | .exit i29 p30=>(bif(Nat.beq i29 0)then none else none)
     | .ret o31=>some o31))=some (ansD n q):=by
 obtain⟨ht,h0⟩:=cls12 hc;have of:=dOf_val (f:=(k:Int)) (k:=k) (by rw[qb,bK_idem (by unfold topN at ht;omega)]) ht h0
 have bA:=bOfA ht;have bB:=bOfB k;have hD0:=ofB_pos k;have hv:=of_val k;have hA0:ofA k≠0:=y6 (kM_pos h0) (by have:=qE (((kE k:Nat):Int)-1074).toNat;omega)
 obtain⟨e,he⟩:∃e,e=(1074-((kE k:Nat):Int)).toNat:=⟨_,rfl⟩
 have eB:ofB k=2^e:=by unfold ofB;rw[he]
 have e1:e≤1099:=by omega
 have lB:blen (ofB k)=e+1:=by rw[eB];exact blen_pow2 e
 have p0l:=p0_le hA0 bA e1;have pin:=p0_in (d:=(blen (ofA k):Int)-((e+1:Nat):Int)) (by omega) (by have:=blen_pos hA0;omega)
 rw[← eB]at p0l;obtain⟨p,hp⟩:∃p,p=p0 ((blen (ofA k):Int)-((e+1:Nat):Int)):=⟨_,rfl⟩
 rw[← hp]at p0l pin;obtain⟨p',g1,g2,g3,g4,g5⟩:=ah_run bA bB hD0 (400-p).toNat p (by omega) (by omega) p0l
 have hfit:pT p'*P75≤2*kV k*pU p':=by
  refine Nat.le_of_mul_le_mul_left (c:=ofB k) ?_ hD0
  have h1:=qt P75 g4;have e1:pT p'*ofB k*P75=ofB k*(pT p'*P75):=by rw[qz (pT p'),qo]
  have e2:ofA k*pU p'*P75=ofB k*(2*kV k*pU p'):=by
   rw[jo,hv,← qo 2,qz 2 (ofB k),qo (ofB k*2) (kV k),qo (ofB k) 2,qo 2 (kV k)]
  rw[e1,e2]at h1;exact h1
 have hT:=fit hfit;have nn:=nrN_near (q:=p'-17) ht h0 hD0 hv hT
 have hlast:nrN (ofA k*pU (p'-17)) (ofB k*pT (p'-17))≠0∧fracV false 0 (nrN (ofA k*pU (p'-17)) (ofB k*pT (p'-17))*pT (p'-17)) (pU (p'-17))=k:=by
  have ll:=low_le (q:=p'-17) hD0 (by omega) g5
  have l18:10^(p'+1-(p'-17)).toNat≤10^18:=qL (by decide) (by omega)
  have g0:=nrN_le (ofA k*pU (p'-17)) (ofB k*pT (p'-17))
  generalize ofA k*pU (p'-17) / (ofB k*pT (p'-17))=L at *
  generalize nrN (ofA k*pU (p'-17)) (ofB k*pT (p'-17))=n at *
  have hn:n≠0:=fun h=>by
   subst h;rw[jN]at nn;obtain⟨h1,_,_⟩:=nn;have:=pU_pos (p'-17)
   rcases h1 with h | h | ⟨h,_⟩
   · exact h0 h
   · omega
   · have m:=mid2_eq (k-1)
     have:0<mid2 (k-1):=by rw[m];exact y7 (by omega) (qE _)
     have:=y7 (pU_pos (p'-17)) this
     omega
  refine⟨hn,?_⟩
  have hm:n*pT (p'-17)≠0:=y6 hn (by have:=pT_pos (p'-17);omega)
  have hu:pU (p'-17)≠0:=by have:=pU_pos (p'-17);omega
  have bn:=bl_n (n:=n) (by omega)
  have bt:=bl_t (q:=p'-17) (by omega)
  have bu:=bl_u (q:=p'-17) (by omega)
  have bp:=blen_mul n (pT (p'-17))
  exact nr_uniq (frac_near hm hu (by unfold fracE;omega) (by unfold fracE;omega)) nn rfl (pU_pos _) (pU_pos _)
 obtain⟨n,q,i1,i2⟩:=ou_run bA bB hD0 h0 ht (by omega) (by omega) g5 hlast 17 p' (by omega) (by omega)
 refine⟨n,q,i1,fun fu hfu=>?_⟩
 have L1:=Len_b (v:=ofA k) (by omega)
 have L2:=Len_b (v:=ofB k) (by omega)
 have w1:IntKind.i64.wrap (((blen (ofA k):Nat):Int)-((blen (ofB k):Nat):Int))=((blen (ofA k):Nat):Int)-((blen (ofB k):Nat):Int):=w64 (by omega) (by omega)
 have w2:IntKind.i64.wrap (IntKind.i64.wrap (Int.tdiv (IntKind.i64.wrap (IntKind.i64.wrap (((blen (ofA k):Nat):Int)-((blen (ofB k):Nat):Int))*30103)) 100000)-2)=p:=by
  have pe:p=Int.tdiv ((((blen (ofA k):Nat):Int)-((blen (ofB k):Nat):Int))*30103) 100000-2:=by rw[hp,lB];rfl
  rw[w1,w64 (n:=(((blen (ofA k):Nat):Int)-((blen (ofB k):Nat):Int))*30103) (by omega) (by omega)];generalize Int.tdiv ((((blen (ofA k):Nat):Int)-((blen (ofB k):Nat):Int))*30103) 100000=t at *
  rw[w64 (n:=t) (by omega) (by omega),w64 (by omega) (by omega)];exact pe.symm
 refine obs of (obs L1 (obs L2 ?_))
 rw[w2];refine obs (g1 fu (by omega)) (obs (i2 fu (by omega) fu (by omega)) rfl)
theorem dig_ex(f:Int)(hf:inR .u64 f=true):∃y,(∃m,dDig m f=some y)∧DgP f y:=by
 have cA:=clsA hf;by_cases c2:clsK (bK f.toNat)=2
 · obtain⟨ht,_⟩:=cls12 (.inl c2)
   have ab:absF f.toNat=bK f.toNat:=by unfold absF;rw[nanK_not.2 (by unfold topN at ht;omega)];rfl
   obtain⟨n,q,h1,h2⟩:=dig_body (f:=f) rfl (.inl c2)
   refine⟨_,⟨2000,?_⟩,.inr ⟨.inl c2,n,q,h1,rfl⟩⟩
   unfold dDig;rw[cA,qc (show((clsK (bK f.toNat):Nat):Int)=2 by omega),zE,qh,ab];exact h2 2000 (qC _)
 · by_cases c1:clsK (bK f.toNat)=1
   · obtain⟨ht,_⟩:=cls12 (.inr c1)
     have ab:absF f.toNat=bK f.toNat:=by unfold absF;rw[nanK_not.2 (by unfold topN at ht;omega)];rfl
     obtain⟨n,q,h1,h2⟩:=dig_body (f:=f) rfl (.inr c1)
     refine⟨_,⟨2000,?_⟩,.inr ⟨.inr c1,n,q,h1,rfl⟩⟩
     unfold dDig;rw[cA,qm (show¬((clsK (bK f.toNat):Nat):Int)=2 by omega),yt,qe,qc (show((clsK (bK f.toNat):Nat):Int)=1 by omega),zE,qh,ab];exact h2 2000 (qC _)
   · refine⟨(bs [],0),⟨0,?_⟩,.inl ⟨c2,c1,rfl⟩⟩
     unfold dDig;rw[cA,qm (show¬((clsK (bK f.toNat):Nat):Int)=2 by omega),yt,qe,qm (show¬((clsK (bK f.toNat):Nat):Int)=1 by omega),yt,qe];rfl
open Classical in
noncomputable def dDig_s(f:Int):Option (ByteArray×Int):=if h:∃y,(∃m,dDig m f=some y)∧DgP f y then some (choose h)else none
theorem dDig_ok(f:Int)(y:ByteArray×Int)(hg:(d1 (cI .u64)).good f)(h:dDig_s f=some y):∃n,dDig n f=some y:=by
 unfold dDig_s at h;split at h
 · rename_i hx
   have:=soi h;subst this
   exact(Classical.choose_spec hx).1
 · cases h
theorem dDig_val{f:Int}(hf:inR .u64 f=true):∃y,dDig_s f=some y∧DgP f y:=by
 have hx:=dig_ex f hf;refine⟨Classical.choose hx,?_,(Classical.choose_spec hx).2⟩
 unfold dDig_s;rw[dif_pos hx]
end
end Su
end
section
namespace Su
open Go Fly
noncomputable section
def qParts  (f:Int):Option (Bool×Int×Int) :=
 some ((decide ((IntKind.wrap .u64 (Int.tdiv f 9223372036854775808))=1)),(IntKind.wrap .i64 (Int.tmod (IntKind.wrap .u64 (Int.tdiv f 4503599627370496)) 2048)),(Int.tmod f 4503599627370496))
def qClass  (f:Int):Option Int :=
 (bif(decide ((IntKind.wrap .i64 (Int.tmod (IntKind.wrap .u64 (Int.tdiv f 4503599627370496)) 2048))=2047))then
 (bif(decide ((Int.tmod f 4503599627370496)=0))then
 some 3
 else
  (bif(decide ((IntKind.wrap .i64 (Int.tmod (IntKind.wrap .u64 (Int.tdiv f 4503599627370496)) 2048))=2047))then
  some 4
 else
  (bif(decide ((IntKind.wrap .i64 (Int.tmod (IntKind.wrap .u64 (Int.tdiv f 4503599627370496)) 2048))=0))then
  (bif(decide ((Int.tmod f 4503599627370496)=0))then
  some 0
 else
  (bif(decide ((IntKind.wrap .i64 (Int.tmod (IntKind.wrap .u64 (Int.tdiv f 4503599627370496)) 2048))=0))then
  some 1
 else
  some 2))
 else
  (bif(decide ((IntKind.wrap .i64 (Int.tmod (IntKind.wrap .u64 (Int.tdiv f 4503599627370496)) 2048))=0))then
  some 1
 else
  some 2))))
 else
  (bif(decide ((IntKind.wrap .i64 (Int.tmod (IntKind.wrap .u64 (Int.tdiv f 4503599627370496)) 2048))=2047))then
  some 4
 else
  (bif(decide ((IntKind.wrap .i64 (Int.tmod (IntKind.wrap .u64 (Int.tdiv f 4503599627370496)) 2048))=0))then
  (bif(decide ((Int.tmod f 4503599627370496)=0))then
  some 0
 else
  (bif(decide ((IntKind.wrap .i64 (Int.tmod (IntKind.wrap .u64 (Int.tdiv f 4503599627370496)) 2048))=0))then
  some 1
 else
  some 2))
 else
  (bif(decide ((IntKind.wrap .i64 (Int.tmod (IntKind.wrap .u64 (Int.tdiv f 4503599627370496)) 2048))=0))then
  some 1
 else
  some 2))))
theorem td_nat(m n:Nat):Int.tdiv (m:Int) (n:Int)=((m / n:Nat):Int):=rfl
theorem tm_nat(m n:Nat):Int.tmod (m:Int) (n:Int)=((m % n:Nat):Int):=rfl
theorem td63{f:Nat}(h:f<18446744073709551616):decide (IntKind.u64.wrap (Int.tdiv (f:Int) 9223372036854775808)=1)=bS f:=by
 rw[show(9223372036854775808:Int)=((9223372036854775808:Nat):Int) from rfl,td_nat,wu64 (by omega) (by omega)];refine bB ?_
 rw[bS_iff];constructor
 · intro h;have:f / 9223372036854775808=1:=by omega
   rw[this];rfl
 · intro h;omega
theorem tdE{f:Nat}(h:f<18446744073709551616):IntKind.i64.wrap (Int.tmod (IntKind.u64.wrap (Int.tdiv (f:Int) 4503599627370496)) 2048)=((bK f / 4503599627370496:Nat):Int):=by
 rw[show(4503599627370496:Int)=((4503599627370496:Nat):Int) from rfl,td_nat,wu64 (by omega) (by omega),show(2048:Int)=((2048:Nat):Int) from rfl,tm_nat,w64 (by omega) (by omega)]
 congr 1
 unfold bK;omega
theorem tmF(f:Nat):Int.tmod (f:Int) 4503599627370496=((bK f % 4503599627370496:Nat):Int):=by
 rw[show(4503599627370496:Int)=((4503599627370496:Nat):Int) from rfl,tm_nat]
 congr 1
 unfold bK;omega
def qParts_s(f:Int):Option (Bool×Int×Int):=some (bS f.toNat,((bK f.toNat / 4503599627370496:Nat):Int),((bK f.toNat % 4503599627370496:Nat):Int))
theorem qParts_ok(f:Int)(y:Bool×Int×Int)(hg:(d1 (cI .u64)).good f)(h:qParts_s f=some y):qParts f=some y:=by
 obtain⟨n,rfl,hn⟩:=asN64 hg;have:=soi h;subst this
 unfold qParts;rw[td63 hn,tdE hn,tmF,qb]
def qClass_s(f:Int):Option Int:=some ((clsK (bK f.toNat):Nat):Int)
theorem qClass_ok(f:Int)(y:Int)(hg:(d1 (cI .u64)).good f)(h:qClass_s f=some y):qClass f=some y:=by
 obtain⟨n,rfl,hn⟩:=asN64 hg;have:=soi h;subst this
 unfold qClass;rw[tdE hn,tmF,qb];have hk:=bK_lt n;generalize bK n=k at *
 have e:k=k / 4503599627370496*4503599627370496+k % 4503599627370496:=by omega
 have he:k / 4503599627370496≤2047:=by omega
 have hf:k % 4503599627370496<4503599627370496:=by omega
 have hc:=clsK_eq he hf;rw[← e]at hc;rw[hc];generalize k / 4503599627370496=E at *
 generalize k % 4503599627370496=F at *
 rw[show(2047:Int)=((2047:Nat):Int) from rfl,show(0:Int)=((0:Nat):Int) from rfl,nat_eq,nat_eq,nat_eq];by_cases h1:E=2047
 · subst h1
   by_cases h2:F=0
   · subst h2;rfl
   · simp[h2]
 · by_cases h2:E=0
   · subst h2
     by_cases h3:F=0
     · subst h3;rfl
     · simp[h3]
   · simp[h1,h2]
end
end Su
end
section
namespace Su
open Go Fly
noncomputable section
def dForm_c2(d:ByteArray)(q:Int) :=
 bif(true&&(decide (1≤(ByteArray.size d:Int))))then
 (bif(decide (1<(ByteArray.size d:Int)))then
 (bif((true&&(decide (1≤(ByteArray.size d:Int))))&&(decide ((ByteArray.size d:Int)≤(ByteArray.size d:Int))))then
 (bif(Nat.ble (1+(ByteArray.size (ByteArray.extract d 1 (Int.toNat (ByteArray.size d:Int))))) 549755813888)then
 (bif(Nat.ble ((ByteArray.size (ByteArray.extract d 0 1))+(ByteArray.size ((ByteArray.mk (List.toArray [46]))++(ByteArray.extract d 1 (Int.toNat (ByteArray.size d:Int)))))) 549755813888)then
 (bif(Nat.ble ((ByteArray.size ((ByteArray.extract d 0 1)++((ByteArray.mk (List.toArray [46]))++(ByteArray.extract d 1 (Int.toNat (ByteArray.size d:Int))))))+1) 549755813888)then
 (tIt_s (IntKind.wrap .i64 ((IntKind.wrap .i64 ((ByteArray.size d:Int)+q))-1))).bind fun x2=>
 (bif(Nat.ble ((ByteArray.size (((ByteArray.extract d 0 1)++((ByteArray.mk (List.toArray [46]))++(ByteArray.extract d 1 (Int.toNat (ByteArray.size d:Int)))))++(ByteArray.mk (List.toArray [101]))))+(ByteArray.size x2)) 549755813888)then
 some ((((ByteArray.extract d 0 1)++((ByteArray.mk (List.toArray [46]))++(ByteArray.extract d 1 (Int.toNat (ByteArray.size d:Int)))))++(ByteArray.mk (List.toArray [101])))++x2)
 else none)
 else none)
 else none)
 else none)
 else none)
 else
  (bif(Nat.ble ((ByteArray.size (ByteArray.extract d 0 1))+1) 549755813888)then
  (tIt_s (IntKind.wrap .i64 ((IntKind.wrap .i64 ((ByteArray.size d:Int)+q))-1))).bind fun x3=>
  (bif(Nat.ble ((ByteArray.size ((ByteArray.extract d 0 1)++(ByteArray.mk (List.toArray [101]))))+(ByteArray.size x3)) 549755813888)then
  some (((ByteArray.extract d 0 1)++(ByteArray.mk (List.toArray [101])))++x3)
 else none)
 else none))
 else
  none
def dForm_c1(d:ByteArray)(q:Int) :=
 bif(decide ((-5)≤(IntKind.wrap .i64 ((ByteArray.size d:Int)+q))))then
 (bif(decide ((IntKind.wrap .i64 ((ByteArray.size d:Int)+q))≤0))then
 (tRep_s ((),(IntKind.wrap .i64 (0-(IntKind.wrap .i64 ((ByteArray.size d:Int)+q)))))).bind fun x1=>
 (bif(Nat.ble (2+(ByteArray.size x1)) 549755813888)then
 (bif(Nat.ble ((ByteArray.size ((ByteArray.mk (List.toArray [48,46]))++x1))+(ByteArray.size d)) 549755813888)then
 some (((ByteArray.mk (List.toArray [48,46]))++x1)++d)
 else none)
 else none)
 else
  (dForm_c2 d q))
 else
  (dForm_c2 d q)
def dForm_c3(d:ByteArray)(q:Int) :=
 bif(decide (q<0))then
 (bif(decide (0<(IntKind.wrap .i64 ((ByteArray.size d:Int)+q))))then
 (bif((true&&(decide (0≤(IntKind.wrap .i64 ((ByteArray.size d:Int)+q)))))&&(decide ((IntKind.wrap .i64 ((ByteArray.size d:Int)+q))≤(ByteArray.size d:Int))))then
 (bif(Nat.ble ((ByteArray.size (ByteArray.extract d 0 (Int.toNat (IntKind.wrap .i64 ((ByteArray.size d:Int)+q)))))+1) 549755813888)then
 (bif(((decide (0≤(IntKind.wrap .i64 ((ByteArray.size d:Int)+q))))&&(decide ((IntKind.wrap .i64 ((ByteArray.size d:Int)+q))≤(ByteArray.size d:Int))))&&(decide ((ByteArray.size d:Int)≤(ByteArray.size d:Int))))then
 (bif(Nat.ble ((ByteArray.size ((ByteArray.extract d 0 (Int.toNat (IntKind.wrap .i64 ((ByteArray.size d:Int)+q))))++(ByteArray.mk (List.toArray [46]))))+(ByteArray.size (ByteArray.extract d (Int.toNat (IntKind.wrap .i64 ((ByteArray.size d:Int)+q))) (Int.toNat (ByteArray.size d:Int))))) 549755813888)then
 some (((ByteArray.extract d 0 (Int.toNat (IntKind.wrap .i64 ((ByteArray.size d:Int)+q))))++(ByteArray.mk (List.toArray [46])))++(ByteArray.extract d (Int.toNat (IntKind.wrap .i64 ((ByteArray.size d:Int)+q))) (Int.toNat (ByteArray.size d:Int))))
 else none)
 else none)
 else none)
 else none)
 else
  (dForm_c1 d q))
 else
  (dForm_c1 d q)
def dForm  (d:ByteArray)(q:Int):Option ByteArray :=
 (bif(decide (0≤q))then
 (bif(decide ((IntKind.wrap .i64 ((ByteArray.size d:Int)+q))≤21))then
 (tRep_s ((),q)).bind fun x0=>
 (bif(Nat.ble ((ByteArray.size d)+(ByteArray.size x0)) 549755813888)then
 (bif(Nat.ble ((ByteArray.size (d++x0))+2) 549755813888)then
 some ((d++x0)++(ByteArray.mk (List.toArray [46,48])))
 else none)
 else none)
 else
  (dForm_c3 d q))
 else
  (dForm_c3 d q))
theorem bdT{α:Type}{p:Prop}[Decidable p](h:p)(a b:α):(bif decide p then a else b)=a:=by rw[qc h];rfl
theorem bdF{α:Type}{p:Prop}[Decidable p](h : ¬p)(a b:α):(bif decide p then a else b)=b:=by rw[qm h];rfl
theorem bdA{α:Type}(x y:Bool)(a b:α):(bif x&&y then a else b)=bif x then(bif y then a else b)else b:=by cases x <;> rfl
theorem bdB{α:Type}{n m:Nat}(h:n≤m)(a b:α):(bif Nat.ble n m then a else b)=a:=by rw[qq h];rfl
def formL(d:List UInt8)(q:Int):List UInt8 :=
 if 0≤q∧(d.length:Int)+q≤21 then d++zs q.toNat++[46,48]else
 if q<0∧0<(d.length:Int)+q then d.take ((d.length:Int)+q).toNat++[46]++d.drop ((d.length:Int)+q).toNat else
 if(d.length:Int)+q≤0∧-5≤(d.length:Int)+q then[48,46]++zs (-((d.length:Int)+q)).toNat++d else
 d.take 1++(if 1<d.length then 46::d.drop 1 else[])++101::itT ((d.length:Int)+q-1)
def okF(d:List UInt8)(q:Int):Bool:=decide (1≤d.length)&&(decide (d.length≤1000)&&(decide (-1000≤q)&&decide (q≤1000)))
theorem okF_iff{d:List UInt8}{q:Int}:okF d q=true↔1≤d.length∧d.length≤1000∧-1000≤q∧q≤1000:=by
 unfold okF;simp only[qk,qF]
def dForm_s(p:ByteArray×Int):Option ByteArray:=bif okF (lb p.1) p.2 then some (bs (formL (lb p.1) p.2))else none
theorem rep_v{n:Int}(h1:0≤n)(h2:n≤40):tRep_s ((),n)=some (bs (zs n.toNat)):=by unfold tRep_s;rw[qc h1,qc h2];rfl
theorem it_v{n:Int}(h1 : -10000≤n)(h2:n≤10000):tIt_s n=some (bs (itT n)):=by unfold tIt_s;rw[qc (by omega),qc (by omega)];rfl
theorem zs_len(n:Nat):(zs n).length=n:=zp
theorem dForm_ok(p:ByteArray×Int)(y:ByteArray)(hg:(dc cS (d1 (cI .i64))).good p)(h:dForm_s p=some y):dForm p.1 p.2=some y:=by
 obtain⟨d,q⟩:=p;revert h;refine onB (P:=fun d=>dForm_s (d,q)=some y→dForm d q=some y) (fun l h=>?_) d
 obtain⟨h1,h2⟩:=bif_some h;have:=soi h2;subst this
 simp only[lb_bs]at h1 ⊢;obtain⟨a1,a2,a3,a4⟩:=okF_iff.1 h1;clear hg h h1 h2;have w1:IntKind.i64.wrap (((l.length:Nat):Int)+q)=((l.length:Nat):Int)+q:=w64 (by omega) (by omega)
 have w2:IntKind.i64.wrap (0-(((l.length:Nat):Int)+q)) = -(((l.length:Nat):Int)+q):=by rw[w64 (by omega) (by omega)];omega
 have w3:IntKind.i64.wrap (((l.length:Nat):Int)+q-1)=((l.length:Nat):Int)+q-1:=w64 (by omega) (by omega)
 have il:=itT_len (n:=((l.length:Nat):Int)+q-1) (by omega) (by omega)
 unfold dForm dForm_c3 dForm_c1 dForm_c2;simp only[bs_size,w1,w2,w3,mk_bs,bs_ext,bs_app];unfold formL;by_cases c1:0≤q∧((l.length:Nat):Int)+q≤21
 · rw[qT c1]
   have r:=rep_v (n:=q) (by omega) (by omega)
   have zl:=zs_len q.toNat;simp (disch:=omega) only[↓bdT,↓bdF,r,qf]
   simp (disch:=((try simp only[bs_size,qp,zl]);omega)) only[bdB,bs_app]
 · rw[qI c1]
   by_cases c2:q<0∧0<((l.length:Nat):Int)+q
   · rw[qT c2]
     simp (disch:=omega) only[↓bdT,↓bdF,↓bdA,↓qe]
     simp (disch:=(simp only[qp,qH,qV,qy,qR];omega)) only[bdB,bs_app,qb,jF,jX]
     rw[qB (l:=List.drop _ l) (by simp)]
   · rw[qI c2]
     by_cases c3:((l.length:Nat):Int)+q≤0∧-5≤((l.length:Nat):Int)+q
     · rw[qT c3]
       have r:=rep_v (n:=-(((l.length:Nat):Int)+q)) (by omega) (by omega)
       have zl:=zs_len (-(((l.length:Nat):Int)+q)).toNat
       simp (disch:=omega) only[↓bdT,↓bdF,↓bdA,↓qe,r,qf]
       simp (disch:=((try simp only[bs_size,qp,qy,qR,zl]);omega)) only[bdB,bs_app]
     · rw[qI c3]
       have r:=it_v (n:=((l.length:Nat):Int)+q-1) (by omega) (by omega)
       generalize itT (((l.length:Nat):Int)+q-1)=T at *
       have hq:0≤q∧21<((l.length:Nat):Int)+q∨q<0∧((l.length:Nat):Int)+q < -5:=by omega
       by_cases c4:1<l.length
       · rw[qT c4]
         have ht:List.take (l.length-1) (l.drop 1)=l.drop 1:=qB (by simp)
         rcases hq with hq | hq
         · simp (disch:=omega) only[↓bdT,↓bdF,↓bdA,↓qe,r,qf]
           simp (disch:=((try simp only[bs_size,qp,qy,qR,qH,qV]);omega)) only[bdB,bs_app,qb,jF,jX,ht]
           simp
         · simp (disch:=omega) only[↓bdT,↓bdF,↓bdA,↓qe,r,qf]
           simp (disch:=((try simp only[bs_size,qp,qy,qR,qH,qV]);omega)) only[bdB,bs_app,qb,jF,jX,ht]
           simp
       · rw[qI c4]
         rcases hq with hq | hq
         · simp (disch:=omega) only[↓bdT,↓bdF,↓bdA,↓qe,r,qf]
           simp (disch:=((try simp only[bs_size,qp,qy,qR,qH,qV]);omega)) only[bdB,bs_app,qb,jF,jX]
           simp
         · simp (disch:=omega) only[↓bdT,↓bdF,↓bdA,↓qe,r,qf]
           simp (disch:=((try simp only[bs_size,qp,qy,qR,qH,qV]);omega)) only[bdB,bs_app,qb,jF,jX]
           simp
end
end Su
end
