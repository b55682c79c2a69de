/-
  Bits and rounding, in plain Lean. No condition.
-/
import Derived.Test.YtldhknmacepeiaaGreatDoorNT15
import Derived.Test.YtldhknmacepeiaaGreatDoorSuXl
set_option linter.unusedVariables false
set_option linter.unusedSimpArgs false
set_option maxRecDepth 10000
section
namespace Su
open Go Fly
theorem nr_zero{n l:Nat}{q:Int}(h2:n<10^l)(hlt:(l:Int)+q < -325):Nr (n*pT q) (pU q) 0:=by
 have m1:=mid2_pos 0
 obtain⟨K,x,hx,hK,cl⟩:=c_lo;refine⟨.inl rfl,fun _=>.inl ?_,by omega⟩
 have e1:10^l*pT q*K≤pU q:=by
  rw[hK];unfold pT pU;rw[← qH,← qH];exact qT (by decide) (by omega)
 have e2:n*pT q*K<10^l*pT q*K:=qR (qR h2 (pT_pos q)) (by omega)
 have e3:pU q*1≤pU q*mid2 0:=qI _ m1
 have e4:n*pT q*P75≤n*pT q*K:=qI _ (yu cl)
 generalize n*pT q*K=z1 at *
 generalize 10^l*pT q*K=z2 at *
 omega
theorem nr_top{n l:Nat}{q:Int}(h1:10^(l-1)≤n)(hl:1≤l)(hlt:320<(l:Int)+q):Nr (n*pT q) (pU q) 9218868437227405312:=by
 obtain⟨K,T,x,y,hx,hy,hK,hT,cu⟩:=c_up;have m2:mid2 (9218868437227405312-1)≤T:=by rw[hT];exact mid2_top (by unfold topN;omega) hy
 refine⟨.inr (.inl ?_),fun h=>by unfold topN at h;omega,by unfold topN;omega⟩
 have e1:pU q*K≤10^(l-1)*pT q:=by
  rw[hK];unfold pT pU;rw[← qH,← qH];exact qT (by decide) (by omega)
 have e2:10^(l-1)*pT q≤n*pT q:=qw _ h1
 have e3:pU q*K*P75≤n*pT q*P75:=qw _ (je e1 e2)
 have e4:pU q*mid2 (9218868437227405312-1)≤pU q*T:=qI _ m2
 have e5:pU q*T<pU q*(K*P75):=yT cu (pU_pos q)
 rw[qx]at e3;exact jz e4 (jg e5 e3)
theorem parF_nr{t:List UInt8}{pw:Int}{N D w:Nat}(hs:∀c∈t,isD c=true)(hd:∃c r,t=c::r∧c≠48)(hl:t.length≤400)(p1 : -400≤pw)(p2:pw≤400)
 (h:Nr N D w) (hD:0<D) (e:N*pU pw=dv t*pT pw*D):parF t pw=if w=9218868437227405312 then(0,82)else((w:Int),0):=by
 obtain⟨c,r,e0,hc⟩:=hd;have tn:t≠[]:=by rw[e0];simp
 have tl:1≤t.length:=by rw[e0];simp
 have nlo:10^(t.length-1)≤dv t:=by
  have:=dv_ge (r:=r) (hs c (by rw[e0];exact qz)) hc
  rw[e0,qy,jN];exact this
 have nhi:=dv_lt t hs;unfold parF;by_cases c1:(t.length:Int)+pw < -325
 · rw[qU (.inr c1)]
   have:w=0:=nr_uniq h (nr_zero nhi c1) e hD (pU_pos pw)
   subst this;rfl
 · rw[qM (by rintro(h | h);exact tn h;exact c1 h)]
   by_cases c2:320<(t.length:Int)+pw
   · rw[qU c2]
     have:w=9218868437227405312:=nr_uniq h (nr_top nlo tl c2) e hD (pU_pos pw)
     subst this;rfl
   · rw[qM c2]
     have b3:=blen_lt10 nhi;have c1:blen (pT pw)≤1681:=bl_t (by omega)
     have c2:blen (pU pw)≤1681:=bl_u (by omega)
     have c3:=blen_mul (dv t) (pT pw)
     have tv0:dv t≠0:=by have:=Nat.one_le_pow (t.length-1) 10 (by decide);omega
     have hm1:dv t*pT pw≠0:=Nat.mul_ne_zero tv0 (by have:=pT_pos pw;omega)
     have hu1:pU pw≠0:=by have:=pU_pos pw;omega
     have p3:=blen_pos hm1;have p4:=blen_pos hu1;have nr2:=frac_near hm1 hu1 (by unfold fracE;omega) (by unfold fracE;omega)
     have ek:fracV false 0 (dv t*pT pw) (pU pw)=w:=nr_uniq nr2 h e.symm (pU_pos _) hD
     rw[ek]
theorem dv_dw:∀l:List UInt8,dv (l.dropWhile (· == 48))=dv l
 | []=>rfl
 | c::l=>by
  by_cases hc:c=48
  · subst hc
    have e:=dv_app [48] l
    have e1:dv [48]=0:=rfl
    rw[e1]at e;have:((48:UInt8)::l).dropWhile (· == 48)=l.dropWhile (· == 48):=rfl
    rw[this,dv_dw l];show _=dv ([48]++l)
    omega
  · rw[dw_hd hc]
theorem dw_cases(l:List UInt8):l.dropWhile (· == 48)=[]∨∃c r,l.dropWhile (· == 48)=c::r∧c≠48:=by
 cases h:l.dropWhile (· == 48)with
 | nil=>exact .inl rfl
 | cons c r=>
  refine .inr ⟨c,r,rfl,fun e=>?_⟩
  have:=List.head?_dropWhile_not (p:=(· == (48:UInt8))) (l:=l)
  rw[h]at this;subst e;simp at this
theorem exact_ok{l:List UInt8}{p:Int}(hs:∀c∈l,isD c=true)(h0:l≠[])(hl:l.length≤300)(p1 : -400≤p)(p2:p≤400){N D w:Nat}
 (hw:dv l≠0→Nr N D w∧0<D∧N*pU p=dv l*pT p*D) (hz:dv l=0→w=0) :
 parL (l++101::itT p)=if w=9218868437227405312 then(0,82)else((w:Int),0):=by
 have X1:XE (101::itT p) p:=.inr ⟨rfl,by omega,by omega⟩
 have hp:=ptL_np hs h0 X1;have hi:(itT p).length≤4:=by
  unfold itT;by_cases hn:p<0
  · rw[bdT hn,qy]
    have:=dg_len (n:=p.natAbs) (j:=2) (by omega)
    omega
  · rw[bdF hn]
    have:=dg_len (n:=p.toNat) (j:=2) (by omega)
    omega
 have hlen:(l++101::itT p).length≤400:=by rw[qq,qy];omega
 unfold parL;rw[qM (by omega),hp,qM (fun h=>by cases h),Int.zero_add];show parF (l.dropWhile (· == 48)) p=_
 have hv:=dv_dw l;have hsub:∀c∈l.dropWhile (· == 48),isD c=true:=fun c hc=>hs c ((yq _).mem hc)
 have hll:(l.dropWhile (· == 48)).length≤l.length:=(yq _).length_le
 rcases dw_cases l with h | ⟨c,r,h,hc⟩
 · rw[h]at hv
   have:w=0:=hz hv.symm
   subst this;rw[h];rfl
 · have d0:dv l≠0:=by
    rw[← hv,h];have:=dv_ge (r:=r) (hsub c (by rw[h];exact qz)) hc
    have:=Nat.one_le_pow r.length 10 (by decide)
    omega
   obtain⟨a1,a2,a3⟩:=hw d0;refine parF_nr hsub ⟨c,r,h,hc⟩ (by omega) p1 p2 a1 a2 ?_
   rw[hv];exact a3
theorem low_near{N D:Nat}(hN:N≠0)(hD:D≠0)(b1:blen N≤3400)(b2:blen D≤1700) :
 N / Nat.gcd N D≠0∧D / Nat.gcd N D≠0∧blen (N / Nat.gcd N D)≤3400∧blen (D / Nat.gcd N D)≤1700∧Nr (N / Nat.gcd N D) (D / Nat.gcd N D) (fracV false 0 (N / Nat.gcd N D) (D / Nat.gcd N D))∧N / Nat.gcd N D*D=N*(D / Nat.gcd N D):=by
 have g0:0<Nat.gcd N D:=Nat.gcd_pos_of_pos_left _ (Nat.pos_of_ne_zero hN)
 obtain⟨a,ha⟩:=Nat.gcd_dvd_left N D;obtain⟨b,hb⟩:=Nat.gcd_dvd_right N D;generalize Nat.gcd N D=g at *
 have ea:N / g=a:=by rw[ha];exact Nat.mul_div_cancel_left _ g0
 have eb:D / g=b:=by rw[hb];exact Nat.mul_div_cancel_left _ g0
 rw[ea,eb];have a0:a≠0:=fun h=>by rw[h,yh]at ha;exact hN ha
 have b0:b≠0:=fun h=>by rw[h,yh]at hb;exact hD hb
 have la:a≤N:=by rw[ha];exact Nat.le_mul_of_pos_left _ g0
 have lb:b≤D:=by rw[hb];exact Nat.le_mul_of_pos_left _ g0
 have ba:=blen_mono la;have bb:=blen_mono lb;have p1:=blen_pos a0;have p2:=blen_pos b0;refine⟨a0,b0,by omega,by omega,frac_near a0 b0 (by unfold fracE;omega) (by unfold fracE;omega),?_⟩
 rw[ha,hb];exact yL a g b |>.trans (qx g a b).symm
end Su
end
section
namespace Su
open Go Fly
noncomputable section
def lExa  (digits:ByteArray)(p:Int):Option Bool :=
 (bif(!(decide ((bif(Nat.ble (List.length (lb digits)) 20000)then(bif(List.isEmpty (lb digits))then([],(22:Int))else(bif(List.all (lb digits) (isD))then((ofN (dv (lb digits))),(0:Int))else([],(22:Int))))else([],(20:Int))).2=0)))then
 some true
 else
  (bif(decide (300<(ByteArray.size digits:Int)))then
  some true
 else
  (bif(decide (400<p))then
  some true
 else
  (bif(decide (p<(-400)))then
  some true
 else
  (nPow_s ((10:Int),(max p (IntKind.wrap .i64 (0-p))))).bind fun x0=>
  (bif(Nat.ble ((ByteArray.size digits)+1) 549755813888)then
  (rTxt_s (lowR (decide (p<0)) (Int.natAbs p) 1)).bind fun x1=>
  (bif(Nat.ble ((ByteArray.size (digits++(ByteArray.mk (List.toArray [101]))))+(ByteArray.size x1)) 549755813888)then
  (Mul_s ((bif(Nat.ble (List.length (lb digits)) 20000)then(bif(List.isEmpty (lb digits))then([],(22:Int))else(bif(List.all (lb digits) (isD))then((ofN (dv (lb digits))),(0:Int))else([],(22:Int))))else([],(20:Int))).1,x0.1)).bind fun x2=>
  (rNew_s (false,x2,(ofN 1))).bind fun x3=>
  (bif(decide (p<0))then
  (rNew_s (false,(bif(Nat.ble (List.length (lb digits)) 20000)then(bif(List.isEmpty (lb digits))then([],(22:Int))else(bif(List.all (lb digits) (isD))then((ofN (dv (lb digits))),(0:Int))else([],(22:Int))))else([],(20:Int))).1,x0.1)).bind fun x4=>
  (rExa_s (x4.1,(0:Int))).bind fun x5=>
  (dPar_s ((digits++(ByteArray.mk (List.toArray [101])))++x1)).bind fun x6=>
  (bif(decide (x5.1=((9218868437227405312:Nat):Int)))then
  (bif(decide (x6.1=0))then
  some (decide (x6.2=82))
 else
  some false)
 else
  (bif(decide (x6.1=x5.1))then
  some (decide (x6.2=0))
 else
  some false))
 else
  (rExa_s (x3.1,(0:Int))).bind fun x7=>
  (dPar_s ((digits++(ByteArray.mk (List.toArray [101])))++x1)).bind fun x8=>
  (bif(decide (x7.1=((9218868437227405312:Nat):Int)))then
  (bif(decide (x8.1=0))then
  some (decide (x8.2=82))
 else
  some false)
 else
  (bif(decide (x8.1=x7.1))then
  some (decide (x8.2=0))
 else
  some false)))
 else none)
 else none)))))
theorem bSame{α:Type}(b:Bool)(a:α):(bif b then a else a)=a:=by cases b <;> rfl
theorem txt_v{p:Int}(h1 : -1000000≤p)(h2:p≤1000000):rTxt_s (lowR (decide (p<0)) (Int.natAbs p) 1)=some (bs (itT p)):=by
 have e:lowR (decide (p<0)) (Int.natAbs p) 1=(decide (p<0),ofN (Int.natAbs p),ofN 1):=by
  rw[lowR_eq];unfold lowR';by_cases h0:Int.natAbs p=0
  · have:p=0:=by omega
    subst this;rfl
  · rw[qM (by omega),Nat.gcd_one_right,y5,y5]
 rw[e];have g:okRt (decide (p<0),ofN (Int.natAbs p),ofN 1)=true:=by
  unfold okRt;show(okL (ofN (Int.natAbs p))&&okL (ofN 1))=true
  rw[ofN_word (by omega),ofN_word (by omega)];rfl
 unfold rTxt_s;rw[g];simp only[valN_ofN];rw[qo (by omega)];show some (bs ((bif decide (p<0)&&!(Nat.beq (Int.natAbs p) 0)then[45]else[])++dg (Int.natAbs p)))=_
 unfold itT;by_cases hn:p<0
 · rw[qc hn,beq0 (by omega)];rfl
 · rw[qm hn,show p.toNat=p.natAbs by omega];rfl
theorem low_ex{N D:Nat}(hD:D≠0)(b1:blen N≤3400)(b2:blen D≤1700) :
 ∃w:Nat,(∃z,rExa_s (lowR false N D,(0:Int))=some ((w:Int),z))∧(N=0→w=0)∧(N≠0→∃N' D',Nr N' D' w∧0<D'∧N'*D=N*D'):=by
 rw[lowR_eq];unfold lowR';by_cases h0:N=0
 · rw[qU (.inl h0)]
   exact⟨0,⟨0,by decide +kernel⟩,fun _=>rfl,fun h=>absurd h0 h⟩
 · rw[qM (by omega)]
   obtain⟨a1,a2,a3,a4,a5,a6⟩:=low_near h0 hD b1 b2;generalize N / Nat.gcd N D=a at *
   generalize D / Nat.gcd N D=b at *
   have p1:=blen_pos a1;have p2:=blen_pos a2;refine⟨fracV false 0 a b,⟨fracF false 0 a b,?_⟩,fun h=>absurd h h0,fun _=>⟨a,b,a5,by omega,a6⟩⟩
   unfold rExa_s rFrac_s;simp only[valN_ofN];rw[beq0 a1,beq0 a2,len_ofN _ (by omega),len_ofN _ (by omega),qo (show blen a≤40000 by omega),qo (show blen b≤40000 by omega),qc (show -4000≤fracE a b by unfold fracE;omega),qc (show fracE a b≤4000 by unfold fracE;omega)];rfl
theorem fin_ok{w:Nat}{z:Int}{l:List UInt8}{p:Int}(h:parL (l++101::itT p)=if w=9218868437227405312 then(0,82)else((w:Int),0))(r:Rt)(hr:rExa_s (r,(0:Int))=some ((w:Int),z)) :
 ((rExa_s (r,(0:Int))).bind fun x5=>(dPar_s (bs (l++101::itT p))).bind fun x6=>(bif decide (x5.1=((9218868437227405312:Nat):Int))then(bif decide (x6.1=0)then some (decide (x6.2=82))else some false)else(bif decide (x6.1=x5.1)then some (decide (x6.2=0))else some false)))=some true:=by
 refine obs hr (obs (dPar_v _) ?_)
 rw[lb_bs,h];by_cases hw:w=9218868437227405312
 · subst hw
   rw[qU rfl];rfl
 · rw[qM hw,bdF (by simp only[Int.natCast_inj];exact hw),bdT rfl]
   rfl
def lExa_s(_:ByteArray×Int):Option Bool:=some true
theorem lExa_ok(a:ByteArray×Int)(y:Bool)(hg:(dc cS (d1 (cI .i64))).good a)(h:lExa_s a=some y):lExa a.1 a.2=some y:=by
 have:=soi h;subst this
 obtain⟨s,p⟩:=a;clear hg h;refine onB (P:=fun s=>lExa s p=some true) (fun l=>?_) s
 unfold lExa;simp only[lb_bs,bs_size];by_cases hl:300<l.length
 · rw[bdT (show(300:Int)<((l.length:Nat):Int) by omega)]
   exact bSame _ _
 by_cases nn:l=[]
 · subst nn;rfl
 rcases Bool.eq_false_or_eq_true (l.all isD)with hs | hs
 rotate_left
 · have e:(bif(Nat.ble l.length 20000)then(bif(List.isEmpty l)then([],(22:Int))else(bif List.all l isD then((ofN (dv l)),(0:Int))else([],(22:Int))))else([],(20:Int)))=([],22):=by
    rw[qo (show l.length≤20000 by omega),qe,hs,qh];cases List.isEmpty l <;> rfl
   simp only[e];rfl
 · have e:(bif(Nat.ble l.length 20000)then(bif(List.isEmpty l)then([],(22:Int))else(bif List.all l isD then((ofN (dv l)),(0:Int))else([],(22:Int))))else([],(20:Int)))=(ofN (dv l),0):=by
    rw[qo (show l.length≤20000 by omega),qe,hs,qe];cases l with
    | nil=>exact absurd rfl nn
    | cons c r=>rfl
   have hs:=jk.1 hs;simp only[e];rw[bdN,bdT trivial];rw[bdF (show¬(300:Int)<((l.length:Nat):Int) by omega)];by_cases p1:400<p
   · rw[bdT p1]
   rw[bdF p1];by_cases p2:p < -400
   · rw[bdT p2]
   rw[bdF p2];have w:IntKind.i64.wrap (0-p) = -p:=by rw[w64 (n:=0-p) (by omega) (by omega)];omega
   have hten:nPow_s ((10:Int),max p (IntKind.i64.wrap (0-p)))=some (ofN (10^(max p (-p)).toNat),0):=by
    unfold nPow_s;rw[w,qc (show(10:Int)=10 from rfl),qc (show max p (-p)≤10000 by omega)];rfl
   have bn:blen (dv l)≤1201:=by have:=blen_lt10 (dv_lt l hs);omega
   have bt:blen (10^(max p (-p)).toNat)≤1601:=by have:=blen_ten (max p (-p)).toNat;omega
   have bm:=blen_mul (dv l) (10^(max p (-p)).toNat)
   have okn:okL (ofN (dv l))=true:=qo (by have:=len_b (dv l);omega)
   have okt:okL (ofN (10^(max p (-p)).toNat))=true:=qo (by have:=len_b (10^(max p (-p)).toNat);omega)
   have okm:okL (ofN (dv l*10^(max p (-p)).toNat))=true:=qo (by have:=len_b (dv l*10^(max p (-p)).toNat);omega)
   have ok1:okL (ofN 1)=true:=ofN_word (by omega)
   have t0:10^(max p (-p)).toNat≠0:=by have:=Nat.one_le_pow (max p (-p)).toNat 10 (by decide);omega
   have n1:∀b:List Int,∀v,okL b=true→valN b=v→rNew_s (false,b,ofN 1)=some (lowR false v 1,0):=fun b v hb hv=>by
    unfold rNew_s;rw[show okL (false,b,ofN 1).2.1=true from hb,show okL (false,b,ofN 1).2.2=true from ok1];simp only[valN_ofN,hv];rfl
   have n2:rNew_s (false,ofN (dv l),ofN (10^(max p (-p)).toNat))=some (lowR false (dv l) (10^(max p (-p)).toNat),0):=by
    unfold rNew_s;rw[show okL (false,ofN (dv l),ofN (10^(max p (-p)).toNat)).2.1=true from okn,show okL (false,ofN (dv l),ofN (10^(max p (-p)).toNat)).2.2=true from okt];simp only[valN_ofN];rw[beq0 t0];rfl
   have e1:bs l++ByteArray.mk (List.toArray [101])++bs (itT p)=bs (l++101::itT p):=by
    rw[mk_bs,bs_app,bs_app];congr 1;simp
   have il:=itT_len (n:=p) (by omega) (by omega)
   refine(obs hten ?_)
   rw[bdB (by omega)];refine obs (txt_v (by omega) (by omega)) ?_
   rw[bdB (by rw[mk_bs,bs_app,bs_size,bs_size,qq,yx];omega)];refine obs (mul_b (by omega) (by omega)) (obs (n1 _ _ okm (valN_ofN _)) ?_)
   by_cases hp:p<0
   · rw[bdT hp]
     refine obs n2 ?_
     obtain⟨x,⟨z,hz⟩,x0,x1⟩:=low_ex (N:=dv l) (D:=10^(max p (-p)).toNat) t0 (by omega) (by omega)
     rw[e1];have ep:(max p (-p)).toNat=(-p).toNat:=by omega
     have et:pT p=1:=by unfold pT;rw[show p.toNat=0 by omega]
     refine fin_ok (l:=l) (p:=p) ?_ _ hz
     by_cases hd:dv l=0
     · exact exact_ok hs nn (by omega) (by omega) (by omega) (N:=0) (D:=0) (fun h=>absurd hd h) x0
     · obtain⟨N',D',y1,y2,y3⟩:=x1 hd
       refine exact_ok hs nn (by omega) (by omega) (by omega) (fun _=>⟨y1,y2,?_⟩) x0
       rw[et,j8];unfold pU;rw[← ep];exact y3
   · rw[bdF hp]
     obtain⟨x,⟨z,hz⟩,x0,x1⟩:=low_ex (N:=dv l*10^(max p (-p)).toNat) (D:=1) (by decide) (by omega) (by decide)
     rw[e1];have ep:(max p (-p)).toNat=p.toNat:=by omega
     have eu:pU p=1:=by unfold pU;rw[show(-p).toNat=0 by omega]
     refine fin_ok (l:=l) (p:=p) ?_ _ hz
     by_cases hd:dv l=0
     · exact exact_ok hs nn (by omega) (by omega) (by omega) (N:=0) (D:=0) (fun h=>absurd hd h) (fun _=>x0 (by rw[hd,jS]))
     · obtain⟨N',D',y1,y2,y3⟩:=x1 (Nat.mul_ne_zero hd t0)
       refine exact_ok hs nn (by omega) (by omega) (by omega) (fun _=>⟨y1,y2,?_⟩) (fun h=>absurd h hd)
       rw[eu];unfold pT;rw[← ep];exact y3
end
end Su
end
