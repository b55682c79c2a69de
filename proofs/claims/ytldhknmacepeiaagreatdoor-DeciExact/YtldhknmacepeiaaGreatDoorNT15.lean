/-
  What functions of the program compute, in plain Lean, and that the evaluator finds it.
-/
import Derived.Test.YtldhknmacepeiaaGreatDoorSuXl
import Derived.Test.YtldhknmacepeiaaGreatDoorNT14
import Derived.Test.YtldhknmacepeiaaGreatDoorSuSd
set_option linter.unusedVariables false
set_option linter.unusedSimpArgs false
set_option maxRecDepth 10000
section
namespace Su
open Go Fly
noncomputable section
def dPar  (s:ByteArray):Option (Int×Int) :=
 (bif(decide (400<(ByteArray.size s:Int)))then
 some ((0:Int),(81:Int))
 else
  (dPts_s s).bind fun x0=>
  (bif(!x0.2.2)then
  some ((0:Int),(80:Int))
 else
  (bif(decide (x0.1=(ByteArray.mk (List.toArray []))))then
  (bif(decide (x0.1=(ByteArray.mk (List.toArray []))))then
  (bif(decide (x0.1=(ByteArray.mk (List.toArray []))))then
  some ((0:Int),(0:Int))
 else
  (bif(decide (320<(IntKind.wrap .i64 ((ByteArray.size x0.1:Int)+x0.2.1))))then
  some ((0:Int),(82:Int))
 else
  (dTen_s x0.2.1).bind fun x1=>
  (Mul_s ((bif(Nat.ble (List.length (lb x0.1)) 20000)then(bif(List.isEmpty (lb x0.1))then([],(22:Int))else(bif(List.all (lb x0.1) (isD))then((ofN (dv (lb x0.1))),(0:Int))else([],(22:Int))))else([],(20:Int))).1,x1)).bind fun x2=>
  (dTen_s (IntKind.wrap .i64 (0-x0.2.1))).bind fun x3=>
  (rFrac_s (false,x2,x3,(0:Int))).bind fun x4=>
  (bif(decide (x4.1=((9218868437227405312:Nat):Int)))then
  some ((0:Int),(82:Int))
 else
  some (x4.1,(0:Int)))))
 else
  (bif(decide ((IntKind.wrap .i64 ((ByteArray.size x0.1:Int)+x0.2.1))<(-325)))then
  some ((0:Int),(0:Int))
 else
  (bif(decide (320<(IntKind.wrap .i64 ((ByteArray.size x0.1:Int)+x0.2.1))))then
  some ((0:Int),(82:Int))
 else
  (dTen_s x0.2.1).bind fun x5=>
  (Mul_s ((bif(Nat.ble (List.length (lb x0.1)) 20000)then(bif(List.isEmpty (lb x0.1))then([],(22:Int))else(bif(List.all (lb x0.1) (isD))then((ofN (dv (lb x0.1))),(0:Int))else([],(22:Int))))else([],(20:Int))).1,x5)).bind fun x6=>
  (dTen_s (IntKind.wrap .i64 (0-x0.2.1))).bind fun x7=>
  (rFrac_s (false,x6,x7,(0:Int))).bind fun x8=>
  (bif(decide (x8.1=((9218868437227405312:Nat):Int)))then
  some ((0:Int),(82:Int))
 else
  some (x8.1,(0:Int))))))
 else
  (tLB_s (x0.1,((48:Nat):Int))).bind fun x9=>
  (bif(decide (x9=(ByteArray.mk (List.toArray []))))then
  (bif(decide (x9=(ByteArray.mk (List.toArray []))))then
  some ((0:Int),(0:Int))
 else
  (bif(decide (320<(IntKind.wrap .i64 ((ByteArray.size x9:Int)+x0.2.1))))then
  some ((0:Int),(82:Int))
 else
  (dTen_s x0.2.1).bind fun x10=>
  (Mul_s ((bif(Nat.ble (List.length (lb x9)) 20000)then(bif(List.isEmpty (lb x9))then([],(22:Int))else(bif(List.all (lb x9) (isD))then((ofN (dv (lb x9))),(0:Int))else([],(22:Int))))else([],(20:Int))).1,x10)).bind fun x11=>
  (dTen_s (IntKind.wrap .i64 (0-x0.2.1))).bind fun x12=>
  (rFrac_s (false,x11,x12,(0:Int))).bind fun x13=>
  (bif(decide (x13.1=((9218868437227405312:Nat):Int)))then
  some ((0:Int),(82:Int))
 else
  some (x13.1,(0:Int)))))
 else
  (bif(decide ((IntKind.wrap .i64 ((ByteArray.size x9:Int)+x0.2.1))<(-325)))then
  some ((0:Int),(0:Int))
 else
  (bif(decide (320<(IntKind.wrap .i64 ((ByteArray.size x9:Int)+x0.2.1))))then
  some ((0:Int),(82:Int))
 else
  (dTen_s x0.2.1).bind fun x14=>
  (Mul_s ((bif(Nat.ble (List.length (lb x9)) 20000)then(bif(List.isEmpty (lb x9))then([],(22:Int))else(bif(List.all (lb x9) (isD))then((ofN (dv (lb x9))),(0:Int))else([],(22:Int))))else([],(20:Int))).1,x14)).bind fun x15=>
  (dTen_s (IntKind.wrap .i64 (0-x0.2.1))).bind fun x16=>
  (rFrac_s (false,x15,x16,(0:Int))).bind fun x17=>
  (bif(decide (x17.1=((9218868437227405312:Nat):Int)))then
  some ((0:Int),(82:Int))
 else
  some (x17.1,(0:Int)))))))))
def parF(t:List UInt8)(pw:Int):Int×Int :=
 if t=[]∨(t.length:Int)+pw < -325 then(0,0)else
 if 320<(t.length:Int)+pw then(0,82)else
 if fracV false 0 (dv t*pT pw) (pU pw)=9218868437227405312 then(0,82)else(((fracV false 0 (dv t*pT pw) (pU pw):Nat):Int),0)
def parL(S:List UInt8):Int×Int :=
 if 400<S.length then(0,81)else
 if(ptL S).2.2=false then(0,80)else parF ((ptL S).1.dropWhile (· == 48)) (ptL S).2.1
theorem pt_pos{t:List UInt8}{d:List UInt8}(h:d.dropWhile (· == 48)=t)(hd:∀c∈d,isD c=true)(ht:t≠[]):(∀c∈t,isD c=true)∧dv t≠0:=by
 have hs:∀c∈t,isD c=true:=fun c hc=>hd c (by rw[← h]at hc;exact(yq _).mem hc)
 refine⟨hs,?_⟩
 cases t with
 | nil=>exact absurd rfl ht
 | cons c r=>
  have hc:(c == 48)=false:=by
   have:=List.head?_dropWhile_not (p:=(· == (48:UInt8))) (l:=d)
   rw[h]at this;simpa using this
  have hcD:=isD_iff.1 (hs c qz)
  have hne:c.toNat≠48:=fun e=>by
   have:c=48:=UInt8.toNat_inj.1 e
   rw[this]at hc;cases hc
  have e:dv (c::r)=(c.toNat-48)*10^r.length+dv r:=by
   have:=dv_app [c] r
   have e1:dv [c]=c.toNat-48:=by unfold dv;simp
   rw[e1]at this;exact this
  rw[e];have:1*10^r.length≤(c.toNat-48)*10^r.length:=qw _ (by omega)
  have:=Nat.one_le_pow r.length 10 (by decide)
  omega
theorem par_fr{t:List UInt8}{pw:Int}(hs:∀c∈t,isD c=true)(h0:dv t≠0)(hl:t.length≤400)(h1 : -325≤(t.length:Int)+pw)(h2:(t.length:Int)+pw≤320)(K:Int×Int→Option (Int×Int)) :
 ((dTen_s pw).bind fun x1=>(Mul_s (ofN (dv t),x1)).bind fun x2=>(dTen_s (IntKind.i64.wrap (0-pw))).bind fun x3=>(rFrac_s (false,x2,x3,(0:Int))).bind K)=K (((fracV false 0 (dv t*pT pw) (pU pw):Nat):Int),fracF false 0 (dv t*pT pw) (pU pw)):=by
 have bn:blen (dv t)≤1601:=by have:=blen_lt10 (dv_lt t hs);omega
 have bt:blen (pT pw)≤1681:=bl_t (by omega)
 have bu:blen (pU pw)≤2941:=by have:=blen_ten (-pw).toNat;unfold pU;omega
 have bp:=blen_mul (dv t) (pT pw)
 have m1:=mul_b (u:=dv t) (v:=pT pw) (by omega) (by omega)
 have w:IntKind.i64.wrap (0-pw) = -pw:=by rw[w64 (n:=0-pw) (by omega) (by omega)];omega
 rw[w];refine obs (ten_v (by omega)) (obs m1 (obs (ten_u (by omega)) ?_))
 have hm:dv t*pT pw≠0:=Nat.mul_ne_zero h0 (by have:=pT_pos pw;omega)
 have hu:pU pw≠0:=by have:=pU_pos pw;omega
 have p1:=blen_pos hm;have p2:=blen_pos hu;refine obs ?_ rfl
 unfold rFrac_s;simp only[valN_ofN];rw[beq0 hm,beq0 hu,len_ofN _ (by omega),len_ofN _ (by omega),qo (show blen (dv t*pT pw)≤40000 by omega),qo (show blen (pU pw)≤40000 by omega),qc (show -4000≤fracE (dv t*pT pw) (pU pw) by unfold fracE;omega),qc (show fracE (dv t*pT pw) (pU pw)≤4000 by unfold fracE;omega)];rfl
theorem ptB_1(S:List UInt8)(a:List UInt8×Int×Bool×Nat):(ptB S a).1=a.1:=by unfold ptB;split <;> rfl
theorem ptL_dig(S:List UInt8):∀c∈(ptL S).1,isD c=true:=by
 unfold ptL;rw[ptB_1];unfold ptA;split
 · intro c hc
   rcases qZ.1 hc with h | h
   · exact rn_isD S _ c h
   · exact rn_isD S _ c h
 · exact rn_isD S _
theorem ptA_b(S:List UInt8):(ptA S).1.length≤S.length∧-(S.length:Int)≤(ptA S).2.1∧(ptA S).2.1≤0:=by
 have j0:=rn_le (S:=S) (i:=0) (by omega)
 have e0:rn S 0=(rnL S 0).length:=by unfold rn;omega
 unfold ptA;split
 · rename_i h
   have hl:=get_c h;have j1:=rn_le (S:=S) (i:=rn S 0+1) (by omega)
   have e1:rn S (rn S 0+1)=rn S 0+1+(rnL S (rn S 0+1)).length:=rfl
   simp only[qq];omega
 · simp only[]
   omega
theorem ptB_b(S:List UInt8)(a:List UInt8×Int×Bool×Nat):a.2.1-100000≤(ptB S a).2.1∧(ptB S a).2.1≤a.2.1+100000:=by
 unfold ptB;split
 · have h:∀k,exV (rnL S k)≤100000:=fun k=>exV_le _
   simp only[];split
   · have:=h (if S[a.2.2.2+1]?=some 43∨S[a.2.2.2+1]?=some 45 then a.2.2.2+2 else a.2.2.2+1)
     constructor <;> omega
   · have:=h (if S[a.2.2.2+1]?=some 43∨S[a.2.2.2+1]?=some 45 then a.2.2.2+2 else a.2.2.2+1)
     constructor <;> omega
 · simp only[]
   omega
theorem ptL_b(S:List UInt8):(ptL S).1.length≤S.length∧-(S.length:Int)-100000≤(ptL S).2.1∧(ptL S).2.1≤100000:=by
 obtain⟨h1,h2,h3⟩:=ptA_b S;have h4:=ptB_b S (ptA S)
 unfold ptL;rw[ptB_1];omega
theorem mk_dec(l m:List UInt8):decide (bs l=ByteArray.mk (List.toArray m))=decide (l=m):=bs_dec l m
theorem tLB_48{l:List UInt8}(h:l.length≤400):tLB_s (bs l,((48:Nat):Int))=some (bs (l.dropWhile (· == 48))):=by
 unfold tLB_s;simp only[lb_bs];rw[qo (by omega)];rfl
theorem par_num{t:List UInt8}(hs:∀c∈t,isD c=true)(h0:t≠[])(hl:t.length≤400):(bif(Nat.ble t.length 20000)then(bif(List.isEmpty t)then([],(22:Int))else(bif(List.all t isD)then((ofN (dv t)),(0:Int))else([],(22:Int))))else([],(20:Int)))=(ofN (dv t),(0:Int)):=by
 rw[qo (by omega),qe,jk.2 hs];cases t with
 | nil=>exact absurd rfl h0
 | cons c r=>rfl
theorem okS_nil:okS []=true:=by rw[okS_eq];rfl
def dPar_s(s:ByteArray):Option (Int×Int):=bif okS []then some (parL (lb s))else none
theorem dPar_v(s:ByteArray):dPar_s s=some (parL (lb s)):=by unfold dPar_s;rw[okS_nil];rfl
theorem dPar_ok(s:ByteArray)(y:Int×Int)(hg:(d1 cS).good s)(h:dPar_s s=some y):dPar s=some y:=by
 clear hg;rw[dPar_v]at h;revert h;refine onB (P:=fun s=>some (parL (lb s))=some y→dPar s=some y) (fun S h=>?_) s
 have:=soi h;subst this
 rw[lb_bs];unfold dPar parL;rw[bs_size];by_cases c1:400<S.length
 · rw[qU c1,bdT (by omega)]
 rw[qM c1,bdF (by omega)];have hp:dPts_s (bs S)=some (bs (ptL S).1,(ptL S).2.1,(ptL S).2.2):=by unfold dPts_s;rw[lb_bs,qo (by omega)];rfl
 refine obs hp ?_
 obtain⟨b1,b2,b3⟩:=ptL_b S;have hd:=ptL_dig S;generalize ptL S=L at *
 obtain⟨d,pw,ok⟩:=L;simp only[mk_dec,lb_bs,bs_size]at *
 cases ok with
 | false=>rfl
 | true=>
  rw[qM (by decide)];simp only[Bool.not_true,qh];by_cases e:d=[]
  · subst e
    rw[bdT rfl,bdT rfl,bdT rfl];unfold parF;rw[qU (.inl rfl)]
  · rw[bdF e]
    refine obs (tLB_48 (by omega)) ?_
    have tl:(d.dropWhile (· == 48)).length≤d.length:=(yq _).length_le
    have tp:=@pt_pos (d.dropWhile (· == 48)) d rfl hd
    generalize d.dropWhile (· == 48)=t at *
    simp only[mk_dec,lb_bs,bs_size];unfold parF;by_cases e2:t=[]
    · subst e2
      rw[qU (.inl rfl),bdT rfl,bdT rfl]
    · obtain⟨hs,h0⟩:=tp e2
      have w:IntKind.i64.wrap (((t.length:Nat):Int)+pw)=((t.length:Nat):Int)+pw:=w64 (by omega) (by omega)
      rw[bdF e2,w];by_cases a1:((t.length:Nat):Int)+pw < -325
      · rw[bdT a1,qU (.inr a1)]
      · rw[bdF a1,qM (by rintro(h | h);exact e2 h;exact a1 h)]
        by_cases a2:320<((t.length:Nat):Int)+pw
        · rw[bdT a2,qU a2]
        · rw[bdF a2,qM a2,par_num hs e2 (by omega)]
          refine(par_fr hs h0 (by omega) (by omega) (by omega) _).trans ?_
          by_cases a3:fracV false 0 (dv t*pT pw) (pU pw)=9218868437227405312
          · rw[qU a3]
            refine(bdT (by simp only[a3]) _ _)
          · rw[qM a3]
            refine(bdF (by simp only[Int.natCast_inj];exact a3) _ _)
end
end Su
end
section
namespace Su
open Go Fly
noncomputable section
def dm{α β:Type}(d:Dec α)(to:α→β)(fr:β→α)(h1:∀a,fr (to a)=a)(h2:∀b,to (fr b)=b):Dec β where
 enc b:=d.enc (fr b)
 dec l:=(d.dec l).bind fun a=>some (to a)
 good b:=d.good (fr b)
 rep {xs b} h V vs hr:=by
  obtain⟨a,e1,e2⟩:=osm h;have:=soi e2;subst this
  rw[h1];exact d.rep e1 hr
 de b:=by rw[d.de,qf,h2]
 rng {b V vs} hr:=d.rng hr
structure RowD (u k:Nat) where
 d:Dec (U u)
 hv:∀a,view u a = .agg (d.enc a)
 hk:∀a,(d.enc a).length=k
 hn:∀a,((d.enc a).all fun x=>!x.isAgg)=true
section
variable {u k:Nat} (R:RowD u k)
end
abbrev cRt:Cod (Bool×List (U 1)×List (U 1)):=cA (dc cB (dc (cQ 1 1) (d1 (cQ 1 1))))
end
end Su
end
section
namespace Su
open Go Fly
noncomputable section
def Low  (neg:Bool)(num:(List Int))(den:(List Int)):Option (Bool×(List Int)×List Int) :=
 (Len num).bind fun x0=>
 (bif(decide (x0=0))then
 some (false,[],(ofN 1))
 else
  (Len den).bind fun x1=>
  (bif(decide (x1=0))then
  some (false,[],(ofN 1))
 else
  (Gcd_s (num,den)).bind fun x2=>
  (Div_s (num,x2)).bind fun x3=>
  (Div_s (den,x2)).bind fun x4=>
  some (neg,x3.1,x4.1)))
abbrev Rt:=Bool×(List Int×List Int)
def lowR'(neg:Bool)(n d:Nat):Rt:=if n=0∨d=0 then(false,[],ofN 1)else(neg,ofN (n / Nat.gcd n d),ofN (d / Nat.gcd n d))
def lowL:{f:Bool→Nat→Nat→Rt // ∀b n d,f b n d=lowR' b n d}:=Classical.choice ⟨⟨_,fun _ _ _=>rfl⟩⟩
def lowR(neg:Bool)(n d:Nat):Rt:=lowL.1 neg n d
theorem lowR_eq(neg:Bool)(n d:Nat):lowR neg n d=lowR' neg n d:=lowL.2 neg n d
def okL(a:List Int):Bool:=Nat.ble a.length 1000000
def Low_s(p:Bool×List Int×List Int):Option Rt:=bif okL p.2.1&&okL p.2.2 then some (lowR p.1 (valN p.2.1) (valN p.2.2))else none
theorem blen_zero_iff(v:Nat):blen v=0↔v=0:=by
 constructor
 · intro h
   have:=blen_le.1 (Nat.le_of_eq h)
   simp at this;exact this
 · intro h;subst h;rfl
theorem Len_okL{a:List Int}(hw:Wd a)(h:a.length≤1000000):Len a=some (blen (valN a):Int):=by
 have hbl:blen (valN a)≤32*a.length:=blen_le.2 (by rw[← pow32];exact valN_lt a hw)
 exact Len_eq' a (by omega)
theorem Div_g{a:List Int}{g:Nat}(h1:a.length≤1000000)(h2:(ofN g).length≤1000000)(hg:g≠0):Div_s (a,ofN g)=some (ofN (valN a / g),ofN (valN a % g),0):=by
 unfold Div_s;simp only[valN_ofN];rw[qo h1,qo h2,qY,qe,qM hg]
theorem Low_ok(p:Bool×List Int×List Int)(y:Rt)(hg:(dc cB (dc (cQ 1 1) (d1 (cQ 1 1)))).good p)(h:Low_s p=some y):Low p.1 p.2.1 p.2.2=some y:=by
 obtain⟨neg,a,b⟩:=p;obtain⟨_,⟨ha,la⟩,hb,lb⟩:=hg;obtain⟨hm,h⟩:=bif_some h;have:=soi h;subst this
 rw[qk]at hm;have hwa:=Wd.of ha;have hwb:=Wd.of hb;have h1:a.length≤1000000:=qn hm.1
 have h2:b.length≤1000000:=qn hm.2
 show Low neg a b=some (lowR neg (valN a) (valN b))
 rw[lowR_eq];unfold Low lowR';refine obB (Len_okL hwa h1) ?_
 by_cases ha0:valN a=0
 · rw[qU (.inl ha0),qc (by rw[ha0];rfl),qe]
 · have e1:blen (valN a)≠0:=fun e=>ha0 ((blen_zero_iff _).1 e)
   rw[qm (by omega),qh];refine obB (Len_okL hwb h2) ?_
   by_cases hb0:valN b=0
   · rw[qU (.inr hb0),qc (by rw[hb0];rfl),qe]
   · have e2:blen (valN b)≠0:=fun e=>hb0 ((blen_zero_iff _).1 e)
     rw[qm (by omega),qh,qM (by omega)];have hgl:Nat.gcd (valN a) (valN b)≤valN a:=Nat.gcd_le_left _ (Nat.pos_of_ne_zero ha0)
     have hg0:Nat.gcd (valN a) (valN b)≠0:=fun e=>ha0 (Nat.gcd_eq_zero_iff.1 e).1
     have hgn:(ofN (Nat.gcd (valN a) (valN b))).length≤1000000:=je (ofN_mono hgl) (je (ofN_length_le a hwa) h1)
     have hs:Gcd_s (a,b)=some (ofN (Nat.gcd (valN a) (valN b))):=by
      unfold Gcd_s;simp only[];rw[qo h1,qo h2,qY,qe]
     exact obB hs (obB (Div_g h1 hgn hg0) (obB (Div_g h2 hgn hg0) rfl))
end
end Su
end
section
namespace Su
open Go Fly
noncomputable section
def RLow  (a:(Bool×(List Int)×List Int)):Option (Bool×(List Int)×List Int) :=
 (Low_s a).bind fun x0=>
 some x0
def RInt  (x:Int):Option (Bool×(List Int)×List Int) :=
 (bif(decide (x<0))then
 (Low_s (true,(ofN (valN [(IntKind.wrap .u32 (IntKind.wrap .u64 (0-(IntKind.wrap .u64 x)))),(IntKind.wrap .u32 (Int.fdiv (IntKind.wrap .u64 (0-(IntKind.wrap .u64 x))) (2^32)))])),(ofN 1))).bind fun x0=>
 some x0
 else
  (Low_s (false,(ofN (valN [(IntKind.wrap .u32 (IntKind.wrap .u64 x)),(IntKind.wrap .u32 (Int.fdiv (IntKind.wrap .u64 x) (2^32)))])),(ofN 1))).bind fun x1=>
  some x1)
def okRt(a:Rt):Bool:=okL a.2.1&&okL a.2.2
def rlow(a:Rt):Rt:=lowR a.1 (valN a.2.1) (valN a.2.2)
theorem Low_of{neg:Bool}{a b:List Int}(h:(okL a&&okL b)=true):Low_s (neg,a,b)=some (lowR neg (valN a) (valN b)):=by
 unfold Low_s;simp only[];rw[h,qe]
def RLow_s(a:Rt):Option Rt:=bif okRt a then some (rlow a)else none
theorem RLow_ok(a y:Rt)(hg:(d1 cRt).good a)(h:RLow_s a=some y):RLow a=some y:=by
 obtain⟨h1,h⟩:=bif_some h;have:=soi h;subst this
 exact obB (Low_of h1) rfl
theorem two_words(r:Nat)(h:r<18446744073709551616):valN [IntKind.u32.wrap (r:Int),IntKind.u32.wrap (Int.fdiv (r:Int) (2^32))]=r:=by
 have e1:IntKind.u32.wrap (r:Int)=((r % 4294967296:Nat):Int):=by rw[wrap_u32];omega
 have e2:Int.fdiv (r:Int) (2^32)=((r / 4294967296:Nat):Int):=by
  have:=fd_nat r 32;rwa [show(2:Nat)^32=4294967296 from rfl]at this
 have e3:IntKind.u32.wrap ((r / 4294967296:Nat):Int)=((r / 4294967296:Nat):Int):=wu32 (by omega) (by omega)
 rw[e1,e2,e3];simp only[valN,qb];omega
theorem ofN_word{r:Nat}(h:r<18446744073709551616):okL (ofN r)=true:=qo (je (ofN_len (k:=2) (by simpa using h)) (by omega))
def RInt_s(x:Int):Option Rt:=some (lowR (decide (x<0)) x.natAbs 1)
theorem RInt_ok(x:Int)(y:Rt)(hg:(d1 (cI .i64)).good x)(h:RInt_s x=some y):RInt x=some y:=by
 have:=soi h;subst this
 have hx:=inR_i64.1 hg;unfold RInt;by_cases h0:x<0
 · have e1:IntKind.u64.wrap (0-IntKind.u64.wrap x)=((x.natAbs:Nat):Int):=by rw[wrap_u64,wrap_u64];omega
   rw[qc h0,qe,e1,two_words _ (by omega)];refine obB (Low_of (by rw[ofN_word (by omega),ofN_word (by omega)];rfl)) ?_
   rw[valN_ofN,valN_ofN]
 · have e1:IntKind.u64.wrap x=((x.natAbs:Nat):Int):=by rw[wrap_u64];omega
   rw[qm h0,qh,e1,two_words _ (by omega)];refine obB (Low_of (by rw[ofN_word (by omega),ofN_word (by omega)];rfl)) ?_
   rw[valN_ofN,valN_ofN]
end
end Su
end
section
namespace Su
open Go Fly
noncomputable section
def rNew  (neg:Bool)(num:(List Int))(den:(List Int)):Option ((Bool×(List Int)×List Int)×Int) :=
 (Len den).bind fun x0=>
 (bif(decide (x0=0))then
 some ((false,[],[]),(30:Int))
 else
  (Low_s (neg,num,den)).bind fun x1=>
  some (x1,(0:Int)))
def rTxt  (a:(Bool×(List Int)×List Int)):Option ByteArray :=
 (RLow_s a).bind fun x0=>
 (nText_s x0.2.1).bind fun x1=>
 (bif x0.1 then
 (bif(Nat.ble (1+(ByteArray.size x1)) 549755813888)then
 (bif(!(decide ((cmpI (valN x0.2.2) (valN (ofN 1)))=0)))then
 (nText_s x0.2.2).bind fun x2=>
 (bif(Nat.ble (1+(ByteArray.size x2)) 549755813888)then
 (bif(Nat.ble ((ByteArray.size ((ByteArray.mk (List.toArray [45]))++x1))+(ByteArray.size ((ByteArray.mk (List.toArray [47]))++x2))) 549755813888)then
 some (((ByteArray.mk (List.toArray [45]))++x1)++((ByteArray.mk (List.toArray [47]))++x2))
 else none)
 else none)
 else
  some ((ByteArray.mk (List.toArray [45]))++x1))
 else none)
 else
  (bif(!(decide ((cmpI (valN x0.2.2) (valN (ofN 1)))=0)))then
  (nText_s x0.2.2).bind fun x3=>
  (bif(Nat.ble (1+(ByteArray.size x3)) 549755813888)then
  (bif(Nat.ble ((ByteArray.size x1)+(ByteArray.size ((ByteArray.mk (List.toArray [47]))++x3))) 549755813888)then
  some (x1++((ByteArray.mk (List.toArray [47]))++x3))
 else none)
 else none)
 else
  some x1))
def rExa  (r:(Bool×(List Int)×List Int))(mode:Int):Option (Int×Int) :=
 (rFrac_s (r.1,r.2.1,r.2.2,mode)).bind fun x0=>
 some x0
def rNew_s(p:Bool×List Int×List Int):Option (Rt×Int):=bif(okL p.2.1&&okL p.2.2)&&!(Nat.beq (valN p.2.2) 0)then some (lowR p.1 (valN p.2.1) (valN p.2.2),0)else none
theorem rNew_ok(p:Bool×List Int×List Int)(y:Rt×Int)(hg:(dc cB (dc (cQ 1 1) (d1 (cQ 1 1)))).good p)(h:rNew_s p=some y):rNew p.1 p.2.1 p.2.2=some y:=by
 obtain⟨neg,a,b⟩:=p;obtain⟨_,⟨ha,la⟩,hb,lb⟩:=hg;obtain⟨hm,h⟩:=bif_some h;have:=soi h;subst this
 rw[qk]at hm;obtain⟨h1,h2⟩:=hm;have hb0:valN b≠0:=fun e=>by
  have h2:(!(Nat.beq (valN b) 0))=true:=h2
  rw[e]at h2;cases h2
 have hl:b.length≤1000000:=by
  rw[qk]at h1;exact qn h1.2
 have e1:blen (valN b)≠0:=fun e=>hb0 ((blen_zero_iff _).1 e)
 show rNew neg a b=_
 unfold rNew;refine obs (Len_okL (Wd.of hb) hl) ?_
 rw[bdF (by omega)];exact obs (Low_of h1) rfl
def rTxt_s(a:Rt):Option ByteArray:=bif okRt a&&(Nat.beq (valN a.2.2) 1&&Nat.ble (valN a.2.1) 1000000)then some (bs ((bif a.1&&!(Nat.beq (valN a.2.1) 0)then[45]else[])++dg (valN a.2.1)))else none
theorem rTxt_ok(a:Rt)(y:ByteArray)(hg:(d1 cRt).good a)(h:rTxt_s a=some y):rTxt a=some y:=by
 obtain⟨hm,h⟩:=bif_some h;have:=soi h;subst this
 clear h;rw[qk,qk]at hm;obtain⟨h1,h2,h3⟩:=hm;have h2:=qd h2;have h3:=qn h3;have e:rlow a=(a.1&&!(Nat.beq (valN a.2.1) 0),ofN (valN a.2.1),ofN 1):=by
  unfold rlow;rw[lowR_eq,h2];unfold lowR';by_cases h0:valN a.2.1=0
  · rw[qU (.inl h0),h0,show Nat.beq 0 0=true from rfl,Bool.not_true,Bool.and_false];rfl
  · rw[qM (by omega),Nat.gcd_one_right,y5,beq0 h0,yG,Bool.and_true,y5]
 have hr:RLow_s a=some (rlow a):=by unfold RLow_s;rw[h1];rfl
 have hl:=dg_len18 (n:=valN a.2.1) (by omega)
 have hc:cmpI (valN (ofN 1)) (valN (ofN 1))=0:=by
  unfold cmpI;rw[qM (Nat.lt_irrefl _),qU rfl]
 rw[e]at hr;generalize (a.1&&!(Nat.beq (valN a.2.1) 0))=b at *
 unfold rTxt;refine obs hr ?_
 refine obs (tx_v (by omega)) ?_
 simp only[hc];cases b with
 | true=>
  rw[qe,bdB (by rw[bs_size];omega)];simp only[mk_bs,bs_app];rfl
 | false=>rfl
def rExa_s(p:Rt×Int):Option (Int×Int):=rFrac_s (p.1.1,p.1.2.1,p.1.2.2,p.2)
theorem rExa_ok(p:Rt×Int)(y:Int×Int)(hg:(dc cRt (d1 (cI .u8))).good p)(h:rExa_s p=some y):rExa p.1 p.2=some y:=by
 unfold rExa;exact obs h rfl
end
end Su
end
section
namespace Su
open Go Fly
theorem rnL_app{A D B:List UInt8}(hD:∀c∈D,isD c=true)(hB:∀c,B[0]?=some c→isD c=false):rnL (A++(D++B)) A.length=D:=by
 unfold rnL;rw[List.drop_left,List.takeWhile_append_of_pos hD];cases B with
 | nil=>simp
 | cons b B=>
  rw[List.takeWhile_cons,hB b rfl];simp
theorem rn_app{A D B:List UInt8}(hD:∀c∈D,isD c=true)(hB:∀c,B[0]?=some c→isD c=false):rn (A++(D++B)) A.length=(A++D).length:=by
 unfold rn;rw[rnL_app hD hB,qq]
theorem get_app(A B:List UInt8)(i:Nat):(A++B)[A.length+i]?=B[i]?:=by
 rw[qP (by omega)]
 congr 1;omega
theorem exV_dg{m:Nat}(h:m≤100000):exV (dg m)=m:=by
 induction m using Nat.strongRecOn with
 | ind m ih=>
  by_cases h1:m<10
  · rw[dg_lt h1]
    show min (0*10+((UInt8.ofNat (48+m)).toNat-48)) 100000=m
    rw[dig_nat h1];omega
  · rw[dg_ge (by omega),exV_snoc,ih (m / 10) (by omega) (by omega),dig_nat (by omega)]
    omega
def XE(X:List UInt8)(e:Int):Prop:=X=[]∧e=0∨X=101::itT e∧-100000≤e∧e≤100000
theorem XE_hd{X:List UInt8}{e:Int}(h:XE X e):∀c,X[0]?=some c→isD c=false∧c≠46:=by
 rcases h with⟨rfl,_⟩ | ⟨rfl,_⟩
 · intro c hc;cases hc
 · intro c hc
   have:c=101:=by cases hc;rfl
   subst this;decide
theorem ptB_X{A X:List UInt8}{e:Int}(h:XE X e)(D:List UInt8)(pw:Int)(ok:Bool):ptB (A++X) (D,pw,ok,A.length)=(D,pw+e,ok):=by
 unfold ptB;rcases h with⟨rfl,rfl⟩ | ⟨rfl,h1,h2⟩
 · have g:(A++[])[A.length]?=none:=by rw[jw];exact ja (qB _)
   simp only[g];simp
 · have g:(A++101::itT e)[A.length]?=some 101:=get_app A (101::itT e) 0
   have g1:(A++101::itT e)[A.length+1]?=(itT e)[0]?:=get_app A (101::itT e) 1
   simp only[g,g1,true_or,if_true];by_cases hn:e<0
   · have ei:itT e=45::dg e.natAbs:=by unfold itT;rw[bdT hn]
     rw[ei];have e1:A++101::45::dg e.natAbs=(A++[101,45])++(dg e.natAbs++[]):=by simp
     have e2:A.length+2=(A++[101,45]).length:=by simp
     simp only[yN,or_true,if_true];rw[e1,e2,rnL_app (dg_isD _) (fun c hc=>by cases hc),rn_app (dg_isD _) (fun c hc=>by cases hc),exV_dg (by omega),qc (dg_ne _),jw,qc rfl];have : -((e.natAbs:Nat):Int)=e:=by omega
     rw[this];simp
   · have ei:itT e=dg e.toNat:=by unfold itT;rw[bdF hn]
     rw[ei];obtain⟨c,r,ec⟩:∃c r,dg e.toNat=c::r:=by
      cases h:dg e.toNat with
      | nil=>exact absurd h (dg_ne _)
      | cons c r=>exact⟨c,r,rfl⟩
     have hc:=isD_iff.1 (dg_isD e.toNat c (by rw[ec];exact qz))
     have n43 : ¬c=43:=fun h=>by subst h;revert hc;decide
     have n45 : ¬c=45:=fun h=>by subst h;revert hc;decide
     have e1:A++101::dg e.toNat=(A++[101])++(dg e.toNat++[]):=by simp
     have e2:A.length+1=(A++[101]).length:=by simp
     have gg:(dg e.toNat)[0]?=some c:=by rw[ec];rfl
     rw[gg];simp only[qa,n43,n45,or_self,zF];rw[e1,e2,rnL_app (dg_isD _) (fun c hc=>by cases hc),rn_app (dg_isD _) (fun c hc=>by cases hc),exV_dg (by omega),qc (dg_ne _),jw,qc rfl];have:((e.toNat:Nat):Int)=e:=by omega
     rw[this];simp
theorem ptL_np{I X:List UInt8}{e:Int}(hI:∀c∈I,isD c=true)(hI0:I≠[])(hX:XE X e) :
 ptL (I++X)=(I,0+e,true):=by
 have hx:∀c,X[0]?=some c→isD c=false:=fun c hc=>(XE_hd hX c hc).1
 have r0:rnL (I++X) 0=I:=rnL_app (A:=[]) hI hx
 have q0:rn (I++X) 0=I.length:=rn_app (A:=[]) hI hx
 have g : ¬(I++X)[I.length]?=some 46:=fun h=>by
  have:=get_app I X 0
  rw[jx,h]at this;exact(XE_hd hX 46 this.symm).2 rfl
 have eA:ptA (I++X)=(I,0,true,I.length):=by
  unfold ptA;rw[q0,qM g,r0,qc hI0]
 unfold ptL;rw[eA];exact ptB_X hX _ _ _
theorem dw_hd{c:UInt8}{r:List UInt8}(h:c≠48):(c::r).dropWhile (· == 48)=c::r:=by
 have hb:(c == 48)=false:=by simpa using h
 rw[List.dropWhile_cons,hb];rfl
theorem dg_len{n j:Nat}(h:n<10^(j+1)):(dg n).length≤j+1:=by
 induction j generalizing n with
 | zero=>rw[dg_lt (by omega)];simp
 | succ j ih=>
  by_cases h1:n<10
  · rw[dg_lt h1];simp
  · rw[dg_ge (by omega),qq]
    have:=ih (n:=n / 10) (by rw[qQ]at h;omega)
    simp only[yx];omega
set_option exponentiation.threshold 3000 in
theorem c_up0:2^54*2^2045<10^320*P75:=by rw[P75_eq];decide +kernel
set_option exponentiation.threshold 3000 in
theorem c_lo0:P75<10^326:=by rw[P75_eq];decide +kernel
theorem c_up:∃K T x y:Nat,x=320∧y=2045∧K=10^x∧T=2^54*2^y∧T<K*P75:=⟨_,_,_,_,rfl,rfl,rfl,rfl,c_up0⟩
theorem c_lo:∃K x:Nat,x=326∧K=10^x∧P75<K:=⟨_,_,rfl,rfl,c_lo0⟩
theorem mid2_top{k x:Nat}(h:k≤topN)(hx:x=2045):mid2 k≤2^54*2^x:=by
 rw[mid2_eq];refine yt ?_ (qT (by decide) ?_)
 · unfold kM;split <;> omega
 · unfold kE;unfold topN at h;omega
theorem mid2_pos(k:Nat):1≤mid2 k:=by
 have:=kV_lt (show k<k+1 by omega)
 unfold mid2;omega
theorem dv_ge{c:UInt8}{r:List UInt8}(h:isD c=true)(h0:c≠48):10^r.length≤dv (c::r):=by
 have hc:=isD_iff.1 h;have hne:c.toNat≠48:=fun e=>h0 (UInt8.toNat_inj.1 e)
 have e:=dv_app [c] r
 have e1:dv [c]=c.toNat-48:=by unfold dv;simp
 rw[e1]at e;have:1*10^r.length≤(c.toNat-48)*10^r.length:=qw _ (by omega)
 show _≤dv ([c]++r)
 omega
end Su
end
