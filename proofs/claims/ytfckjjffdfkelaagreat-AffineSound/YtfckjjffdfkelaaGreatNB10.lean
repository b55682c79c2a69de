/-
  What functions of the program compute, in plain Lean, and that the evaluator finds it.
-/
import Derived.Test.YtfckjjffdfkelaaGreatSuSd
import Derived.Test.YtfckjjffdfkelaaGreatNB09
import Derived.Test.YtfckjjffdfkelaaGreatRb
set_option maxRecDepth 10000
section
namespace Su
open Go Fly
set_option linter.unusedVariables false
noncomputable section
def Gcd_l1:((List Int)×((List Int)×Unit))→Option (((List Int)×((List Int)×Unit)) ⊕ ((List Int)×((List Int)×Unit))):=fun p2=>(bif (decide ((0<(((List.length p2.2.1):Nat):Int)))) then
 ((Su.Div_s (p2.1,p2.2.1))).bind fun x3 =>
 some (.inl (p2.2.1,(x3.2.1,())))
 else
  some (.inr (p2.1,(p2.2.1,()))))
def Gcd  (fu:Nat) (a:(List Int)) (b:(List Int)):Option (List Int) :=
 ((Su.Clone_s (Su.ofN (Su.valN a)))).bind fun x0 =>
 ((Su.Clone_s (Su.ofN (Su.valN b)))).bind fun x1 =>
 (itP fu (Gcd_l1) (x0,(x1,()))).bind fun x4 =>
 some x4.1
theorem ofN_len {v k:Nat} (h:v<4294967296^k):(ofN v).length≤k:=by
 have h1:=ofN_length_le (digs k v) (digs_wd k v)
 rw [digs_val,Nat.mod_eq_of_lt h,digs_len] at h1
 exact h1
theorem ofN_mono {u v:Nat} (h:u≤v):(ofN u).length≤(ofN v).length:=ofN_len (Nat.lt_of_le_of_lt h ofN_len_lt)
theorem Div_of {va vb:Nat} (h1:(ofN va).length≤1000000) (h2:(ofN vb).length≤1000000) (hb:vb≠0):Div_s (ofN va,ofN vb)=some (ofN (va / vb),(ofN (va % vb),0)):=by
 unfold Div_s
 simp only [valN_ofN]
 rw [Nat.ble_eq_true_of_le h1,Nat.ble_eq_true_of_le h2,Bool.and_self,cond_true,if_neg hb]
theorem gcd_loop:∀ (vb va:Nat),(ofN va).length≤1000000→(ofN vb).length≤1000000→∃ w,∃ n,itP n Gcd_l1 (ofN va,(ofN vb,()))=some (ofN (Nat.gcd va vb),(w,())):=by
 intro vb
 induction vb using Nat.strongRecOn with
 | _ vb ih =>
  intro va h1 h2
  by_cases hb:vb=0
  · subst hb
    refine ⟨[],it_end ?_⟩
    rw [Nat.gcd_zero_right];rfl
  · have hlt:=Nat.mod_lt va (Nat.pos_of_ne_zero hb)
    obtain ⟨w,hn⟩:=ih (va % vb) hlt vb h2 (Nat.le_trans (ofN_mono (Nat.le_of_lt hlt)) h2)
    refine ⟨w,it_next ?_ (by rw [Nat.gcd_comm va vb,Nat.gcd_rec vb va,Nat.gcd_comm];exact hn)⟩
    have hl:0<(ofN vb).length:=by
     have h3:=@ofN_len_lt vb
     cases h4:(ofN vb).length with
     | zero=>rw [h4] at h3;omega
     | succ=>omega
    have d1:decide ((0:Int)<(((ofN vb).length:Nat):Int))=true:=decide_eq_true (by omega)
    simp only [Gcd_l1,d1,cond_true,Div_of h1 h2 hb,Option.bind_some]
def Gcd_s (p:List Int×List Int):Option (List Int):=bif Nat.ble p.1.length 1000000&&Nat.ble p.2.length 1000000 then some (ofN (Nat.gcd (valN p.1) (valN p.2))) else none
theorem Gcd_ok (p:List Int×List Int) (y:List Int) (hg:(dc (cQ 1 1) (d1 (cQ 1 1))).good p) (h:Gcd_s p=some y):∃ n,Gcd n p.1 p.2=some y:=by
 obtain ⟨a,b⟩:=p
 obtain ⟨⟨ha,la⟩,hb,lb⟩:=hg
 obtain ⟨hm,h⟩:=bif_some h
 have:=soi h;subst this
 rw [Bool.and_eq_true] at hm
 have hla:=Nat.le_trans (ofN_length_le a (Wd.of ha)) (Nat.le_of_ble_eq_true hm.1)
 have hlb:=Nat.le_trans (ofN_length_le b (Wd.of hb)) (Nat.le_of_ble_eq_true hm.2)
 obtain ⟨w,n,hn⟩:=gcd_loop (valN b) (valN a) hla hlb
 refine ⟨n,?_⟩
 have h1:Clone_s (ofN (valN a))=some (ofN (valN a)):=by unfold Clone_s lenN;rw [Nat.ble_eq_true_of_le (by omega),cond_true]
 have h2:Clone_s (ofN (valN b))=some (ofN (valN b)):=by unfold Clone_s lenN;rw [Nat.ble_eq_true_of_le (by omega),cond_true]
 show Gcd n a b=some (ofN (Nat.gcd (valN a) (valN b)))
 unfold Gcd
 exact obB h1 (obB h2 (obB hn rfl))
end
end Su
end
section
namespace Su
open Go Fly
noncomputable section
def dm {α β:Type} (d:Dec α) (to:α→β) (fr:β→α) (h1:∀ a,fr (to a)=a) (h2:∀ b,to (fr b)=b):Dec β where
 enc b:=d.enc (fr b)
 dec l:=(d.dec l).bind fun a=>some (to a)
 good b:=d.good (fr b)
 rep {xs b} h V vs hr:=by
  obtain ⟨a,e1,e2⟩:=osm h
  have:=soi e2;subst this
  rw [h1];exact d.rep e1 hr
 de b:=by rw [d.de,Option.bind_some,h2]
 rng {b V vs} hr:=d.rng hr
structure RowD (u k:Nat) where
 d:Dec (U u)
 hv:∀ a,view u a = .agg (d.enc a)
 hk:∀ a,(d.enc a).length=k
 hn:∀ a,((d.enc a).all fun x=>!x.isAgg)=true
section
variable {u k:Nat} (R:RowD u k)
end
abbrev cRt:Cod (Bool×List (U 1)×List (U 1)):=cA (dc cB (dc (cQ 1 1) (d1 (cQ 1 1))))
end
end Su
end
section
namespace Su
open Go Fly
set_option linter.unusedVariables false
noncomputable section
def Low  (neg:Bool) (num:(List Int)) (den:(List Int)):Option (Bool×((List Int)×(List Int))) :=
 ((Su.Len num)).bind fun x0 =>
 (bif (decide ((x0=0))) then
 some (false,([],(Su.ofN 1)))
 else
  ((Su.Len den)).bind fun x1 =>
  (bif (decide ((x1=0))) then
  some (false,([],(Su.ofN 1)))
 else
  ((Su.Gcd_s (num,den))).bind fun x2 =>
  ((Su.Div_s (num,x2))).bind fun x3 =>
  ((Su.Div_s (den,x2))).bind fun x4 =>
  some (neg,(x3.1,x4.1))))
abbrev Rt:=Bool×(List Int×List Int)
def lowR' (neg:Bool) (n d:Nat):Rt:=if n=0∨d=0 then (false,([],ofN 1)) else (neg,(ofN (n / Nat.gcd n d),ofN (d / Nat.gcd n d)))
def lowL:{f:Bool→Nat→Nat→Rt // ∀ b n d,f b n d=lowR' b n d}:=Classical.choice ⟨⟨_,fun _ _ _=>rfl⟩⟩
def lowR (neg:Bool) (n d:Nat):Rt:=lowL.1 neg n d
theorem lowR_eq (neg:Bool) (n d:Nat):lowR neg n d=lowR' neg n d:=lowL.2 neg n d
def okL (a:List Int):Bool:=Nat.ble a.length 1000000
def Low_s (p:Bool×(List Int×List Int)):Option Rt:=bif okL p.2.1&&okL p.2.2 then some (lowR p.1 (valN p.2.1) (valN p.2.2)) else none
theorem blen_zero_iff (v:Nat):blen v=0↔v=0:=by
 constructor
 · intro h
   have:=blen_le.1 (Nat.le_of_eq h)
   simp at this;exact this
 · intro h;subst h;rfl
theorem Len_okL {a:List Int} (hw:Wd a) (h:a.length≤1000000):Len a=some (blen (valN a):Int):=by
 have hbl:blen (valN a)≤32*a.length:=blen_le.2 (by rw [← pow32];exact valN_lt a hw)
 exact Len_eq' a (by omega)
theorem Div_g {a:List Int} {g:Nat} (h1:a.length≤1000000) (h2:(ofN g).length≤1000000) (hg:g≠0):Div_s (a,ofN g)=some (ofN (valN a / g),(ofN (valN a % g),0)):=by
 unfold Div_s
 simp only [valN_ofN]
 rw [Nat.ble_eq_true_of_le h1,Nat.ble_eq_true_of_le h2,Bool.and_self,cond_true,if_neg hg]
theorem Low_ok (p:Bool×(List Int×List Int)) (y:Rt) (hg:(dc cB (dc (cQ 1 1) (d1 (cQ 1 1)))).good p) (h:Low_s p=some y):Low p.1 p.2.1 p.2.2=some y:=by
 obtain ⟨neg,a,b⟩:=p
 obtain ⟨_,⟨ha,la⟩,hb,lb⟩:=hg
 obtain ⟨hm,h⟩:=bif_some h
 have:=soi h;subst this
 rw [Bool.and_eq_true] at hm
 have hwa:=Wd.of ha
 have hwb:=Wd.of hb
 have h1:a.length≤1000000:=Nat.le_of_ble_eq_true hm.1
 have h2:b.length≤1000000:=Nat.le_of_ble_eq_true hm.2
 show Low neg a b=some (lowR neg (valN a) (valN b))
 rw [lowR_eq]
 unfold Low lowR'
 refine obB (Len_okL hwa h1) ?_
 by_cases ha0:valN a=0
 · rw [if_pos (.inl ha0),decide_eq_true (by rw [ha0];rfl),cond_true]
 · have e1:blen (valN a)≠0:=fun e=>ha0 ((blen_zero_iff _).1 e)
   rw [decide_eq_false (by omega),cond_false]
   refine obB (Len_okL hwb h2) ?_
   by_cases hb0:valN b=0
   · rw [if_pos (.inr hb0),decide_eq_true (by rw [hb0];rfl),cond_true]
   · have e2:blen (valN b)≠0:=fun e=>hb0 ((blen_zero_iff _).1 e)
     rw [decide_eq_false (by omega),cond_false,if_neg (by omega)]
     have hgl:Nat.gcd (valN a) (valN b)≤valN a:=Nat.gcd_le_left _ (Nat.pos_of_ne_zero ha0)
     have hg0:Nat.gcd (valN a) (valN b)≠0:=fun e=>ha0 (Nat.gcd_eq_zero_iff.1 e).1
     have hgn:(ofN (Nat.gcd (valN a) (valN b))).length≤1000000:=Nat.le_trans (ofN_mono hgl) (Nat.le_trans (ofN_length_le a hwa) h1)
     have hs:Gcd_s (a,b)=some (ofN (Nat.gcd (valN a) (valN b))):=by
      unfold Gcd_s
      simp only []
      rw [Nat.ble_eq_true_of_le h1,Nat.ble_eq_true_of_le h2,Bool.and_self,cond_true]
     exact obB hs (obB (Div_g h1 hgn hg0) (obB (Div_g h2 hgn hg0) rfl))
end
end Su
end
section
namespace Su
open Go Fly
set_option linter.unusedVariables false
noncomputable section
def RLow  (a:(Bool×((List Int)×(List Int)))):Option (Bool×((List Int)×(List Int))) :=
 ((Su.Low_s (a.1,(a.2.1,a.2.2)))).bind fun x0 =>
 some (x0.1,(x0.2.1,x0.2.2))
def RInt  (x:Int):Option (Bool×((List Int)×(List Int))) :=
 (bif (decide ((x<0))) then
 ((Su.Low_s (true,((Su.ofN (Su.valN [(Go.IntKind.wrap .u32 (Go.IntKind.wrap .u64 (0-(Go.IntKind.wrap .u64 x)))),(Go.IntKind.wrap .u32 (Int.fdiv (Go.IntKind.wrap .u64 (0-(Go.IntKind.wrap .u64 x))) (2^32)))])),(Su.ofN 1))))).bind fun x0 =>
 some (x0.1,(x0.2.1,x0.2.2))
 else
  ((Su.Low_s (false,((Su.ofN (Su.valN [(Go.IntKind.wrap .u32 (Go.IntKind.wrap .u64 x)),(Go.IntKind.wrap .u32 (Int.fdiv (Go.IntKind.wrap .u64 x) (2^32)))])),(Su.ofN 1))))).bind fun x1 =>
  some (x1.1,(x1.2.1,x1.2.2)))
def RDyad  (neg:Bool) (m:Int) (e:Int):Option ((Bool×((List Int)×(List Int)))×Int) :=
 (bif (decide ((e<(-8192)))) then
 some ((false,([],[])),(31:Int))
 else
  (bif (decide ((8192<e))) then
  some ((false,([],[])),(31:Int))
 else
  ((Su.Shl_s ((Su.ofN (Su.valN [(Go.IntKind.wrap .u32 m),(Go.IntKind.wrap .u32 (Int.fdiv m (2^32)))])),e))).bind fun x0 =>
  ((Su.Shl_s ((Su.ofN 1),(Go.IntKind.wrap .i64 (0-e))))).bind fun x1 =>
  ((Su.Low_s (neg,(x0.1,x1.1)))).bind fun x2 =>
  some ((x2.1,(x2.2.1,x2.2.2)),(0:Int))))
def RNeg1  (a:(Bool×((List Int)×(List Int)))):Option (Bool×((List Int)×(List Int))) :=
 ((Su.Low_s ((!a.1),(a.2.1,a.2.2)))).bind fun x0 =>
 some (x0.1,(x0.2.1,x0.2.2))
def RAbs  (a:(Bool×((List Int)×(List Int)))):Option (Bool×((List Int)×(List Int))) :=
 ((Su.Low_s (false,(a.2.1,a.2.2)))).bind fun x0 =>
 some (x0.1,(x0.2.1,x0.2.2))
def okRt (a:Rt):Bool:=okL a.2.1&&okL a.2.2
def rlow (a:Rt):Rt:=lowR a.1 (valN a.2.1) (valN a.2.2)
def rneg (a:Rt):Rt:=lowR (!a.1) (valN a.2.1) (valN a.2.2)
def rabs (a:Rt):Rt:=lowR false (valN a.2.1) (valN a.2.2)
theorem Low_of {neg:Bool} {a b:List Int} (h:(okL a&&okL b)=true):Low_s (neg,(a,b))=some (lowR neg (valN a) (valN b)):=by
 unfold Low_s
 simp only []
 rw [h,cond_true]
def RLow_s (a:Rt):Option Rt:=bif okRt a then some (rlow a) else none
theorem RLow_ok (a y:Rt) (hg:(d1 cRt).good a) (h:RLow_s a=some y):RLow a=some y:=by
 obtain ⟨h1,h⟩:=bif_some h
 have:=soi h;subst this
 exact obB (Low_of h1) rfl
def RNeg1_s (a:Rt):Option Rt:=bif okRt a then some (rneg a) else none
theorem RNeg1_ok (a y:Rt) (hg:(d1 cRt).good a) (h:RNeg1_s a=some y):RNeg1 a=some y:=by
 obtain ⟨h1,h⟩:=bif_some h
 have:=soi h;subst this
 exact obB (Low_of h1) rfl
def RAbs_s (a:Rt):Option Rt:=bif okRt a then some (rabs a) else none
theorem RAbs_ok (a y:Rt) (hg:(d1 cRt).good a) (h:RAbs_s a=some y):RAbs a=some y:=by
 obtain ⟨h1,h⟩:=bif_some h
 have:=soi h;subst this
 exact obB (Low_of h1) rfl
theorem two_words (r:Nat) (h:r<18446744073709551616):valN [IntKind.u32.wrap (r:Int),IntKind.u32.wrap (Int.fdiv (r:Int) (2^32))]=r:=by
 have e1:IntKind.u32.wrap (r:Int)=((r % 4294967296:Nat):Int):=by rw [wrap_u32];omega
 have e2:Int.fdiv (r:Int) (2^32)=((r / 4294967296:Nat):Int):=by
  have:=fd_nat r 32;rwa [show (2:Nat)^32=4294967296 from rfl] at this
 have e3:IntKind.u32.wrap ((r / 4294967296:Nat):Int)=((r / 4294967296:Nat):Int):=wu32 (by omega) (by omega)
 rw [e1,e2,e3]
 simp only [valN,Int.toNat_natCast];omega
theorem ofN_word {r:Nat} (h:r<18446744073709551616):okL (ofN r)=true:=Nat.ble_eq_true_of_le (Nat.le_trans (ofN_len (k:=2) (by simpa using h)) (by omega))
def RInt_s (x:Int):Option Rt:=some (lowR (decide (x<0)) x.natAbs 1)
theorem RInt_ok (x:Int) (y:Rt) (hg:(d1 (cI .i64)).good x) (h:RInt_s x=some y):RInt x=some y:=by
 have:=soi h;subst this
 have hx:=inR_i64.1 hg
 unfold RInt
 by_cases h0:x<0
 · have e1:IntKind.u64.wrap (0-IntKind.u64.wrap x)=((x.natAbs:Nat):Int):=by rw [wrap_u64,wrap_u64];omega
   rw [decide_eq_true h0,cond_true,e1,two_words _ (by omega)]
   refine obB (Low_of (by rw [ofN_word (by omega),ofN_word (by omega)];rfl)) ?_
   rw [valN_ofN,valN_ofN]
 · have e1:IntKind.u64.wrap x=((x.natAbs:Nat):Int):=by rw [wrap_u64];omega
   rw [decide_eq_false h0,cond_false,e1,two_words _ (by omega)]
   refine obB (Low_of (by rw [ofN_word (by omega),ofN_word (by omega)];rfl)) ?_
   rw [valN_ofN,valN_ofN]
theorem shl_len {m s k:Nat} (h:blen m+s≤32*k):(ofN (m*2^s)).length≤k:=by
 refine ofN_len ?_
 have h2:=Nat.mul_lt_mul_of_pos_right (blen_lt m) (Nat.two_pow_pos s)
 rw [← Nat.pow_add] at h2
 rw [pow32]
 exact Nat.lt_of_lt_of_le h2 (Nat.pow_le_pow_right (by omega) h)
theorem shl_val {m s:Nat} (h:blen m+s≤65536):valN (shlV m s).1=m*2^s∧okL (shlV m s).1=true:=by
 rw [shlV_eq]
 unfold shlV'
 by_cases h0:m=0
 · subst h0
   rw [if_pos rfl]
   exact ⟨by simp [valN],rfl⟩
 · rw [if_neg h0,if_neg (by omega)]
   refine ⟨valN_ofN _,?_⟩
   exact Nat.ble_eq_true_of_le (Nat.le_trans (shl_len (k:=2048) h) (by omega))
theorem Shl_of {m:Nat} {e:Int} (h:m<18446744073709551616):Shl_s (ofN m,e)=some (shlV m (max e 0).toNat):=by
 unfold Shl_s
 simp only [valN_ofN]
 rw [okS_eq,Nat.ble_eq_true_of_le (Nat.le_trans (ofN_len (k:=2) (by simpa using h)) (by omega)),cond_true]
def dyV' (neg:Bool) (m e:Int):Rt×Int:=if e < -8192∨8192<e then ((false,([],[])),31) else (lowR neg (m.toNat*2^(max e 0).toNat) (2^(max (-e) 0).toNat),0)
def dyL:{f:Bool→Int→Int→Rt×Int // ∀ b m e,f b m e=dyV' b m e}:=Classical.choice ⟨⟨_,fun _ _ _=>rfl⟩⟩
def dyV (neg:Bool) (m e:Int):Rt×Int:=dyL.1 neg m e
theorem dyV_eq (neg:Bool) (m e:Int):dyV neg m e=dyV' neg m e:=dyL.2 neg m e
theorem okS_nil:okS []=true:=by rw [okS_eq];rfl
def RDyad_s (p:Bool×(Int×Int)):Option (Rt×Int):=bif okS [] then some (dyV p.1 p.2.1 p.2.2) else none
theorem RDyad_ok (p:Bool×(Int×Int)) (y:Rt×Int) (hg:(dc cB (dc (cI .u64) (d1 (cI .i64)))).good p) (h:RDyad_s p=some y):RDyad p.1 p.2.1 p.2.2=some y:=by
 obtain ⟨neg,m,e⟩:=p
 obtain ⟨_,h⟩:=bif_some h
 have:=soi h;subst this
 obtain ⟨_,hm,he⟩:=hg
 have hm:0≤m∧m<18446744073709551616:=inR_u64.1 hm
 have he : -9223372036854775808≤e∧e<9223372036854775808:=inR_i64.1 he
 obtain ⟨M,rfl⟩:∃ M:Nat,m=(M:Int):=⟨m.toNat,by omega⟩
 have hM:M<18446744073709551616:=by omega
 show RDyad neg (M:Int) e=some (dyV neg (M:Int) e)
 rw [dyV_eq]
 show RDyad neg (M:Int) e=some (if e < -8192∨8192<e then ((false,([],[])),31) else (lowR neg ((M:Int).toNat*2^(max e 0).toNat) (2^(max (-e) 0).toNat),0))
 unfold RDyad
 by_cases h1:e < -8192
 · rw [if_pos (.inl h1),decide_eq_true h1,cond_true]
 · by_cases h2:8192<e
   · rw [if_pos (.inr h2),decide_eq_false h1,cond_false,decide_eq_true h2,cond_true]
   · have hb:blen M≤64:=blen_le.2 (by simpa using hM)
     have e1:IntKind.i64.wrap (0-e) = -e:=by rw [w64 (by omega) (by omega)];omega
     obtain ⟨v1,o1⟩:=shl_val (m:=M) (s:=(max e 0).toNat) (by omega)
     obtain ⟨v2,o2⟩:=shl_val (m:=1) (s:=(max (-e) 0).toNat) (by have:blen 1=1:=rfl;omega)
     rw [if_neg (by omega),decide_eq_false h1,cond_false,decide_eq_false h2,cond_false,two_words M hM,e1,Int.toNat_natCast]
     refine obB (Shl_of hM) (obB (Shl_of (by omega)) (obB (Low_of (by rw [o1,o2];rfl)) ?_))
     rw [v1,v2,Nat.one_mul]
end
end Su
end
section
namespace Su
open Go Fly
set_option linter.unusedVariables false
noncomputable section
def RMul  (a:(Bool×((List Int)×(List Int)))) (b:(Bool×((List Int)×(List Int)))):Option (Bool×((List Int)×(List Int))) :=
 ((Su.RLow_s (a.1,(a.2.1,a.2.2)))).bind fun x0 =>
 ((Su.RLow_s (b.1,(b.2.1,b.2.2)))).bind fun x1 =>
 ((Su.Mul_s (x0.2.1,x1.2.1))).bind fun x2 =>
 ((Su.Mul_s (x0.2.2,x1.2.2))).bind fun x3 =>
 ((Su.Low_s ((!(decide ((x0.1=x1.1)))),(x2,x3)))).bind fun x4 =>
 some (x4.1,(x4.2.1,x4.2.2))
def RAdd  (a:(Bool×((List Int)×(List Int)))) (b:(Bool×((List Int)×(List Int)))):Option (Bool×((List Int)×(List Int))) :=
 ((Su.RLow_s (a.1,(a.2.1,a.2.2)))).bind fun x0 =>
 ((Su.RLow_s (b.1,(b.2.1,b.2.2)))).bind fun x1 =>
 ((Su.Mul_s (x0.2.1,x1.2.2))).bind fun x2 =>
 ((Su.Mul_s (x1.2.1,x0.2.2))).bind fun x3 =>
 ((Su.Mul_s (x0.2.2,x1.2.2))).bind fun x4 =>
 (bif (decide ((x0.1=x1.1))) then
 ((Su.Add_s (x2,x3))).bind fun x5 =>
 ((Su.Low_s (x0.1,(x5,x4)))).bind fun x6 =>
 some (x6.1,(x6.2.1,x6.2.2))
 else
  ((Su.Sub_s (x2,x3))).bind fun x7 =>
  (bif x7.2 then
  ((Su.Low_s (x0.1,(x7.1,x4)))).bind fun x8 =>
  some (x8.1,(x8.2.1,x8.2.2))
 else
  ((Su.Sub_s (x3,x2))).bind fun x9 =>
  ((Su.Low_s (x1.1,(x9.1,x4)))).bind fun x10 =>
  some (x10.1,(x10.2.1,x10.2.2))))
def RCmp  (a:(Bool×((List Int)×(List Int)))) (b:(Bool×((List Int)×(List Int)))):Option Int :=
 ((Su.RLow_s (a.1,(a.2.1,a.2.2)))).bind fun x0 =>
 ((Su.RLow_s (b.1,(b.2.1,b.2.2)))).bind fun x1 =>
 (bif (!(decide ((x0.1=x1.1)))) then
 (bif x0.1 then
 some (-1)
 else
  some 1)
 else
  ((Su.Mul_s (x0.2.1,x1.2.2))).bind fun x2 =>
  ((Su.Mul_s (x1.2.1,x0.2.2))).bind fun x3 =>
  (bif x0.1 then
  some (Go.IntKind.wrap .i64 (0-(Su.cmpI (Su.valN x2) (Su.valN x3))))
 else
  some (Su.cmpI (Su.valN x2) (Su.valN x3))))
def ok4 (a:Rt):Bool:=Nat.ble a.2.1.length 400000&&Nat.ble a.2.2.length 400000
def nu (a:Rt):Nat:=valN a.2.1
def de (a:Rt):Nat:=valN a.2.2
structure Tidy (a:Rt):Prop where
 wn:Wd a.2.1
 wd:Wd a.2.2
 ln:a.2.1.length≤400000
 ld:a.2.2.length≤400000
theorem low_tidy {neg:Bool} {a b:List Int} (ha:Wd a) (hb:Wd b) (h1:a.length≤400000) (h2:b.length≤400000):Tidy (lowR neg (valN a) (valN b)):=by
 rw [lowR_eq]
 unfold lowR'
 by_cases h:valN a=0∨valN b=0
 · rw [if_pos h]
   exact ⟨.nil,Wd_ofN 1,Nat.zero_le _,Nat.le_trans (ofN_len (v:=1) (k:=1) (by decide)) (by omega)⟩
 · rw [if_neg h]
   exact ⟨Wd_ofN _,Wd_ofN _,Nat.le_trans (ofN_mono (Nat.div_le_self _ _)) (Nat.le_trans (ofN_length_le a ha) h1),Nat.le_trans (ofN_mono (Nat.div_le_self _ _)) (Nat.le_trans (ofN_length_le b hb) h2)⟩
theorem RLow_of {a:Rt} (hg:cRt.good a) (h:ok4 a=true):RLow_s a=some (rlow a)∧Tidy (rlow a):=by
 unfold ok4 at h
 rw [Bool.and_eq_true] at h
 have h1:=Nat.le_of_ble_eq_true h.1
 have h2:=Nat.le_of_ble_eq_true h.2
 refine ⟨?_,low_tidy (Wd.of hg.2.1.1) (Wd.of hg.2.2.1) h1 h2⟩
 unfold RLow_s okRt okL
 rw [Nat.ble_eq_true_of_le (by omega),Nat.ble_eq_true_of_le (by omega)];rfl
theorem Mul_of {a b:List Int} (ha:Wd a) (hb:Wd b) (h1:a.length≤400000) (h2:b.length≤400000):Mul_s (a,b)=some (ofN (valN a*valN b))∧(ofN (valN a*valN b)).length≤800000:=by
 constructor
 · unfold Mul_s
   simp only []
   rw [Nat.ble_eq_true_of_le (by omega),cond_true]
 · refine Nat.le_trans (ofN_len (k:=a.length+b.length) ?_) (by omega)
   rw [Nat.pow_add]
   have ha':=valN_lt a ha
   have hb':=valN_lt b hb
   exact Nat.mul_lt_mul'' ha' hb'
def rmul (a b:Rt):Rt:=lowR (!decide ((rlow a).1=(rlow b).1)) (nu (rlow a)*nu (rlow b)) (de (rlow a)*de (rlow b))
def RMul_s (p:Rt×Rt):Option Rt:=bif ok4 p.1&&ok4 p.2 then some (rmul p.1 p.2) else none
theorem RMul_ok (p:Rt×Rt) (y:Rt) (hg:(dc cRt (d1 cRt)).good p) (h:RMul_s p=some y):RMul p.1 p.2=some y:=by
 obtain ⟨a,b⟩:=p
 obtain ⟨h1,h⟩:=bif_some h
 have:=soi h;subst this
 rw [Bool.and_eq_true] at h1
 obtain ⟨s1,t1⟩:=RLow_of hg.1 h1.1
 obtain ⟨s2,t2⟩:=RLow_of hg.2 h1.2
 obtain ⟨m1,l1⟩:=Mul_of t1.wn t2.wn t1.ln t2.ln
 obtain ⟨m2,l2⟩:=Mul_of t1.wd t2.wd t1.ld t2.ld
 show RMul a b=some (rmul a b)
 refine obB s1 (obB s2 (obB m1 (obB m2 (obB (Low_of (by unfold okL;rw [Nat.ble_eq_true_of_le (by omega),Nat.ble_eq_true_of_le (by omega)];rfl)) ?_))))
 rw [valN_ofN,valN_ofN]
 rfl
def rsum (x y:Rt):Rt :=
 bif decide (x.1=y.1) then lowR x.1 (nu x*de y+nu y*de x) (de x*de y)
 else bif decide (nu y*de x≤nu x*de y) then lowR x.1 (nu x*de y-nu y*de x) (de x*de y)
 else lowR y.1 (nu y*de x-nu x*de y) (de x*de y)
def radd (a b:Rt):Rt:=rsum (rlow a) (rlow b)
def RAdd_s (p:Rt×Rt):Option Rt:=bif ok4 p.1&&ok4 p.2 then some (radd p.1 p.2) else none
theorem okL_of {a:List Int} (h:a.length≤1000000):okL a=true:=Nat.ble_eq_true_of_le h
theorem add_len {p q k:Nat} (h1:(ofN p).length≤k) (h2:(ofN q).length≤k):(ofN (p+q)).length≤k+1:=by
 refine ofN_len ?_
 have h3:=@ofN_len_lt p
 have h4:=@ofN_len_lt q
 have h5:4294967296^(ofN p).length≤4294967296^k:=Nat.pow_le_pow_right (by omega) h1
 have h6:4294967296^(ofN q).length≤4294967296^k:=Nat.pow_le_pow_right (by omega) h2
 rw [Nat.pow_succ]
 generalize (4294967296:Nat)^k=P at *
 omega
theorem Add_of {p q:Nat} (h1:(ofN p).length≤800000) (h2:(ofN q).length≤800000):Add_s (ofN p,ofN q)=some (ofN (p+q))∧(ofN (p+q)).length≤1000000:=by
 constructor
 · unfold Add_s
   simp only [valN_ofN]
   rw [Nat.ble_eq_true_of_le (by omega),cond_true]
 · exact Nat.le_trans (add_len h1 h2) (by omega)
theorem Sub_of {p q:Nat} (h1:(ofN p).length≤800000):Sub_s (ofN p,ofN q)=some (if p<q then ([],false) else (ofN (p-q),true)):=by
 unfold Sub_s
 simp only [valN_ofN]
 rw [Nat.ble_eq_true_of_le (by omega),cond_true]
theorem RAdd_ok (p:Rt×Rt) (y:Rt) (hg:(dc cRt (d1 cRt)).good p) (h:RAdd_s p=some y):RAdd p.1 p.2=some y:=by
 obtain ⟨a,b⟩:=p
 obtain ⟨h1,h⟩:=bif_some h
 have:=soi h;subst this
 rw [Bool.and_eq_true] at h1
 obtain ⟨s1,t1⟩:=RLow_of hg.1 h1.1
 obtain ⟨s2,t2⟩:=RLow_of hg.2 h1.2
 obtain ⟨m1,l1⟩:=Mul_of t1.wn t2.wd t1.ln t2.ld
 obtain ⟨m2,l2⟩:=Mul_of t2.wn t1.wd t2.ln t1.ld
 obtain ⟨m3,l3⟩:=Mul_of t1.wd t2.wd t1.ld t2.ld
 show RAdd a b=some (rsum (rlow a) (rlow b))
 refine obB s1 (obB s2 (obB m1 (obB m2 (obB m3 ?_))))
 clear s1 s2 m1 m2 m3 h1 hg
 unfold rsum nu de
 generalize rlow a=x at *
 generalize rlow b=y at *
 cases decide (x.1=y.1) with
 | true =>
  rw [cond_true,cond_true]
  obtain ⟨a1,a2⟩:=Add_of l1 l2
  refine obB a1 (obB (Low_of (by rw [okL_of a2,okL_of (by omega)];rfl)) ?_)
  rw [valN_ofN,valN_ofN]
 | false =>
  rw [cond_false,cond_false]
  refine obB (Sub_of l1) ?_
  by_cases hlt:valN x.2.1*valN y.2.2<valN y.2.1*valN x.2.2
  · rw [if_pos hlt,decide_eq_false (by omega),cond_false,cond_false]
    refine obB (Sub_of l2) ?_
    rw [if_neg (by omega)]
    have h5:(ofN (valN y.2.1*valN x.2.2-valN x.2.1*valN y.2.2)).length≤800000:=Nat.le_trans (ofN_mono (Nat.sub_le _ _)) l2
    refine obB (Low_of (Bool.and_eq_true_iff.2 ⟨okL_of (Nat.le_trans h5 (by omega)),okL_of (Nat.le_trans l3 (by omega))⟩)) ?_
    rw [valN_ofN,valN_ofN]
  · rw [if_neg hlt,decide_eq_true (by omega),cond_true,cond_true]
    have h5:(ofN (valN x.2.1*valN y.2.2-valN y.2.1*valN x.2.2)).length≤800000:=Nat.le_trans (ofN_mono (Nat.sub_le _ _)) l1
    refine obB (Low_of (Bool.and_eq_true_iff.2 ⟨okL_of (Nat.le_trans h5 (by omega)),okL_of (Nat.le_trans l3 (by omega))⟩)) ?_
    rw [valN_ofN,valN_ofN]
def rcm (x y:Rt):Int:=bif !decide (x.1=y.1) then (bif x.1 then -1 else 1) else bif x.1 then -cmpI (nu x*de y) (nu y*de x) else cmpI (nu x*de y) (nu y*de x)
def rcmp (a b:Rt):Int:=rcm (rlow a) (rlow b)
def RCmp_s (p:Rt×Rt):Option Int:=bif ok4 p.1&&ok4 p.2 then some (rcmp p.1 p.2) else none
theorem cmpI_rng (a b:Nat) : -1≤cmpI a b∧cmpI a b≤1:=by
 unfold cmpI
 by_cases h:a<b
 · rw [if_pos h];omega
 · rw [if_neg h]
   by_cases h2:a=b
   · rw [if_pos h2];omega
   · rw [if_neg h2];omega
theorem RCmp_ok (p:Rt×Rt) (y:Int) (hg:(dc cRt (d1 cRt)).good p) (h:RCmp_s p=some y):RCmp p.1 p.2=some y:=by
 obtain ⟨a,b⟩:=p
 obtain ⟨h1,h⟩:=bif_some h
 have:=soi h;subst this
 rw [Bool.and_eq_true] at h1
 obtain ⟨s1,t1⟩:=RLow_of hg.1 h1.1
 obtain ⟨s2,t2⟩:=RLow_of hg.2 h1.2
 obtain ⟨m1,l1⟩:=Mul_of t1.wn t2.wd t1.ln t2.ld
 obtain ⟨m2,l2⟩:=Mul_of t2.wn t1.wd t2.ln t1.ld
 show RCmp a b=some (rcm (rlow a) (rlow b))
 refine obB s1 (obB s2 ?_)
 clear s1 s2 h1 hg
 unfold rcm nu de
 generalize rlow a=x at *
 generalize rlow b=y at *
 cases decide (x.1=y.1) with
 | false =>
  rw [Bool.not_false,cond_true,cond_true]
  cases x.1 <;> rfl
 | true =>
  rw [Bool.not_true,cond_false,cond_false]
  refine obB m1 (obB m2 ?_)
  rw [valN_ofN,valN_ofN]
  have hc:=cmpI_rng (valN x.2.1*valN y.2.2) (valN y.2.1*valN x.2.2)
  have e1:IntKind.i64.wrap (0-cmpI (valN x.2.1*valN y.2.2) (valN y.2.1*valN x.2.2)) = -cmpI (valN x.2.1*valN y.2.2) (valN y.2.1*valN x.2.2):=by
   rw [w64 (by omega) (by omega)];omega
  rw [e1]
  cases x.1 <;> rfl
end
end Su
end
section
namespace Su
open Go Fly
set_option linter.unusedVariables false
noncomputable section
def RSub  (a:(Bool×((List Int)×(List Int)))) (b:(Bool×((List Int)×(List Int)))):Option (Bool×((List Int)×(List Int))) :=
 ((Su.RNeg1_s (b.1,(b.2.1,b.2.2)))).bind fun x0 =>
 ((Su.RAdd_s ((a.1,(a.2.1,a.2.2)),(x0.1,(x0.2.1,x0.2.2))))).bind fun x1 =>
 some (x1.1,(x1.2.1,x1.2.2))
def PVal  (f:Int):Option ((Bool×((List Int)×(List Int)))×Bool) :=
 (bif (decide (((((Su.clsK (Su.bK (Int.toNat f))):Nat):Int)=3))) then
 (bif (decide (((((Su.clsK (Su.bK (Int.toNat f))):Nat):Int)=3))) then
 some ((false,([],[])),false)
 else
  ((Su.RDyad_s ((decide (((Int.fdiv f (2^63))=1))),((((Su.spM (Su.bK (Int.toNat f))):Nat):Int),(Su.spE (Su.bK (Int.toNat f))))))).bind fun x0 =>
  some ((x0.1.1,(x0.1.2.1,x0.1.2.2)),true))
 else
  (bif (decide (((((Su.clsK (Su.bK (Int.toNat f))):Nat):Int)=4))) then
  some ((false,([],[])),false)
 else
  ((Su.RDyad_s ((decide (((Int.fdiv f (2^63))=1))),((((Su.spM (Su.bK (Int.toNat f))):Nat):Int),(Su.spE (Su.bK (Int.toNat f))))))).bind fun x1 =>
  some ((x1.1.1,(x1.1.2.1,x1.1.2.2)),true)))
theorem ok4_of {a:Rt} (h:Tidy a):ok4 a=true:=by
 unfold ok4
 rw [Nat.ble_eq_true_of_le h.ln,Nat.ble_eq_true_of_le h.ld];rfl
def rsub (a b:Rt):Rt:=radd a (rneg b)
def RSub_s (p:Rt×Rt):Option Rt:=bif ok4 p.1&&ok4 p.2 then some (rsub p.1 p.2) else none
theorem RSub_ok (p:Rt×Rt) (y:Rt) (hg:(dc cRt (d1 cRt)).good p) (h:RSub_s p=some y):RSub p.1 p.2=some y:=by
 obtain ⟨a,b⟩:=p
 obtain ⟨h1,h⟩:=bif_some h
 have:=soi h;subst this
 rw [Bool.and_eq_true] at h1
 have h2:=h1.2
 unfold ok4 at h2
 rw [Bool.and_eq_true] at h2
 have l1:=Nat.le_of_ble_eq_true h2.1
 have l2:=Nat.le_of_ble_eq_true h2.2
 have t:Tidy (rneg b):=low_tidy (Wd.of hg.2.2.1.1) (Wd.of hg.2.2.2.1) l1 l2
 have s1:RNeg1_s b=some (rneg b):=by
  unfold RNeg1_s okRt
  rw [okL_of (Nat.le_trans l1 (by omega)),okL_of (Nat.le_trans l2 (by omega))];rfl
 have s2:RAdd_s (a,rneg b)=some (rsub a b):=by
  unfold RAdd_s
  simp only []
  rw [h1.1,ok4_of t];rfl
 show RSub a b=some (rsub a b)
 exact obB s1 (obB s2 rfl)
def valR (f:Nat):Rt:=(dyV (bS f) ((spM (bK f):Nat):Int) (spE (bK f))).1
def noNum (f:Nat):Bool:=decide (((clsK (bK f):Nat):Int)=3)||decide (((clsK (bK f):Nat):Int)=4)
def PVal_s (f:Int):Option (Rt×Bool):=bif okS [] then some (bif noNum f.toNat then ((false,([],[])),false) else (valR f.toNat,true)) else none
theorem RDyad_of (p:Bool×(Int×Int)):RDyad_s p=some (dyV p.1 p.2.1 p.2.2):=by
 unfold RDyad_s
 rw [okS_nil,cond_true]
theorem PVal_ok (f:Int) (y:Rt×Bool) (hg:(d1 (cI .u64)).good f) (h:PVal_s f=some y):PVal f=some y:=by
 obtain ⟨n,rfl,hn⟩:=asN64 hg
 obtain ⟨_,h⟩:=bif_some h
 have:=soi h;subst this
 unfold PVal noNum valR
 rw [Int.toNat_natCast,fd63 n hn]
 cases decide (((clsK (bK n):Nat):Int)=3) with
 | true =>
  simp only [cond_true,Bool.true_or]
 | false =>
  cases decide (((clsK (bK n):Nat):Int)=4) with
  | true=>simp only [cond_true,cond_false,Bool.or_true]
  | false =>
   simp only [cond_false,Bool.or_false]
   exact obB (RDyad_of _) rfl
end
end Su
end
section
namespace Su
open Go Fly
set_option linter.unusedVariables false
noncomputable section
def pMax_l1:(Int×((List Int)×(Int×(Int×Unit))))→Option ((Int×((List Int)×(Int×(Int×Unit)))) ⊕ (Lp (Int×((List Int)×(Int×(Int×Unit)))) Int)):=fun p1=>(bif (decide ((p1.2.2.2.1<p1.2.2.1))) then
 ((Su.idx p1.2.1 p1.2.2.2.1)).bind fun x2 =>
 (bif (Su.nanK (Su.bK (Int.toNat x2))) then
 some (.inr (.ret 9221120237041090560))
 else
  (bif (Su.lessF (Int.toNat p1.1) (Int.toNat x2)) then
  some (.inl (x2,(p1.2.1,(p1.2.2.1,((Go.IntKind.wrap .i64 (p1.2.2.2.1+1)),())))))
 else
  some (.inl (p1.1,(p1.2.1,(p1.2.2.1,((Go.IntKind.wrap .i64 (p1.2.2.2.1+1)),())))))))
 else
  some (.inr (.exit 0 (p1.1,(p1.2.1,(p1.2.2.1,(p1.2.2.2.1,())))))))
def pMax  (fu:Nat) (l:(List Int)):Option Int :=
 (bif (decide (((((List.length l):Nat):Int)=0))) then
 some 9221120237041090560
 else
  ((Su.idx l 0)).bind fun x0 =>
  (itP fu (pMax_l1) (x0,(l,((((List.length l):Nat):Int),((0:Int),()))))).bind fun x3 =>
  (match x3 with
 | .exit i4 p5=>(bif (Nat.beq i4 0) then
  some p5.1
 else
  none)
 | .ret o6=>some o6))
def pMin_l1:(Int×((List Int)×(Int×(Int×Unit))))→Option ((Int×((List Int)×(Int×(Int×Unit)))) ⊕ (Lp (Int×((List Int)×(Int×(Int×Unit)))) Int)):=fun p1=>(bif (decide ((p1.2.2.2.1<p1.2.2.1))) then
 ((Su.idx p1.2.1 p1.2.2.2.1)).bind fun x2 =>
 (bif (Su.nanK (Su.bK (Int.toNat x2))) then
 some (.inr (.ret 9221120237041090560))
 else
  (bif (Su.lessF (Int.toNat x2) (Int.toNat p1.1)) then
  some (.inl (x2,(p1.2.1,(p1.2.2.1,((Go.IntKind.wrap .i64 (p1.2.2.2.1+1)),())))))
 else
  some (.inl (p1.1,(p1.2.1,(p1.2.2.1,((Go.IntKind.wrap .i64 (p1.2.2.2.1+1)),())))))))
 else
  some (.inr (.exit 0 (p1.1,(p1.2.1,(p1.2.2.1,(p1.2.2.2.1,())))))))
def pMin  (fu:Nat) (l:(List Int)):Option Int :=
 (bif (decide (((((List.length l):Nat):Int)=0))) then
 some 9221120237041090560
 else
  ((Su.idx l 0)).bind fun x0 =>
  (itP fu (pMin_l1) (x0,(l,((((List.length l):Nat):Int),((0:Int),()))))).bind fun x3 =>
  (match x3 with
 | .exit i4 p5=>(bif (Nat.beq i4 0) then
  some p5.1
 else
  none)
 | .ret o6=>some o6))
def pMax_s (l:List Int):Option Int:=match l with
 | [a,b]=>some (maxN a.toNat b.toNat:Int)
 | _=>none
def pMin_s (l:List Int):Option Int:=match l with
 | [a,b]=>some (minN a.toNat b.toNat:Int)
 | _=>none
theorem i64_1:IntKind.i64.wrap (0+1)=1:=by decide
theorem i64_2:IntKind.i64.wrap (1+1)=2:=by decide
theorem pMax_ok (l:List Int) (y:Int) (hg:(d1 (cQ 2 1)).good l) (h:pMax_s l=some y):∃ n,pMax n l=some y:=by
 match l,h with
 | [a,b],h =>
  have:=soi h;subst this
  obtain ⟨A,rfl,hA⟩:=asN64 (hg.1 a (List.mem_cons_self ..))
  obtain ⟨B,rfl,hB⟩:=asN64 (hg.1 b (List.mem_cons_of_mem _ (List.mem_cons_self ..)))
  refine ⟨3,?_⟩
  unfold pMax maxN
  have i0:idx [(A:Int),(B:Int)] 0=some (A:Int):=rfl
  have i1:idx [(A:Int),(B:Int)] 1=some (B:Int):=rfl
  simp only [List.length_cons,List.length_nil,i0,Option.bind_some,itP_s,pMax_l1,Int.toNat_natCast,i64_1]
  have d0:decide ((((0+1+1:Nat):Int))=0)=false:=by decide
  have d1:decide ((0:Int)<(((0+1+1:Nat):Int)))=true:=by decide
  have d2:decide ((1:Int)<(((0+1+1:Nat):Int)))=true:=by decide
  have d3:decide ((2:Int)<(((0+1+1:Nat):Int)))=false:=by decide
  rw [d0,d1]
  cases ha:nanK (bK A) with
  | true=>rfl
  | false =>
   simp only [cond_true,cond_false,Bool.false_or]
   cases hAA:lessF A A <;> (
    simp only [cond_true,cond_false,Option.bind_some,d2,i1,Int.toNat_natCast]
    cases hb:nanK (bK B) with
    | true=>rfl
    | false =>
     simp only [cond_true,cond_false]
     cases hAB:lessF A B <;> (
      simp only [cond_true,cond_false,Option.bind_some,i64_2,d3]
      rfl))
theorem pMin_ok (l:List Int) (y:Int) (hg:(d1 (cQ 2 1)).good l) (h:pMin_s l=some y):∃ n,pMin n l=some y:=by
 match l,h with
 | [a,b],h =>
  have:=soi h;subst this
  obtain ⟨A,rfl,hA⟩:=asN64 (hg.1 a (List.mem_cons_self ..))
  obtain ⟨B,rfl,hB⟩:=asN64 (hg.1 b (List.mem_cons_of_mem _ (List.mem_cons_self ..)))
  refine ⟨3,?_⟩
  unfold pMin minN
  have i0:idx [(A:Int),(B:Int)] 0=some (A:Int):=rfl
  have i1:idx [(A:Int),(B:Int)] 1=some (B:Int):=rfl
  simp only [List.length_cons,List.length_nil,i0,Option.bind_some,itP_s,pMin_l1,Int.toNat_natCast,i64_1]
  have d0:decide ((((0+1+1:Nat):Int))=0)=false:=by decide
  have d1:decide ((0:Int)<(((0+1+1:Nat):Int)))=true:=by decide
  have d2:decide ((1:Int)<(((0+1+1:Nat):Int)))=true:=by decide
  have d3:decide ((2:Int)<(((0+1+1:Nat):Int)))=false:=by decide
  rw [d0,d1]
  cases ha:nanK (bK A) with
  | true=>rfl
  | false =>
   simp only [cond_true,cond_false,Bool.false_or]
   cases hAA:lessF A A <;> (
    simp only [cond_true,cond_false,Option.bind_some,d2,i1,Int.toNat_natCast]
    cases hb:nanK (bK B) with
    | true=>rfl
    | false =>
     simp only [cond_true,cond_false]
     cases hAB:lessF B A <;> (
      simp only [cond_true,cond_false,Option.bind_some,i64_2,d3]
      rfl))
end
end Su
end
section
namespace Su
open Go Fly
set_option linter.unusedVariables false
noncomputable section
def aFin  (f:Int):Option Bool :=
 (bif (!(decide (((((Su.clsK (Su.bK (Int.toNat f))):Nat):Int)=4)))) then
 some (!(decide (((((Su.clsK (Su.bK (Int.toNat f))):Nat):Int)=3))))
 else
  some false)
def aZero  (f:Int):Option Bool :=
 some (decide (((((Su.clsK (Su.bK (Int.toNat f))):Nat):Int)=0)))
theorem obs {α β:Type} {a:Option α} {f:α→Option β} {t:α} {r:Option β} (h:a=some t) (h2:f t=r):a.bind f=r:=by rw [h];exact h2
def aFin_s (f:Int):Option Bool:=some (finK (bK f.toNat))
def aZero_s (f:Int):Option Bool:=some (Nat.beq (bK f.toNat) 0)
theorem aFin_ok (f:Int) (y:Bool) (hg:(d1 (cI .u64)).good f) (h:aFin_s f=some y):aFin f=some y:=by
 have:=soi h;subst this
 unfold aFin
 rw [← cls_fin]
 cases decide (((clsK (bK f.toNat):Nat):Int)=4) with
 | true=>rw [Bool.not_true,cond_false,Bool.and_false]
 | false=>rw [Bool.not_false,cond_true,Bool.and_true]
theorem aZero_ok (f:Int) (y:Bool) (hg:(d1 (cI .u64)).good f) (h:aZero_s f=some y):aZero f=some y:=by
 have:=soi h;subst this
 unfold aZero
 rw [cls_zero]
end
end Su
end
section
namespace Su
open Go Fly
def valW (a:Int×Int):Nat:=18446744073709551616*a.1.toNat+a.2.toNat
theorem valW_def (a:Int×Int):valW a=a.1.toNat*18446744073709551616+a.2.toNat:=by unfold valW;rw [Nat.mul_comm]
def hiW (n:Nat):Int:=((n / 18446744073709551616 % 18446744073709551616:Nat):Int)
def loW (n:Nat):Int:=((n % 18446744073709551616:Nat):Int)
noncomputable def subL:{f:Nat→Nat→Nat // ∀ x y,f x y=x+340282366920938463463374607431768211456-y}:=Classical.choice ⟨⟨_,fun _ _=>rfl⟩⟩
noncomputable def subN (x y:Nat):Nat:=subL.1 x y
theorem subN_eq (x y:Nat):subN x y=x+340282366920938463463374607431768211456-y:=subL.2 x y
theorem pw {r:Nat} (hr:r≤64):2^(64-r)*2^r=18446744073709551616:=by
 rw [← Nat.pow_add,Nat.sub_add_cancel hr]
theorem shl_core (H L r:Nat) (hr:r≤64) (hL:L<18446744073709551616) :
 (H*2^r) % 18446744073709551616 ||| L / 2^(64-r)=(H*18446744073709551616+L)*2^r / 18446744073709551616 % 18446744073709551616∧L*2^r % 18446744073709551616=(H*18446744073709551616+L)*2^r % 18446744073709551616:=by
 have hW:=pw hr
 have hR:=Nat.two_pow_pos r
 have hQ:=Nat.two_pow_pos (64-r)
 have hx:L / 2^(64-r)<2^r:=by rw [Nat.div_lt_iff_lt_mul hQ,Nat.mul_comm,hW];exact hL
 have h1:H*2^r % 18446744073709551616=H % 2^(64-r)*2^r:=by rw [← hW,Nat.mul_mod_mul_right]
 refine ⟨?_,?_⟩
 · rw [h1,or_high hx]
   have h2:(H*18446744073709551616+L)*2^r / 18446744073709551616=H*2^r+L / 2^(64-r):=by
    have:(H*18446744073709551616+L)*2^r=L*2^r+18446744073709551616*(H*2^r):=by
     rw [Nat.add_mul,Nat.mul_right_comm,Nat.mul_comm (H*2^r)];omega
    rw [this,Nat.add_mul_div_left _ _ (by decide)]
    have h3:L*2^r / 18446744073709551616=L / 2^(64-r):=by rw [← hW,Nat.mul_div_mul_right _ _ hR]
    omega
   rw [h2]
   have h4:=Nat.div_add_mod H (2^(64-r))
   have h5:H*2^r=18446744073709551616*(H / 2^(64-r))+H % 2^(64-r)*2^r:=by
    conv=>lhs;rw [← h4]
    rw [Nat.add_mul,Nat.mul_right_comm,hW]
   rw [h5,Nat.add_assoc,Nat.mul_add_mod]
   have h6:H % 2^(64-r)*2^r+L / 2^(64-r)<18446744073709551616:=by
    have h7:=Nat.mod_lt H hQ
    have h8:(H % 2^(64-r)+1)*2^r≤2^(64-r)*2^r:=Nat.mul_le_mul_right _ h7
    rw [hW,Nat.add_mul] at h8
    omega
   rw [Nat.mod_eq_of_lt h6]
 · have:(H*18446744073709551616+L)*2^r=18446744073709551616*(H*2^r)+L*2^r:=by
    rw [Nat.add_mul,Nat.mul_right_comm,Nat.mul_comm (H*2^r)]
   rw [this,Nat.mul_add_mod]
theorem shr_core (H L r:Nat) (hr:r≤64) (hH:H<18446744073709551616) (hL:L<18446744073709551616) :
 H / 2^r=(H*18446744073709551616+L) / 2^r / 18446744073709551616 % 18446744073709551616∧L / 2^r ||| (H*2^(64-r)) % 18446744073709551616=(H*18446744073709551616+L) / 2^r % 18446744073709551616 ∧
 (L*2^(64-r) % 18446744073709551616=0↔(H*18446744073709551616+L) % 2^r=0):=by
 have hW:2^r*2^(64-r)=18446744073709551616:=by rw [Nat.mul_comm];exact pw hr
 have hR:=Nat.two_pow_pos r
 have hQ:=Nat.two_pow_pos (64-r)
 have hx:L / 2^r<2^(64-r):=by rw [Nat.div_lt_iff_lt_mul hR,Nat.mul_comm,hW];exact hL
 have h1:H*2^(64-r) % 18446744073709551616=H % 2^r*2^(64-r):=by rw [← hW,Nat.mul_mod_mul_right]
 have hv:H*18446744073709551616+L=L+2^r*(H*2^(64-r)):=by
  rw [← hW,Nat.mul_left_comm,Nat.add_comm]
 have hd:(H*18446744073709551616+L) / 2^r=H*2^(64-r)+L / 2^r:=by
  rw [hv,Nat.add_mul_div_left _ _ hR,Nat.add_comm]
 refine ⟨?_,?_,?_⟩
 · rw [Nat.div_div_eq_div_mul,Nat.mul_comm (2^r),← Nat.div_div_eq_div_mul]
   have:(H*18446744073709551616+L) / 18446744073709551616=H:=by omega
   rw [this,Nat.mod_eq_of_lt]
   exact Nat.lt_of_le_of_lt (Nat.div_le_self _ _) hH
 · rw [h1,or_low hx,hd]
   have h4:=Nat.div_add_mod H (2^r)
   have h5:H*2^(64-r)=18446744073709551616*(H / 2^r)+H % 2^r*2^(64-r):=by
    conv=>lhs;rw [← h4]
    rw [Nat.add_mul,Nat.mul_right_comm,hW]
   rw [h5,Nat.add_assoc,Nat.mul_add_mod]
   have h6:H % 2^r*2^(64-r)+L / 2^r<18446744073709551616:=by
    have h7:=Nat.mod_lt H hR
    have h8:(H % 2^r+1)*2^(64-r)≤2^r*2^(64-r):=Nat.mul_le_mul_right _ h7
    rw [hW,Nat.add_mul] at h8
    omega
   rw [Nat.mod_eq_of_lt h6]
 · have e1:L*2^(64-r) % 18446744073709551616=L % 2^r*2^(64-r):=by rw [← hW,Nat.mul_mod_mul_right]
   have e2:(H*18446744073709551616+L) % 2^r=L % 2^r:=by rw [hv,Nat.add_mul_mod_self_left]
   rw [e1,e2]
   constructor
   · intro h
     rcases Nat.mul_eq_zero.1 h with h | h
     · exact h
     · omega
   · intro h;rw [h,Nat.zero_mul]
theorem mul_core (a b:Nat) (ha:a<18446744073709551616) (hb:b<18446744073709551616) :
 let x0:=a % 4294967296;let x1:=a / 4294967296;let y0:=b % 4294967296;let y1:=b / 4294967296
 let t:=x1*y0+x0*y0 / 4294967296
 let w1:=t % 4294967296+x0*y1
 x1*y1+t / 4294967296+w1 / 4294967296=a*b / 18446744073709551616∧x0*y0<18446744073709551616∧t<18446744073709551616∧w1<18446744073709551616∧x1*y1+t / 4294967296+w1 / 4294967296<18446744073709551616∧x1*y0<18446744073709551616∧x0*y1<18446744073709551616∧x1*y1+t / 4294967296<18446744073709551616∧x1*y1<18446744073709551616:=by
 intro x0 x1 y0 y1 t w1
 have hx0:x0≤4294967295:=by omega
 have hx1:x1≤4294967295:=by omega
 have hy0:y0≤4294967295:=by omega
 have hy1:y1≤4294967295:=by omega
 have ha':a=x1*4294967296+x0:=by omega
 have hb':b=y1*4294967296+y0:=by omega
 have h00:x0*y0≤4294967295*4294967295:=Nat.mul_le_mul hx0 hy0
 have h10:x1*y0≤4294967295*4294967295:=Nat.mul_le_mul hx1 hy0
 have h01:x0*y1≤4294967295*4294967295:=Nat.mul_le_mul hx0 hy1
 have h11:x1*y1≤4294967295*4294967295:=Nat.mul_le_mul hx1 hy1
 have hab:a*b=x1*y1*18446744073709551616+(x1*y0+x0*y1)*4294967296+x0*y0:=by
  rw [ha',hb',Nat.add_mul,Nat.mul_add,Nat.mul_add]
  have e1:x1*4294967296*(y1*4294967296)=x1*y1*18446744073709551616:=by
   rw [Nat.mul_mul_mul_comm]
  have e2:x1*4294967296*y0=x1*y0*4294967296:=Nat.mul_right_comm _ _ _
  have e3:x0*(y1*4294967296)=x0*y1*4294967296:=(Nat.mul_assoc _ _ _).symm
  rw [e1,e2,e3]
  generalize x1*y1=p at *
  generalize x1*y0=q at *
  generalize x0*y1=s at *
  generalize x0*y0=u at *
  omega
 rw [hab]
 show x1*y1+(x1*y0+x0*y0 / 4294967296) / 4294967296+((x1*y0+x0*y0 / 4294967296) % 4294967296+x0*y1) / 4294967296=_∧x0*y0<_∧x1*y0+x0*y0 / 4294967296<_∧(x1*y0+x0*y0 / 4294967296) % 4294967296+x0*y1<_∧x1*y1+(x1*y0+x0*y0 / 4294967296) / 4294967296+((x1*y0+x0*y0 / 4294967296) % 4294967296+x0*y1) / 4294967296<_∧x1*y0<_∧x0*y1<_∧x1*y1+(x1*y0+x0*y0 / 4294967296) / 4294967296<_∧x1*y1<_
 generalize x1*y1=p at *
 generalize x1*y0=q at *
 generalize x0*y1=s at *
 generalize x0*y0=u at *
 clear ha' hb' hab
 omega
end Su
end
