/-
  What functions of the program compute, in plain Lean, and that the evaluator finds it.
-/
import Derived.Test.YtfckjjffdfkelaaGreatSuSd
import Derived.Test.YtfckjjffdfkelaaGreatNB09
import Derived.Test.YtfckjjffdfkelaaGreatRb
set_option maxRecDepth 10000
section
namespace Su
open Go Fly
set_option linter.unusedVariables false
noncomputable section
def qmY:((List Int)×((List Int)×Unit))→Option (((List Int)×((List Int)×Unit)) ⊕ ((List Int)×((List Int)×Unit))):=fun p2=>(bif (decide ((0<(((List.length p2.2.1):Nat):Int)))) then
 ((qcy (p2.1,p2.2.1))).bind fun x3 =>
 some (.inl (p2.2.1,(x3.2.1,())))
 else
  some (.inr (p2.1,(p2.2.1,()))))
def Gcd  (fu:Nat) (a:(List Int)) (b:(List Int)):Option (List Int) :=
 ((Jm (ofN (qa a)))).bind fun x0 =>
 ((Jm (ofN (qa b)))).bind fun x1 =>
 (itP fu (qmY) (x0,(x1,()))).bind fun x4 =>
 some x4.1
theorem Jn {v k:Nat} (h:v<4294967296^k):(ofN v).length≤k:=by
 have h1:=jB (qla k v) (qou k v)
 rw [qtb,Nat.mod_eq_of_lt h,qlb] at h1
 exact h1
theorem Zl {u v:Nat} (h:u≤v):(ofN u).length≤(ofN v).length:=Jn (Nat.lt_of_le_of_lt h Jd)
theorem qCS {va vb:Nat} (h1:(ofN va).length≤1000000) (h2:(ofN vb).length≤1000000) (hb:vb≠0):qcy (ofN va,ofN vb)=some (ofN (va / vb),(ofN (va % vb),0)):=by
 unfold qcy
 simp only [valN_ofN]
 rw [Nat.ble_eq_true_of_le h1,Nat.ble_eq_true_of_le h2,Bool.and_self,cond_true,if_neg hb]
theorem qtj:∀ (vb va:Nat),(ofN va).length≤1000000→(ofN vb).length≤1000000→∃ w,∃ n,itP n qmY (ofN va,(ofN vb,()))=some (ofN (Nat.gcd va vb),(w,())):=by
 intro vb
 induction vb using Nat.strongRecOn with
 | _ vb ih =>
  intro va h1 h2
  by_cases hb:vb=0
  · subst hb
    refine ⟨[],Qp ?_⟩
    rw [Nat.gcd_zero_right];rfl
  · have hlt:=Nat.mod_lt va (Nat.pos_of_ne_zero hb)
    obtain ⟨w,hn⟩:=ih (va % vb) hlt vb h2 (Nat.le_trans (Zl (Nat.le_of_lt hlt)) h2)
    refine ⟨w,Qk ?_ (by rw [Nat.gcd_comm va vb,Nat.gcd_rec vb va,Nat.gcd_comm];exact hn)⟩
    have hl:0<(ofN vb).length:=by
     have h3:=@Jd vb
     cases h4:(ofN vb).length with
     | zero=>rw [h4] at h3;omega
     | succ=>omega
    have d1:decide ((0:Int)<(((ofN vb).length:Nat):Int))=true:=decide_eq_true (by omega)
    simp only [qmY,d1,cond_true,qCS h1 h2 hb,Option.bind_some]
def qlf (p:List Int×List Int):Option (List Int):=bif Nat.ble p.1.length 1000000&&Nat.ble p.2.length 1000000 then some (ofN (Nat.gcd (qa p.1) (qa p.2))) else none
theorem qCT (p:List Int×List Int) (y:List Int) (hg:(dc (cQ 1 1) (d1 (cQ 1 1))).good p) (h:qlf p=some y):∃ n,Gcd n p.1 p.2=some y:=by
 obtain ⟨a,b⟩:=p
 obtain ⟨⟨ha,la⟩,hb,lb⟩:=hg
 obtain ⟨hm,h⟩:=qj h
 have:=soi h;subst this
 rw [Bool.and_eq_true] at hm
 have hla:=Nat.le_trans (jB a (Wd.of ha)) (Nat.le_of_ble_eq_true hm.1)
 have hlb:=Nat.le_trans (jB b (Wd.of hb)) (Nat.le_of_ble_eq_true hm.2)
 obtain ⟨w,n,hn⟩:=qtj (qa b) (qa a) hla hlb
 refine ⟨n,?_⟩
 have h1:Jm (ofN (qa a))=some (ofN (qa a)):=by unfold Jm qld;rw [Nat.ble_eq_true_of_le (by omega),cond_true]
 have h2:Jm (ofN (qa b))=some (ofN (qa b)):=by unfold Jm qld;rw [Nat.ble_eq_true_of_le (by omega),cond_true]
 show Gcd n a b=some (ofN (Nat.gcd (qa a) (qa b)))
 unfold Gcd
 exact obB h1 (obB h2 (obB hn rfl))
end
end Su
end
section
namespace Su
open Go Fly
noncomputable section
def dm {α β:Type} (d:Dec α) (to:α→β) (fr:β→α) (h1:∀ a,fr (to a)=a) (h2:∀ b,to (fr b)=b):Dec β where
 enc b:=d.enc (fr b)
 dec l:=(d.dec l).bind fun a=>some (to a)
 good b:=d.good (fr b)
 rep {xs b} h V vs hr:=by
  obtain ⟨a,e1,e2⟩:=osm h
  have:=soi e2;subst this
  rw [h1];exact d.rep e1 hr
 de b:=by rw [d.de,Option.bind_some,h2]
 rng {b V vs} hr:=d.rng hr
structure RowD (u k:Nat) where
 d:Dec (U u)
 hv:∀ a,view u a = .agg (d.enc a)
 hk:∀ a,(d.enc a).length=k
 hn:∀ a,((d.enc a).all fun x=>!x.isAgg)=true
section
variable {u k:Nat} (R:RowD u k)
end
abbrev cRt:Cod (Bool×List (U 1)×List (U 1)):=cA (dc cB (dc (cQ 1 1) (d1 (cQ 1 1))))
end
end Su
end
section
namespace Su
open Go Fly
set_option linter.unusedVariables false
noncomputable section
def Low  (neg:Bool) (num:(List Int)) (den:(List Int)):Option (Bool×((List Int)×(List Int))) :=
 ((Len num)).bind fun x0 =>
 (bif (decide ((x0=0))) then
 some (false,([],(ofN 1)))
 else
  ((Len den)).bind fun x1 =>
  (bif (decide ((x1=0))) then
  some (false,([],(ofN 1)))
 else
  ((qlf (num,den))).bind fun x2 =>
  ((qcy (num,x2))).bind fun x3 =>
  ((qcy (den,x2))).bind fun x4 =>
  some (neg,(x3.1,x4.1))))
abbrev Rt:=Bool×(List Int×List Int)
def qeh (neg:Bool) (n d:Nat):Rt:=if n=0∨d=0 then (false,([],ofN 1)) else (neg,(ofN (n / Nat.gcd n d),ofN (d / Nat.gcd n d)))
def lowL:{f:Bool→Nat→Nat→Rt // ∀ b n d,f b n d=qeh b n d}:=Classical.choice ⟨⟨_,fun _ _ _=>rfl⟩⟩
def yB (neg:Bool) (n d:Nat):Rt:=lowL.1 neg n d
theorem JP (neg:Bool) (n d:Nat):yB neg n d=qeh neg n d:=lowL.2 neg n d
def okL (a:List Int):Bool:=Nat.ble a.length 1000000
def YS (p:Bool×(List Int×List Int)):Option Rt:=bif okL p.2.1&&okL p.2.2 then some (yB p.1 (qa p.2.1) (qa p.2.2)) else none
theorem qbn (v:Nat):qn v=0↔v=0:=by
 constructor
 · intro h
   have:=j0.1 (Nat.le_of_eq h)
   simp at this;exact this
 · intro h;subst h;rfl
theorem qoB {a:List Int} (hw:Wd a) (h:a.length≤1000000):Len a=some (qn (qa a):Int):=by
 have hbl:qn (qa a)≤32*a.length:=j0.2 (by rw [← YR];exact jg a hw)
 exact qiX a (by omega)
theorem qA1 {a:List Int} {g:Nat} (h1:a.length≤1000000) (h2:(ofN g).length≤1000000) (hg:g≠0):qcy (a,ofN g)=some (ofN (qa a / g),(ofN (qa a % g),0)):=by
 unfold qcy
 simp only [valN_ofN]
 rw [Nat.ble_eq_true_of_le h1,Nat.ble_eq_true_of_le h2,Bool.and_self,cond_true,if_neg hg]
theorem qCU (p:Bool×(List Int×List Int)) (y:Rt) (hg:(dc cB (dc (cQ 1 1) (d1 (cQ 1 1)))).good p) (h:YS p=some y):Low p.1 p.2.1 p.2.2=some y:=by
 obtain ⟨neg,a,b⟩:=p
 obtain ⟨_,⟨ha,la⟩,hb,lb⟩:=hg
 obtain ⟨hm,h⟩:=qj h
 have:=soi h;subst this
 rw [Bool.and_eq_true] at hm
 have hwa:=Wd.of ha
 have hwb:=Wd.of hb
 have h1:a.length≤1000000:=Nat.le_of_ble_eq_true hm.1
 have h2:b.length≤1000000:=Nat.le_of_ble_eq_true hm.2
 show Low neg a b=some (yB neg (qa a) (qa b))
 rw [JP]
 unfold Low qeh
 refine obB (qoB hwa h1) ?_
 by_cases ha0:qa a=0
 · rw [if_pos (.inl ha0),decide_eq_true (by rw [ha0];rfl),cond_true]
 · have e1:qn (qa a)≠0:=fun e=>ha0 ((qbn _).1 e)
   rw [decide_eq_false (by omega),cond_false]
   refine obB (qoB hwb h2) ?_
   by_cases hb0:qa b=0
   · rw [if_pos (.inr hb0),decide_eq_true (by rw [hb0];rfl),cond_true]
   · have e2:qn (qa b)≠0:=fun e=>hb0 ((qbn _).1 e)
     rw [decide_eq_false (by omega),cond_false,if_neg (by omega)]
     have hgl:Nat.gcd (qa a) (qa b)≤qa a:=Nat.gcd_le_left _ (Nat.pos_of_ne_zero ha0)
     have hg0:Nat.gcd (qa a) (qa b)≠0:=fun e=>ha0 (Nat.gcd_eq_zero_iff.1 e).1
     have hgn:(ofN (Nat.gcd (qa a) (qa b))).length≤1000000:=Nat.le_trans (Zl hgl) (Nat.le_trans (jB a hwa) h1)
     have hs:qlf (a,b)=some (ofN (Nat.gcd (qa a) (qa b))):=by
      unfold qlf
      simp only []
      rw [Nat.ble_eq_true_of_le h1,Nat.ble_eq_true_of_le h2,Bool.and_self,cond_true]
     exact obB hs (obB (qA1 h1 hgn hg0) (obB (qA1 h2 hgn hg0) rfl))
end
end Su
end
section
namespace Su
open Go Fly
set_option linter.unusedVariables false
noncomputable section
def RLow  (a:(Bool×((List Int)×(List Int)))):Option (Bool×((List Int)×(List Int))) :=
 ((YS (a.1,(a.2.1,a.2.2)))).bind fun x0 =>
 some (x0.1,(x0.2.1,x0.2.2))
def qCV  (x:Int):Option (Bool×((List Int)×(List Int))) :=
 (bif (decide ((x<0))) then
 ((YS (true,((ofN (qa [(IntKind.wrap .u32 (IntKind.wrap .u64 (0-(IntKind.wrap .u64 x)))),(IntKind.wrap .u32 (Int.fdiv (IntKind.wrap .u64 (0-(IntKind.wrap .u64 x))) (2^32)))])),(ofN 1))))).bind fun x0 =>
 some (x0.1,(x0.2.1,x0.2.2))
 else
  ((YS (false,((ofN (qa [(IntKind.wrap .u32 (IntKind.wrap .u64 x)),(IntKind.wrap .u32 (Int.fdiv (IntKind.wrap .u64 x) (2^32)))])),(ofN 1))))).bind fun x1 =>
  some (x1.1,(x1.2.1,x1.2.2)))
def qlg  (neg:Bool) (m:Int) (e:Int):Option ((Bool×((List Int)×(List Int)))×Int) :=
 (bif (decide ((e<(-8192)))) then
 some ((false,([],[])),(31:Int))
 else
  (bif (decide ((8192<e))) then
  some ((false,([],[])),(31:Int))
 else
  ((qhu ((ofN (qa [(IntKind.wrap .u32 m),(IntKind.wrap .u32 (Int.fdiv m (2^32)))])),e))).bind fun x0 =>
  ((qhu ((ofN 1),(IntKind.wrap .i64 (0-e))))).bind fun x1 =>
  ((YS (neg,(x0.1,x1.1)))).bind fun x2 =>
  some ((x2.1,(x2.2.1,x2.2.2)),(0:Int))))
def qA2  (a:(Bool×((List Int)×(List Int)))):Option (Bool×((List Int)×(List Int))) :=
 ((YS ((!a.1),(a.2.1,a.2.2)))).bind fun x0 =>
 some (x0.1,(x0.2.1,x0.2.2))
def RAbs  (a:(Bool×((List Int)×(List Int)))):Option (Bool×((List Int)×(List Int))) :=
 ((YS (false,(a.2.1,a.2.2)))).bind fun x0 =>
 some (x0.1,(x0.2.1,x0.2.2))
def okRt (a:Rt):Bool:=okL a.2.1&&okL a.2.2
def yE (a:Rt):Rt:=yB a.1 (qa a.2.1) (qa a.2.2)
def qlh (a:Rt):Rt:=yB (!a.1) (qa a.2.1) (qa a.2.2)
def qmZ (a:Rt):Rt:=yB false (qa a.2.1) (qa a.2.2)
theorem Y4 {neg:Bool} {a b:List Int} (h:(okL a&&okL b)=true):YS (neg,(a,b))=some (yB neg (qa a) (qa b)):=by
 unfold YS
 simp only []
 rw [h,cond_true]
def JG (a:Rt):Option Rt:=bif okRt a then some (yE a) else none
theorem qx7 (a y:Rt) (hg:(d1 cRt).good a) (h:JG a=some y):RLow a=some y:=by
 obtain ⟨h1,h⟩:=qj h
 have:=soi h;subst this
 exact obB (Y4 h1) rfl
def qcz (a:Rt):Option Rt:=bif okRt a then some (qlh a) else none
theorem qtk (a y:Rt) (hg:(d1 cRt).good a) (h:qcz a=some y):qA2 a=some y:=by
 obtain ⟨h1,h⟩:=qj h
 have:=soi h;subst this
 exact obB (Y4 h1) rfl
def qi3 (a:Rt):Option Rt:=bif okRt a then some (qmZ a) else none
theorem qx8 (a y:Rt) (hg:(d1 cRt).good a) (h:qi3 a=some y):RAbs a=some y:=by
 obtain ⟨h1,h⟩:=qj h
 have:=soi h;subst this
 exact obB (Y4 h1) rfl
theorem qdi (r:Nat) (h:r<18446744073709551616):qa [IntKind.u32.wrap (r:Int),IntKind.u32.wrap (Int.fdiv (r:Int) (2^32))]=r:=by
 have e1:IntKind.u32.wrap (r:Int)=((r % 4294967296:Nat):Int):=by rw [wrap_u32];omega
 have e2:Int.fdiv (r:Int) (2^32)=((r / 4294967296:Nat):Int):=by
  have:=qbH r 32;rwa [show (2:Nat)^32=4294967296 from rfl] at this
 have e3:IntKind.u32.wrap ((r / 4294967296:Nat):Int)=((r / 4294967296:Nat):Int):=qmP (by omega) (by omega)
 rw [e1,e2,e3]
 simp only [qa,Int.toNat_natCast];omega
theorem qcA {r:Nat} (h:r<18446744073709551616):okL (ofN r)=true:=Nat.ble_eq_true_of_le (Nat.le_trans (Jn (k:=2) (by simpa using h)) (by omega))
def qtl (x:Int):Option Rt:=some (yB (decide (x<0)) x.natAbs 1)
theorem qx9 (x:Int) (y:Rt) (hg:(d1 (cI .i64)).good x) (h:qtl x=some y):qCV x=some y:=by
 have:=soi h;subst this
 have hx:=YP.1 hg
 unfold qCV
 by_cases h0:x<0
 · have e1:IntKind.u64.wrap (0-IntKind.u64.wrap x)=((x.natAbs:Nat):Int):=by rw [wrap_u64,wrap_u64];omega
   rw [decide_eq_true h0,cond_true,e1,qdi _ (by omega)]
   refine obB (Y4 (by rw [qcA (by omega),qcA (by omega)];rfl)) ?_
   rw [valN_ofN,valN_ofN]
 · have e1:IntKind.u64.wrap x=((x.natAbs:Nat):Int):=by rw [wrap_u64];omega
   rw [decide_eq_false h0,cond_false,e1,qdi _ (by omega)]
   refine obB (Y4 (by rw [qcA (by omega),qcA (by omega)];rfl)) ?_
   rw [valN_ofN,valN_ofN]
theorem qya {m s k:Nat} (h:qn m+s≤32*k):(ofN (m*2^s)).length≤k:=by
 refine Jn ?_
 have h2:=Nat.mul_lt_mul_of_pos_right (qcl m) (Nat.two_pow_pos s)
 rw [← Nat.pow_add] at h2
 rw [YR]
 exact Nat.lt_of_lt_of_le h2 (Nat.pow_le_pow_right (by omega) h)
theorem qoC {m s:Nat} (h:qn m+s≤65536):qa (qqv m s).1=m*2^s∧okL (qqv m s).1=true:=by
 rw [qos]
 unfold qor
 by_cases h0:m=0
 · subst h0
   rw [if_pos rfl]
   exact ⟨by simp [qa],rfl⟩
 · rw [if_neg h0,if_neg (by omega)]
   refine ⟨valN_ofN _,?_⟩
   exact Nat.ble_eq_true_of_le (Nat.le_trans (qya (k:=2048) h) (by omega))
theorem qtm {m:Nat} {e:Int} (h:m<18446744073709551616):qhu (ofN m,e)=some (qqv m (max e 0).toNat):=by
 unfold qhu
 simp only [valN_ofN]
 rw [qmW,Nat.ble_eq_true_of_le (Nat.le_trans (Jn (k:=2) (by simpa using h)) (by omega)),cond_true]
def qCW (neg:Bool) (m e:Int):Rt×Int:=if e < -8192∨8192<e then ((false,([],[])),31) else (yB neg (m.toNat*2^(max e 0).toNat) (2^(max (-e) 0).toNat),0)
def dyL:{f:Bool→Int→Int→Rt×Int // ∀ b m e,f b m e=qCW b m e}:=Classical.choice ⟨⟨_,fun _ _ _=>rfl⟩⟩
def dyV (neg:Bool) (m e:Int):Rt×Int:=dyL.1 neg m e
theorem qtn (neg:Bool) (m e:Int):dyV neg m e=qCW neg m e:=dyL.2 neg m e
theorem qoD:okS []=true:=by rw [qmW];rfl
def qa1 (p:Bool×(Int×Int)):Option (Rt×Int):=bif okS [] then some (dyV p.1 p.2.1 p.2.2) else none
theorem qto (p:Bool×(Int×Int)) (y:Rt×Int) (hg:(dc cB (dc (cI .u64) (d1 (cI .i64)))).good p) (h:qa1 p=some y):qlg p.1 p.2.1 p.2.2=some y:=by
 obtain ⟨neg,m,e⟩:=p
 obtain ⟨_,h⟩:=qj h
 have:=soi h;subst this
 obtain ⟨_,hm,he⟩:=hg
 have hm:0≤m∧m<18446744073709551616:=Qj.1 hm
 have he : -9223372036854775808≤e∧e<9223372036854775808:=YP.1 he
 obtain ⟨M,rfl⟩:∃ M:Nat,m=(M:Int):=⟨m.toNat,by omega⟩
 have hM:M<18446744073709551616:=by omega
 show qlg neg (M:Int) e=some (dyV neg (M:Int) e)
 rw [qtn]
 show qlg neg (M:Int) e=some (if e < -8192∨8192<e then ((false,([],[])),31) else (yB neg ((M:Int).toNat*2^(max e 0).toNat) (2^(max (-e) 0).toNat),0))
 unfold qlg
 by_cases h1:e < -8192
 · rw [if_pos (.inl h1),decide_eq_true h1,cond_true]
 · by_cases h2:8192<e
   · rw [if_pos (.inr h2),decide_eq_false h1,cond_false,decide_eq_true h2,cond_true]
   · have hb:qn M≤64:=j0.2 (by simpa using hM)
     have e1:IntKind.i64.wrap (0-e) = -e:=by rw [w64 (by omega) (by omega)];omega
     obtain ⟨v1,o1⟩:=qoC (m:=M) (s:=(max e 0).toNat) (by omega)
     obtain ⟨v2,o2⟩:=qoC (m:=1) (s:=(max (-e) 0).toNat) (by have:qn 1=1:=rfl;omega)
     rw [if_neg (by omega),decide_eq_false h1,cond_false,decide_eq_false h2,cond_false,qdi M hM,e1,Int.toNat_natCast]
     refine obB (qtm hM) (obB (qtm (by omega)) (obB (Y4 (by rw [o1,o2];rfl)) ?_))
     rw [v1,v2,Nat.one_mul]
end
end Su
end
section
namespace Su
open Go Fly
set_option linter.unusedVariables false
noncomputable section
def qCX  (a:(Bool×((List Int)×(List Int)))) (b:(Bool×((List Int)×(List Int)))):Option (Bool×((List Int)×(List Int))) :=
 ((JG (a.1,(a.2.1,a.2.2)))).bind fun x0 =>
 ((JG (b.1,(b.2.1,b.2.2)))).bind fun x1 =>
 ((qat (x0.2.1,x1.2.1))).bind fun x2 =>
 ((qat (x0.2.2,x1.2.2))).bind fun x3 =>
 ((YS ((!(decide ((x0.1=x1.1)))),(x2,x3)))).bind fun x4 =>
 some (x4.1,(x4.2.1,x4.2.2))
def qCY  (a:(Bool×((List Int)×(List Int)))) (b:(Bool×((List Int)×(List Int)))):Option (Bool×((List Int)×(List Int))) :=
 ((JG (a.1,(a.2.1,a.2.2)))).bind fun x0 =>
 ((JG (b.1,(b.2.1,b.2.2)))).bind fun x1 =>
 ((qat (x0.2.1,x1.2.2))).bind fun x2 =>
 ((qat (x1.2.1,x0.2.2))).bind fun x3 =>
 ((qat (x0.2.2,x1.2.2))).bind fun x4 =>
 (bif (decide ((x0.1=x1.1))) then
 ((qk5 (x2,x3))).bind fun x5 =>
 ((YS (x0.1,(x5,x4)))).bind fun x6 =>
 some (x6.1,(x6.2.1,x6.2.2))
 else
  ((qhw (x2,x3))).bind fun x7 =>
  (bif x7.2 then
  ((YS (x0.1,(x7.1,x4)))).bind fun x8 =>
  some (x8.1,(x8.2.1,x8.2.2))
 else
  ((qhw (x3,x2))).bind fun x9 =>
  ((YS (x1.1,(x9.1,x4)))).bind fun x10 =>
  some (x10.1,(x10.2.1,x10.2.2))))
def qCZ  (a:(Bool×((List Int)×(List Int)))) (b:(Bool×((List Int)×(List Int)))):Option Int :=
 ((JG (a.1,(a.2.1,a.2.2)))).bind fun x0 =>
 ((JG (b.1,(b.2.1,b.2.2)))).bind fun x1 =>
 (bif (!(decide ((x0.1=x1.1)))) then
 (bif x0.1 then
 some (-1)
 else
  some 1)
 else
  ((qat (x0.2.1,x1.2.2))).bind fun x2 =>
  ((qat (x1.2.1,x0.2.2))).bind fun x3 =>
  (bif x0.1 then
  some (IntKind.wrap .i64 (0-(JD (qa x2) (qa x3))))
 else
  some (JD (qa x2) (qa x3))))
def ok4 (a:Rt):Bool:=Nat.ble a.2.1.length 400000&&Nat.ble a.2.2.length 400000
def nu (a:Rt):Nat:=qa a.2.1
def de (a:Rt):Nat:=qa a.2.2
structure Tidy (a:Rt):Prop where
 wn:Wd a.2.1
 wd:Wd a.2.2
 ln:a.2.1.length≤400000
 ld:a.2.2.length≤400000
theorem qli {neg:Bool} {a b:List Int} (ha:Wd a) (hb:Wd b) (h1:a.length≤400000) (h2:b.length≤400000):Tidy (yB neg (qa a) (qa b)):=by
 rw [JP]
 unfold qeh
 by_cases h:qa a=0∨qa b=0
 · rw [if_pos h]
   exact ⟨.nil,ZM 1,Nat.zero_le _,Nat.le_trans (Jn (v:=1) (k:=1) (by decide)) (by omega)⟩
 · rw [if_neg h]
   exact ⟨ZM _,ZM _,Nat.le_trans (Zl (Nat.div_le_self _ _)) (Nat.le_trans (jB a ha) h1),Nat.le_trans (Zl (Nat.div_le_self _ _)) (Nat.le_trans (jB b hb) h2)⟩
theorem ZR {a:Rt} (hg:cRt.good a) (h:ok4 a=true):JG a=some (yE a)∧Tidy (yE a):=by
 unfold ok4 at h
 rw [Bool.and_eq_true] at h
 have h1:=Nat.le_of_ble_eq_true h.1
 have h2:=Nat.le_of_ble_eq_true h.2
 refine ⟨?_,qli (Wd.of hg.2.1.1) (Wd.of hg.2.2.1) h1 h2⟩
 unfold JG okRt okL
 rw [Nat.ble_eq_true_of_le (by omega),Nat.ble_eq_true_of_le (by omega)];rfl
theorem qbJ {a b:List Int} (ha:Wd a) (hb:Wd b) (h1:a.length≤400000) (h2:b.length≤400000):qat (a,b)=some (ofN (qa a*qa b))∧(ofN (qa a*qa b)).length≤800000:=by
 constructor
 · unfold qat
   simp only []
   rw [Nat.ble_eq_true_of_le (by omega),cond_true]
 · refine Nat.le_trans (Jn (k:=a.length+b.length) ?_) (by omega)
   rw [Nat.pow_add]
   have ha':=jg a ha
   have hb':=jg b hb
   exact Nat.mul_lt_mul'' ha' hb'
def qgC (a b:Rt):Rt:=yB (!decide ((yE a).1=(yE b).1)) (nu (yE a)*nu (yE b)) (de (yE a)*de (yE b))
def qaw (p:Rt×Rt):Option Rt:=bif ok4 p.1&&ok4 p.2 then some (qgC p.1 p.2) else none
theorem qyb (p:Rt×Rt) (y:Rt) (hg:(dc cRt (d1 cRt)).good p) (h:qaw p=some y):qCX p.1 p.2=some y:=by
 obtain ⟨a,b⟩:=p
 obtain ⟨h1,h⟩:=qj h
 have:=soi h;subst this
 rw [Bool.and_eq_true] at h1
 obtain ⟨s1,t1⟩:=ZR hg.1 h1.1
 obtain ⟨s2,t2⟩:=ZR hg.2 h1.2
 obtain ⟨m1,l1⟩:=qbJ t1.wn t2.wn t1.ln t2.ln
 obtain ⟨m2,l2⟩:=qbJ t1.wd t2.wd t1.ld t2.ld
 show qCX a b=some (qgC a b)
 refine obB s1 (obB s2 (obB m1 (obB m2 (obB (Y4 (by unfold okL;rw [Nat.ble_eq_true_of_le (by omega),Nat.ble_eq_true_of_le (by omega)];rfl)) ?_))))
 rw [valN_ofN,valN_ofN]
 rfl
def qm0 (x y:Rt):Rt :=
 bif decide (x.1=y.1) then yB x.1 (nu x*de y+nu y*de x) (de x*de y)
 else bif decide (nu y*de x≤nu x*de y) then yB x.1 (nu x*de y-nu y*de x) (de x*de y)
 else yB y.1 (nu y*de x-nu x*de y) (de x*de y)
def qm1 (a b:Rt):Rt:=qm0 (yE a) (yE b)
def ZS (p:Rt×Rt):Option Rt:=bif ok4 p.1&&ok4 p.2 then some (qm1 p.1 p.2) else none
theorem qax {a:List Int} (h:a.length≤1000000):okL a=true:=Nat.ble_eq_true_of_le h
theorem qyc {p q k:Nat} (h1:(ofN p).length≤k) (h2:(ofN q).length≤k):(ofN (p+q)).length≤k+1:=by
 refine Jn ?_
 have h3:=@Jd p
 have h4:=@Jd q
 have h5:4294967296^(ofN p).length≤4294967296^k:=Nat.pow_le_pow_right (by omega) h1
 have h6:4294967296^(ofN q).length≤4294967296^k:=Nat.pow_le_pow_right (by omega) h2
 rw [Nat.pow_succ]
 generalize (4294967296:Nat)^k=P at *
 omega
theorem qC0 {p q:Nat} (h1:(ofN p).length≤800000) (h2:(ofN q).length≤800000):qk5 (ofN p,ofN q)=some (ofN (p+q))∧(ofN (p+q)).length≤1000000:=by
 constructor
 · unfold qk5
   simp only [valN_ofN]
   rw [Nat.ble_eq_true_of_le (by omega),cond_true]
 · exact Nat.le_trans (qyc h1 h2) (by omega)
theorem qtp {p q:Nat} (h1:(ofN p).length≤800000):qhw (ofN p,ofN q)=some (if p<q then ([],false) else (ofN (p-q),true)):=by
 unfold qhw
 simp only [valN_ofN]
 rw [Nat.ble_eq_true_of_le (by omega),cond_true]
theorem qyd (p:Rt×Rt) (y:Rt) (hg:(dc cRt (d1 cRt)).good p) (h:ZS p=some y):qCY p.1 p.2=some y:=by
 obtain ⟨a,b⟩:=p
 obtain ⟨h1,h⟩:=qj h
 have:=soi h;subst this
 rw [Bool.and_eq_true] at h1
 obtain ⟨s1,t1⟩:=ZR hg.1 h1.1
 obtain ⟨s2,t2⟩:=ZR hg.2 h1.2
 obtain ⟨m1,l1⟩:=qbJ t1.wn t2.wd t1.ln t2.ld
 obtain ⟨m2,l2⟩:=qbJ t2.wn t1.wd t2.ln t1.ld
 obtain ⟨m3,l3⟩:=qbJ t1.wd t2.wd t1.ld t2.ld
 show qCY a b=some (qm0 (yE a) (yE b))
 refine obB s1 (obB s2 (obB m1 (obB m2 (obB m3 ?_))))
 clear s1 s2 m1 m2 m3 h1 hg
 unfold qm0 nu de
 generalize yE a=x at *
 generalize yE b=y at *
 cases decide (x.1=y.1) with
 | true =>
  rw [cond_true,cond_true]
  obtain ⟨a1,a2⟩:=qC0 l1 l2
  refine obB a1 (obB (Y4 (by rw [qax a2,qax (by omega)];rfl)) ?_)
  rw [valN_ofN,valN_ofN]
 | false =>
  rw [cond_false,cond_false]
  refine obB (qtp l1) ?_
  by_cases hlt:qa x.2.1*qa y.2.2<qa y.2.1*qa x.2.2
  · rw [if_pos hlt,decide_eq_false (by omega),cond_false,cond_false]
    refine obB (qtp l2) ?_
    rw [if_neg (by omega)]
    have h5:(ofN (qa y.2.1*qa x.2.2-qa x.2.1*qa y.2.2)).length≤800000:=Nat.le_trans (Zl (Nat.sub_le _ _)) l2
    refine obB (Y4 (Bool.and_eq_true_iff.2 ⟨qax (Nat.le_trans h5 (by omega)),qax (Nat.le_trans l3 (by omega))⟩)) ?_
    rw [valN_ofN,valN_ofN]
  · rw [if_neg hlt,decide_eq_true (by omega),cond_true,cond_true]
    have h5:(ofN (qa x.2.1*qa y.2.2-qa y.2.1*qa x.2.2)).length≤800000:=Nat.le_trans (Zl (Nat.sub_le _ _)) l1
    refine obB (Y4 (Bool.and_eq_true_iff.2 ⟨qax (Nat.le_trans h5 (by omega)),qax (Nat.le_trans l3 (by omega))⟩)) ?_
    rw [valN_ofN,valN_ofN]
def rcm (x y:Rt):Int:=bif !decide (x.1=y.1) then (bif x.1 then -1 else 1) else bif x.1 then -JD (nu x*de y) (nu y*de x) else JD (nu x*de y) (nu y*de x)
def qdj (a b:Rt):Int:=rcm (yE a) (yE b)
def ZT (p:Rt×Rt):Option Int:=bif ok4 p.1&&ok4 p.2 then some (qdj p.1 p.2) else none
theorem qtq (a b:Nat) : -1≤JD a b∧JD a b≤1:=by
 unfold JD
 by_cases h:a<b
 · rw [if_pos h];omega
 · rw [if_neg h]
   by_cases h2:a=b
   · rw [if_pos h2];omega
   · rw [if_neg h2];omega
theorem qye (p:Rt×Rt) (y:Int) (hg:(dc cRt (d1 cRt)).good p) (h:ZT p=some y):qCZ p.1 p.2=some y:=by
 obtain ⟨a,b⟩:=p
 obtain ⟨h1,h⟩:=qj h
 have:=soi h;subst this
 rw [Bool.and_eq_true] at h1
 obtain ⟨s1,t1⟩:=ZR hg.1 h1.1
 obtain ⟨s2,t2⟩:=ZR hg.2 h1.2
 obtain ⟨m1,l1⟩:=qbJ t1.wn t2.wd t1.ln t2.ld
 obtain ⟨m2,l2⟩:=qbJ t2.wn t1.wd t2.ln t1.ld
 show qCZ a b=some (rcm (yE a) (yE b))
 refine obB s1 (obB s2 ?_)
 clear s1 s2 h1 hg
 unfold rcm nu de
 generalize yE a=x at *
 generalize yE b=y at *
 cases decide (x.1=y.1) with
 | false =>
  rw [Bool.not_false,cond_true,cond_true]
  cases x.1 <;> rfl
 | true =>
  rw [Bool.not_true,cond_false,cond_false]
  refine obB m1 (obB m2 ?_)
  rw [valN_ofN,valN_ofN]
  have hc:=qtq (qa x.2.1*qa y.2.2) (qa y.2.1*qa x.2.2)
  have e1:IntKind.i64.wrap (0-JD (qa x.2.1*qa y.2.2) (qa y.2.1*qa x.2.2)) = -JD (qa x.2.1*qa y.2.2) (qa y.2.1*qa x.2.2):=by
   rw [w64 (by omega) (by omega)];omega
  rw [e1]
  cases x.1 <;> rfl
end
end Su
end
section
namespace Su
open Go Fly
set_option linter.unusedVariables false
noncomputable section
def qC1  (a:(Bool×((List Int)×(List Int)))) (b:(Bool×((List Int)×(List Int)))):Option (Bool×((List Int)×(List Int))) :=
 ((qcz (b.1,(b.2.1,b.2.2)))).bind fun x0 =>
 ((ZS ((a.1,(a.2.1,a.2.2)),(x0.1,(x0.2.1,x0.2.2))))).bind fun x1 =>
 some (x1.1,(x1.2.1,x1.2.2))
def qC2  (f:Int):Option ((Bool×((List Int)×(List Int)))×Bool) :=
 (bif (decide (((((qD (bK (Int.toNat f))):Nat):Int)=3))) then
 (bif (decide (((((qD (bK (Int.toNat f))):Nat):Int)=3))) then
 some ((false,([],[])),false)
 else
  ((qa1 ((decide (((Int.fdiv f (2^63))=1))),((((spM (bK (Int.toNat f))):Nat):Int),(spE (bK (Int.toNat f))))))).bind fun x0 =>
  some ((x0.1.1,(x0.1.2.1,x0.1.2.2)),true))
 else
  (bif (decide (((((qD (bK (Int.toNat f))):Nat):Int)=4))) then
  some ((false,([],[])),false)
 else
  ((qa1 ((decide (((Int.fdiv f (2^63))=1))),((((spM (bK (Int.toNat f))):Nat):Int),(spE (bK (Int.toNat f))))))).bind fun x1 =>
  some ((x1.1.1,(x1.1.2.1,x1.1.2.2)),true)))
theorem qC3 {a:Rt} (h:Tidy a):ok4 a=true:=by
 unfold ok4
 rw [Nat.ble_eq_true_of_le h.ln,Nat.ble_eq_true_of_le h.ld];rfl
def qep (a b:Rt):Rt:=qm1 a (qlh b)
def qi4 (p:Rt×Rt):Option Rt:=bif ok4 p.1&&ok4 p.2 then some (qep p.1 p.2) else none
theorem qyf (p:Rt×Rt) (y:Rt) (hg:(dc cRt (d1 cRt)).good p) (h:qi4 p=some y):qC1 p.1 p.2=some y:=by
 obtain ⟨a,b⟩:=p
 obtain ⟨h1,h⟩:=qj h
 have:=soi h;subst this
 rw [Bool.and_eq_true] at h1
 have h2:=h1.2
 unfold ok4 at h2
 rw [Bool.and_eq_true] at h2
 have l1:=Nat.le_of_ble_eq_true h2.1
 have l2:=Nat.le_of_ble_eq_true h2.2
 have t:Tidy (qlh b):=qli (Wd.of hg.2.2.1.1) (Wd.of hg.2.2.2.1) l1 l2
 have s1:qcz b=some (qlh b):=by
  unfold qcz okRt
  rw [qax (Nat.le_trans l1 (by omega)),qax (Nat.le_trans l2 (by omega))];rfl
 have s2:ZS (a,qlh b)=some (qep a b):=by
  unfold ZS
  simp only []
  rw [h1.1,qC3 t];rfl
 show qC1 a b=some (qep a b)
 exact obB s1 (obB s2 rfl)
def ZU (f:Nat):Rt:=(dyV (bS f) ((spM (bK f):Nat):Int) (spE (bK f))).1
def QA (f:Nat):Bool:=decide (((qD (bK f):Nat):Int)=3)||decide (((qD (bK f):Nat):Int)=4)
def Je (f:Int):Option (Rt×Bool):=bif okS [] then some (bif QA f.toNat then ((false,([],[])),false) else (ZU f.toNat,true)) else none
theorem qtr (p:Bool×(Int×Int)):qa1 p=some (dyV p.1 p.2.1 p.2.2):=by
 unfold qa1
 rw [qoD,cond_true]
theorem qyg (f:Int) (y:Rt×Bool) (hg:(d1 (cI .u64)).good f) (h:Je f=some y):qC2 f=some y:=by
 obtain ⟨n,rfl,hn⟩:=jf hg
 obtain ⟨_,h⟩:=qj h
 have:=soi h;subst this
 unfold qC2 QA ZU
 rw [Int.toNat_natCast,qmS n hn]
 cases decide (((qD (bK n):Nat):Int)=3) with
 | true =>
  simp only [cond_true,Bool.true_or]
 | false =>
  cases decide (((qD (bK n):Nat):Int)=4) with
  | true=>simp only [cond_true,cond_false,Bool.or_true]
  | false =>
   simp only [cond_false,Bool.or_false]
   exact obB (qtr _) rfl
end
end Su
end
section
namespace Su
open Go Fly
set_option linter.unusedVariables false
noncomputable section
def qoE:(Int×((List Int)×(Int×(Int×Unit))))→Option ((Int×((List Int)×(Int×(Int×Unit)))) ⊕ (Lp (Int×((List Int)×(Int×(Int×Unit)))) Int)):=fun p1=>(bif (decide ((p1.2.2.2.1<p1.2.2.1))) then
 ((idx p1.2.1 p1.2.2.2.1)).bind fun x2 =>
 (bif (qO (bK (Int.toNat x2))) then
 some (.inr (.ret 9221120237041090560))
 else
  (bif (Q3 (Int.toNat p1.1) (Int.toNat x2)) then
  some (.inl (x2,(p1.2.1,(p1.2.2.1,((IntKind.wrap .i64 (p1.2.2.2.1+1)),())))))
 else
  some (.inl (p1.1,(p1.2.1,(p1.2.2.1,((IntKind.wrap .i64 (p1.2.2.2.1+1)),())))))))
 else
  some (.inr (.exit 0 (p1.1,(p1.2.1,(p1.2.2.1,(p1.2.2.2.1,())))))))
def qC4  (fu:Nat) (l:(List Int)):Option Int :=
 (bif (decide (((((List.length l):Nat):Int)=0))) then
 some 9221120237041090560
 else
  ((idx l 0)).bind fun x0 =>
  (itP fu (qoE) (x0,(l,((((List.length l):Nat):Int),((0:Int),()))))).bind fun x3 =>
  (match x3 with
 | .exit i4 p5=>(bif (Nat.beq i4 0) then
  some p5.1
 else
  none)
 | .ret o6=>some o6))
def qoF:(Int×((List Int)×(Int×(Int×Unit))))→Option ((Int×((List Int)×(Int×(Int×Unit)))) ⊕ (Lp (Int×((List Int)×(Int×(Int×Unit)))) Int)):=fun p1=>(bif (decide ((p1.2.2.2.1<p1.2.2.1))) then
 ((idx p1.2.1 p1.2.2.2.1)).bind fun x2 =>
 (bif (qO (bK (Int.toNat x2))) then
 some (.inr (.ret 9221120237041090560))
 else
  (bif (Q3 (Int.toNat x2) (Int.toNat p1.1)) then
  some (.inl (x2,(p1.2.1,(p1.2.2.1,((IntKind.wrap .i64 (p1.2.2.2.1+1)),())))))
 else
  some (.inl (p1.1,(p1.2.1,(p1.2.2.1,((IntKind.wrap .i64 (p1.2.2.2.1+1)),())))))))
 else
  some (.inr (.exit 0 (p1.1,(p1.2.1,(p1.2.2.1,(p1.2.2.2.1,())))))))
def qC5  (fu:Nat) (l:(List Int)):Option Int :=
 (bif (decide (((((List.length l):Nat):Int)=0))) then
 some 9221120237041090560
 else
  ((idx l 0)).bind fun x0 =>
  (itP fu (qoF) (x0,(l,((((List.length l):Nat):Int),((0:Int),()))))).bind fun x3 =>
  (match x3 with
 | .exit i4 p5=>(bif (Nat.beq i4 0) then
  some p5.1
 else
  none)
 | .ret o6=>some o6))
def qts (l:List Int):Option Int:=match l with
 | [a,b]=>some (Zj a.toNat b.toNat:Int)
 | _=>none
def qtt (l:List Int):Option Int:=match l with
 | [a,b]=>some (qsT a.toNat b.toNat:Int)
 | _=>none
theorem qA3:IntKind.i64.wrap (0+1)=1:=by decide
theorem qA4:IntKind.i64.wrap (1+1)=2:=by decide
theorem qyh (l:List Int) (y:Int) (hg:(d1 (cQ 2 1)).good l) (h:qts l=some y):∃ n,qC4 n l=some y:=by
 match l,h with
 | [a,b],h =>
  have:=soi h;subst this
  obtain ⟨A,rfl,hA⟩:=jf (hg.1 a (List.mem_cons_self ..))
  obtain ⟨B,rfl,hB⟩:=jf (hg.1 b (List.mem_cons_of_mem _ (List.mem_cons_self ..)))
  refine ⟨3,?_⟩
  unfold qC4 Zj
  have i0:idx [(A:Int),(B:Int)] 0=some (A:Int):=rfl
  have i1:idx [(A:Int),(B:Int)] 1=some (B:Int):=rfl
  simp only [List.length_cons,List.length_nil,i0,Option.bind_some,qA,qoE,Int.toNat_natCast,qA3]
  have d0:decide ((((0+1+1:Nat):Int))=0)=false:=by decide
  have d1:decide ((0:Int)<(((0+1+1:Nat):Int)))=true:=by decide
  have d2:decide ((1:Int)<(((0+1+1:Nat):Int)))=true:=by decide
  have d3:decide ((2:Int)<(((0+1+1:Nat):Int)))=false:=by decide
  rw [d0,d1]
  cases ha:qO (bK A) with
  | true=>rfl
  | false =>
   simp only [cond_true,cond_false,Bool.false_or]
   cases hAA:Q3 A A <;> (
    simp only [cond_true,cond_false,Option.bind_some,d2,i1,Int.toNat_natCast]
    cases hb:qO (bK B) with
    | true=>rfl
    | false =>
     simp only [cond_true,cond_false]
     cases hAB:Q3 A B <;> (
      simp only [cond_true,cond_false,Option.bind_some,qA4,d3]
      rfl))
theorem qyi (l:List Int) (y:Int) (hg:(d1 (cQ 2 1)).good l) (h:qtt l=some y):∃ n,qC5 n l=some y:=by
 match l,h with
 | [a,b],h =>
  have:=soi h;subst this
  obtain ⟨A,rfl,hA⟩:=jf (hg.1 a (List.mem_cons_self ..))
  obtain ⟨B,rfl,hB⟩:=jf (hg.1 b (List.mem_cons_of_mem _ (List.mem_cons_self ..)))
  refine ⟨3,?_⟩
  unfold qC5 qsT
  have i0:idx [(A:Int),(B:Int)] 0=some (A:Int):=rfl
  have i1:idx [(A:Int),(B:Int)] 1=some (B:Int):=rfl
  simp only [List.length_cons,List.length_nil,i0,Option.bind_some,qA,qoF,Int.toNat_natCast,qA3]
  have d0:decide ((((0+1+1:Nat):Int))=0)=false:=by decide
  have d1:decide ((0:Int)<(((0+1+1:Nat):Int)))=true:=by decide
  have d2:decide ((1:Int)<(((0+1+1:Nat):Int)))=true:=by decide
  have d3:decide ((2:Int)<(((0+1+1:Nat):Int)))=false:=by decide
  rw [d0,d1]
  cases ha:qO (bK A) with
  | true=>rfl
  | false =>
   simp only [cond_true,cond_false,Bool.false_or]
   cases hAA:Q3 A A <;> (
    simp only [cond_true,cond_false,Option.bind_some,d2,i1,Int.toNat_natCast]
    cases hb:qO (bK B) with
    | true=>rfl
    | false =>
     simp only [cond_true,cond_false]
     cases hAB:Q3 B A <;> (
      simp only [cond_true,cond_false,Option.bind_some,qA4,d3]
      rfl))
end
end Su
end
section
namespace Su
open Go Fly
set_option linter.unusedVariables false
noncomputable section
def qC6  (f:Int):Option Bool :=
 (bif (!(decide (((((qD (bK (Int.toNat f))):Nat):Int)=4)))) then
 some (!(decide (((((qD (bK (Int.toNat f))):Nat):Int)=3))))
 else
  some false)
def qtu  (f:Int):Option Bool :=
 some (decide (((((qD (bK (Int.toNat f))):Nat):Int)=0)))
theorem obs {α β:Type} {a:Option α} {f:α→Option β} {t:α} {r:Option β} (h:a=some t) (h2:f t=r):a.bind f=r:=by rw [h];exact h2
def qtv (f:Int):Option Bool:=some (jK (bK f.toNat))
def qoG (f:Int):Option Bool:=some (Nat.beq (bK f.toNat) 0)
theorem qyj (f:Int) (y:Bool) (hg:(d1 (cI .u64)).good f) (h:qtv f=some y):qC6 f=some y:=by
 have:=soi h;subst this
 unfold qC6
 rw [← qom]
 cases decide (((qD (bK f.toNat):Nat):Int)=4) with
 | true=>rw [Bool.not_true,cond_false,Bool.and_false]
 | false=>rw [Bool.not_false,cond_true,Bool.and_true]
theorem qtw (f:Int) (y:Bool) (hg:(d1 (cI .u64)).good f) (h:qoG f=some y):qtu f=some y:=by
 have:=soi h;subst this
 unfold qtu
 rw [qfY]
end
end Su
end
section
namespace Su
noncomputable section
open Go Fly
def qe (a:Int×Int):Nat:=18446744073709551616*a.1.toNat+a.2.toNat
theorem QU (a:Int×Int):qe a=a.1.toNat*18446744073709551616+a.2.toNat:=by unfold qe;rw [Nat.mul_comm]
def hiW (n:Nat):Int:=((n / 18446744073709551616 % 18446744073709551616:Nat):Int)
def loW (n:Nat):Int:=((n % 18446744073709551616:Nat):Int)
def subL:{f:Nat→Nat→Nat // ∀ x y,f x y=x+340282366920938463463374607431768211456-y}:=Classical.choice ⟨⟨_,fun _ _=>rfl⟩⟩
def JH (x y:Nat):Nat:=subL.1 x y
theorem qeQ (x y:Nat):JH x y=x+340282366920938463463374607431768211456-y:=subL.2 x y
theorem pw {r:Nat} (hr:r≤64):2^(64-r)*2^r=18446744073709551616:=by
 rw [← Nat.pow_add,Nat.sub_add_cancel hr]
theorem qtx (H L r:Nat) (hr:r≤64) (hL:L<18446744073709551616) :
 (H*2^r) % 18446744073709551616 ||| L / 2^(64-r)=(H*18446744073709551616+L)*2^r / 18446744073709551616 % 18446744073709551616∧L*2^r % 18446744073709551616=(H*18446744073709551616+L)*2^r % 18446744073709551616:=by
 have hW:=pw hr
 have hR:=Nat.two_pow_pos r
 have hQ:=Nat.two_pow_pos (64-r)
 have hx:L / 2^(64-r)<2^r:=by rw [Nat.div_lt_iff_lt_mul hQ,Nat.mul_comm,hW];exact hL
 have h1:H*2^r % 18446744073709551616=H % 2^(64-r)*2^r:=by rw [← hW,Nat.mul_mod_mul_right]
 refine ⟨?_,?_⟩
 · rw [h1,qeN hx]
   have h2:(H*18446744073709551616+L)*2^r / 18446744073709551616=H*2^r+L / 2^(64-r):=by
    have:(H*18446744073709551616+L)*2^r=L*2^r+18446744073709551616*(H*2^r):=by
     rw [Nat.add_mul,Nat.mul_right_comm,Nat.mul_comm (H*2^r)];omega
    rw [this,Nat.add_mul_div_left _ _ (by decide)]
    have h3:L*2^r / 18446744073709551616=L / 2^(64-r):=by rw [← hW,Nat.mul_div_mul_right _ _ hR]
    omega
   rw [h2]
   have h4:=Nat.div_add_mod H (2^(64-r))
   have h5:H*2^r=18446744073709551616*(H / 2^(64-r))+H % 2^(64-r)*2^r:=by
    conv=>lhs;rw [← h4]
    rw [Nat.add_mul,Nat.mul_right_comm,hW]
   rw [h5,Nat.add_assoc,Nat.mul_add_mod]
   have h6:H % 2^(64-r)*2^r+L / 2^(64-r)<18446744073709551616:=by
    have h7:=Nat.mod_lt H hQ
    have h8:(H % 2^(64-r)+1)*2^r≤2^(64-r)*2^r:=Nat.mul_le_mul_right _ h7
    rw [hW,Nat.add_mul] at h8
    omega
   rw [Nat.mod_eq_of_lt h6]
 · have:(H*18446744073709551616+L)*2^r=18446744073709551616*(H*2^r)+L*2^r:=by
    rw [Nat.add_mul,Nat.mul_right_comm,Nat.mul_comm (H*2^r)]
   rw [this,Nat.mul_add_mod]
theorem qty (H L r:Nat) (hr:r≤64) (hH:H<18446744073709551616) (hL:L<18446744073709551616) :
 H / 2^r=(H*18446744073709551616+L) / 2^r / 18446744073709551616 % 18446744073709551616∧L / 2^r ||| (H*2^(64-r)) % 18446744073709551616=(H*18446744073709551616+L) / 2^r % 18446744073709551616 ∧
 (L*2^(64-r) % 18446744073709551616=0↔(H*18446744073709551616+L) % 2^r=0):=by
 have hW:2^r*2^(64-r)=18446744073709551616:=by rw [Nat.mul_comm];exact pw hr
 have hR:=Nat.two_pow_pos r
 have hQ:=Nat.two_pow_pos (64-r)
 have hx:L / 2^r<2^(64-r):=by rw [Nat.div_lt_iff_lt_mul hR,Nat.mul_comm,hW];exact hL
 have h1:H*2^(64-r) % 18446744073709551616=H % 2^r*2^(64-r):=by rw [← hW,Nat.mul_mod_mul_right]
 have hv:H*18446744073709551616+L=L+2^r*(H*2^(64-r)):=by
  rw [← hW,Nat.mul_left_comm,Nat.add_comm]
 have hd:(H*18446744073709551616+L) / 2^r=H*2^(64-r)+L / 2^r:=by
  rw [hv,Nat.add_mul_div_left _ _ hR,Nat.add_comm]
 refine ⟨?_,?_,?_⟩
 · rw [Nat.div_div_eq_div_mul,Nat.mul_comm (2^r),← Nat.div_div_eq_div_mul]
   have:(H*18446744073709551616+L) / 18446744073709551616=H:=by omega
   rw [this,Nat.mod_eq_of_lt]
   exact Nat.lt_of_le_of_lt (Nat.div_le_self _ _) hH
 · rw [h1,qiR hx,hd]
   have h4:=Nat.div_add_mod H (2^r)
   have h5:H*2^(64-r)=18446744073709551616*(H / 2^r)+H % 2^r*2^(64-r):=by
    conv=>lhs;rw [← h4]
    rw [Nat.add_mul,Nat.mul_right_comm,hW]
   rw [h5,Nat.add_assoc,Nat.mul_add_mod]
   have h6:H % 2^r*2^(64-r)+L / 2^r<18446744073709551616:=by
    have h7:=Nat.mod_lt H hR
    have h8:(H % 2^r+1)*2^(64-r)≤2^r*2^(64-r):=Nat.mul_le_mul_right _ h7
    rw [hW,Nat.add_mul] at h8
    omega
   rw [Nat.mod_eq_of_lt h6]
 · have e1:L*2^(64-r) % 18446744073709551616=L % 2^r*2^(64-r):=by rw [← hW,Nat.mul_mod_mul_right]
   have e2:(H*18446744073709551616+L) % 2^r=L % 2^r:=by rw [hv,Nat.add_mul_mod_self_left]
   rw [e1,e2]
   constructor
   · intro h
     rcases Nat.mul_eq_zero.1 h with h | h
     · exact h
     · omega
   · intro h;rw [h,Nat.zero_mul]
theorem qtz (a b:Nat) (ha:a<18446744073709551616) (hb:b<18446744073709551616) :
 let x0:=a % 4294967296;let x1:=a / 4294967296;let y0:=b % 4294967296;let y1:=b / 4294967296
 let t:=x1*y0+x0*y0 / 4294967296
 let w1:=t % 4294967296+x0*y1
 x1*y1+t / 4294967296+w1 / 4294967296=a*b / 18446744073709551616∧x0*y0<18446744073709551616∧t<18446744073709551616∧w1<18446744073709551616∧x1*y1+t / 4294967296+w1 / 4294967296<18446744073709551616∧x1*y0<18446744073709551616∧x0*y1<18446744073709551616∧x1*y1+t / 4294967296<18446744073709551616∧x1*y1<18446744073709551616:=by
 intro x0 x1 y0 y1 t w1
 have hx0:x0≤4294967295:=by omega
 have hx1:x1≤4294967295:=by omega
 have hy0:y0≤4294967295:=by omega
 have hy1:y1≤4294967295:=by omega
 have ha':a=x1*4294967296+x0:=by omega
 have hb':b=y1*4294967296+y0:=by omega
 have h00:x0*y0≤4294967295*4294967295:=Nat.mul_le_mul hx0 hy0
 have h10:x1*y0≤4294967295*4294967295:=Nat.mul_le_mul hx1 hy0
 have h01:x0*y1≤4294967295*4294967295:=Nat.mul_le_mul hx0 hy1
 have h11:x1*y1≤4294967295*4294967295:=Nat.mul_le_mul hx1 hy1
 have hab:a*b=x1*y1*18446744073709551616+(x1*y0+x0*y1)*4294967296+x0*y0:=by
  rw [ha',hb',Nat.add_mul,Nat.mul_add,Nat.mul_add]
  have e1:x1*4294967296*(y1*4294967296)=x1*y1*18446744073709551616:=by
   rw [Nat.mul_mul_mul_comm]
  have e2:x1*4294967296*y0=x1*y0*4294967296:=Nat.mul_right_comm _ _ _
  have e3:x0*(y1*4294967296)=x0*y1*4294967296:=(Nat.mul_assoc _ _ _).symm
  rw [e1,e2,e3]
  generalize x1*y1=p at *
  generalize x1*y0=q at *
  generalize x0*y1=s at *
  generalize x0*y0=u at *
  omega
 rw [hab]
 show x1*y1+(x1*y0+x0*y0 / 4294967296) / 4294967296+((x1*y0+x0*y0 / 4294967296) % 4294967296+x0*y1) / 4294967296=_∧x0*y0<_∧x1*y0+x0*y0 / 4294967296<_∧(x1*y0+x0*y0 / 4294967296) % 4294967296+x0*y1<_∧x1*y1+(x1*y0+x0*y0 / 4294967296) / 4294967296+((x1*y0+x0*y0 / 4294967296) % 4294967296+x0*y1) / 4294967296<_∧x1*y0<_∧x0*y1<_∧x1*y1+(x1*y0+x0*y0 / 4294967296) / 4294967296<_∧x1*y1<_
 generalize x1*y1=p at *
 generalize x1*y0=q at *
 generalize x0*y1=s at *
 generalize x0*y0=u at *
 clear ha' hb' hab
 omega
end
end Su
end
