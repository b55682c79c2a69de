/-
  What functions of the program compute, in plain Lean, and that the evaluator finds it.
-/
import Derived.Test.YtfckjjffdfkelaaGreatSuSd
import Derived.Test.YtfckjjffdfkelaaGreatNB09
import Derived.Test.YtfckjjffdfkelaaGreatRb
set_option linter.unusedVariables false
set_option linter.unusedSimpArgs false
set_option maxRecDepth 10000
section
namespace Su
open Go Fly
noncomputable section
def qoa:((List Int)×(List Int)×Unit)→Option (((List Int)×(List Int)×Unit) ⊕ ((List Int)×(List Int)×Unit)):=fun p2=>(bif(decide (0<(List.length p2.2.1:Int)))then
 (qcN (p2.1,p2.2.1)).bind fun x3=>
 some (.inl (p2.2.1,x3.2.1,()))
 else
  some (.inr (p2.1,p2.2.1,())))
def Gcd  (fu:Nat)(a:(List Int))(b:(List Int)):Option (List Int) :=
 (Jj (ofN (qa a))).bind fun x0=>
 (Jj (ofN (qa b))).bind fun x1=>
 (itP fu (qoa) (x0,x1,())).bind fun x4=>
 some x4.1
theorem Jk{v k:Nat}(h:v<4294967296^k):(ofN v).length≤k:=by
 have h1:=jD (ql8 k v) (qpM k v)
 rw[qur,KA h,ql9]at h1;exact h1
theorem Zv{u v:Nat}(h:u≤v):(ofN u).length≤(ofN v).length:=Jk (KX h Jb)
theorem qD8{va vb:Nat}(h1:(ofN va).length≤1000000)(h2:(ofN vb).length≤1000000)(hb:vb≠0):qcN (ofN va,ofN vb)=some (ofN (va / vb),ofN (va % vb),0):=by
 unfold qcN;simp only[valN_ofN];rw[zn h1,zn h2,zY,zd,zZ hb]
theorem quz:∀(vb va:Nat),(ofN va).length≤1000000→(ofN vb).length≤1000000→∃w,∃n,itP n qoa (ofN va,ofN vb,())=some (ofN (Nat.gcd va vb),w,()):=by
 intro vb;induction vb using Nat.strongRecOn with
 | _ vb ih=>
  intro va h1 h2;by_cases hb:vb=0
  · subst hb
    refine⟨[],QL ?_⟩
    rw[Nat.gcd_zero_right];rfl
  · have hlt:=Vr va (WM hb)
    obtain⟨w,hn⟩:=ih (va % vb) hlt vb h2 (zU (Zv (Wl hlt)) h2)
    refine⟨w,QK ?_ (by rw[Nat.gcd_comm va vb,Nat.gcd_rec vb va,Nat.gcd_comm];exact hn)⟩
    have hl:0<(ofN vb).length:=by
     have h3:=@Jb vb
     cases h4:(ofN vb).length with
     | zero=>rw[h4]at h3;omega
     | succ=>omega
    have d1:decide ((0:Int)<(((ofN vb).length:Nat):Int))=true:=zf (by omega)
    simp only[qoa,d1,zd,qD8 h1 h2 hb,zi]
def qmd(p:List Int×List Int):Option (List Int):=bif Nat.ble p.1.length 1000000&&Nat.ble p.2.length 1000000 then some (ofN (Nat.gcd (qa p.1) (qa p.2)))else none
theorem qD9(p:List Int×List Int)(y:List Int)(hg:(dc (cQ 1 1) (d1 (cQ 1 1))).good p)(h:qmd p=some y):∃n,Gcd n p.1 p.2=some y:=by
 obtain⟨a,b⟩:=p;obtain⟨⟨ha,la⟩,hb,lb⟩:=hg;obtain⟨hm,h⟩:=qi h;have:=soi h;subst this
 rw[zm]at hm;have hla:=zU (jD a (Wd.of ha)) (zo hm.1)
 have hlb:=zU (jD b (Wd.of hb)) (zo hm.2)
 obtain⟨w,n,hn⟩:=quz (qa b) (qa a) hla hlb
 refine⟨n,?_⟩
 have h1:Jj (ofN (qa a))=some (ofN (qa a)):=by unfold Jj qmb;rw[zn (by omega),zd]
 have h2:Jj (ofN (qa b))=some (ofN (qa b)):=by unfold Jj qmb;rw[zn (by omega),zd]
 show Gcd n a b=some (ofN (Nat.gcd (qa a) (qa b)))
 unfold Gcd;exact obB h1 (obB h2 (obB hn rfl))
end
end Su
end
section
namespace Su
open Go Fly
noncomputable section
def dm{α β:Type}(d:Dec α)(to:α→β)(fr:β→α)(h1:∀a,fr (to a)=a)(h2:∀b,to (fr b)=b):Dec β where
 enc b:=d.enc (fr b)
 dec l:=(d.dec l).bind fun a=>some (to a)
 good b:=d.good (fr b)
 rep {xs b} h V vs hr:=by
  obtain⟨a,e1,e2⟩:=osm h;have:=soi e2;subst this
  rw[h1];exact d.rep e1 hr
 de b:=by rw[d.de,zi,h2]
 rng {b V vs} hr:=d.rng hr
structure RowD (u k:Nat) where
 d:Dec (U u)
 hv:∀a,view u a = .agg (d.enc a)
 hk:∀a,(d.enc a).length=k
 hn:∀a,((d.enc a).all fun x=>!x.isAgg)=true
section
variable {u k:Nat} (R:RowD u k)
end
abbrev cRt:Cod (Bool×List (U 1)×List (U 1)):=cA (dc cB (dc (cQ 1 1) (d1 (cQ 1 1))))
end
end Su
end
section
namespace Su
open Go Fly
noncomputable section
def Low  (neg:Bool)(num:(List Int))(den:(List Int)):Option (Bool×(List Int)×List Int) :=
 (Len num).bind fun x0=>
 (bif(decide (x0=0))then
 some (false,[],(ofN 1))
 else
  (Len den).bind fun x1=>
  (bif(decide (x1=0))then
  some (false,[],(ofN 1))
 else
  (qmd (num,den)).bind fun x2=>
  (qcN (num,x2)).bind fun x3=>
  (qcN (den,x2)).bind fun x4=>
  some (neg,x3.1,x4.1)))
abbrev Rt:=Bool×(List Int×List Int)
def qew(neg:Bool)(n d:Nat):Rt:=if n=0∨d=0 then(false,[],ofN 1)else(neg,ofN (n / Nat.gcd n d),ofN (d / Nat.gcd n d))
def lowL:{f:Bool→Nat→Nat→Rt // ∀b n d,f b n d=qew b n d}:=Classical.choice ⟨⟨_,fun _ _ _=>rfl⟩⟩
def Qr(neg:Bool)(n d:Nat):Rt:=lowL.1 neg n d
theorem Z3(neg:Bool)(n d:Nat):Qr neg n d=qew neg n d:=lowL.2 neg n d
def okL(a:List Int):Bool:=Nat.ble a.length 1000000
def YM(p:Bool×List Int×List Int):Option Rt:=bif okL p.2.1&&okL p.2.2 then some (Qr p.1 (qa p.2.1) (qa p.2.2))else none
theorem qbF(v:Nat):qo v=0↔v=0:=by
 constructor
 · intro h
   have:=yC.1 (XZ h)
   simp at this;exact this
 · intro h;subst h;rfl
theorem qpT{a:List Int}(hw:Wd a)(h:a.length≤1000000):Len a=some (qo (qa a):Int):=by
 have hbl:qo (qa a)≤32*a.length:=yC.2 (by rw[← Zt];exact jo a hw)
 exact qpH a (by omega)
theorem qCs{a:List Int}{g:Nat}(h1:a.length≤1000000)(h2:(ofN g).length≤1000000)(hg:g≠0):qcN (a,ofN g)=some (ofN (qa a / g),ofN (qa a % g),0):=by
 unfold qcN;simp only[valN_ofN];rw[zn h1,zn h2,zY,zd,zZ hg]
theorem qEa(p:Bool×List Int×List Int)(y:Rt)(hg:(dc cB (dc (cQ 1 1) (d1 (cQ 1 1)))).good p)(h:YM p=some y):Low p.1 p.2.1 p.2.2=some y:=by
 obtain⟨neg,a,b⟩:=p;obtain⟨_,⟨ha,la⟩,hb,lb⟩:=hg;obtain⟨hm,h⟩:=qi h;have:=soi h;subst this
 rw[zm]at hm;have hwa:=Wd.of ha;have hwb:=Wd.of hb;have h1:a.length≤1000000:=zo hm.1
 have h2:b.length≤1000000:=zo hm.2
 show Low neg a b=some (Qr neg (qa a) (qa b))
 rw[Z3];unfold Low qew;refine obB (qpT hwa h1) ?_
 by_cases ha0:qa a=0
 · rw[Kp (.inl ha0),zf (by rw[ha0];rfl),zd]
 · have e1:qo (qa a)≠0:=fun e=>ha0 ((qbF _).1 e)
   rw[zk (by omega),zh];refine obB (qpT hwb h2) ?_
   by_cases hb0:qa b=0
   · rw[Kp (.inr hb0),zf (by rw[hb0];rfl),zd]
   · have e2:qo (qa b)≠0:=fun e=>hb0 ((qbF _).1 e)
     rw[zk (by omega),zh,zZ (by omega)];have hgl:Nat.gcd (qa a) (qa b)≤qa a:=Nat.gcd_le_left _ (WM ha0)
     have hg0:Nat.gcd (qa a) (qa b)≠0:=fun e=>ha0 (Nat.gcd_eq_zero_iff.1 e).1
     have hgn:(ofN (Nat.gcd (qa a) (qa b))).length≤1000000:=zU (Zv hgl) (zU (jD a hwa) h1)
     have hs:qmd (a,b)=some (ofN (Nat.gcd (qa a) (qa b))):=by
      unfold qmd;simp only[];rw[zn h1,zn h2,zY,zd]
     exact obB hs (obB (qCs h1 hgn hg0) (obB (qCs h2 hgn hg0) rfl))
end
end Su
end
section
namespace Su
open Go Fly
noncomputable section
def RLow  (a:(Bool×(List Int)×List Int)):Option (Bool×(List Int)×List Int) :=
 (YM (a.1,a.2.1,a.2.2)).bind fun x0=>
 some (x0.1,x0.2.1,x0.2.2)
def qEb  (x:Int):Option (Bool×(List Int)×List Int) :=
 (bif(decide (x<0))then
 (YM (true,(ofN (qa [(IntKind.wrap .u32 (IntKind.wrap .u64 (0-(IntKind.wrap .u64 x)))),(IntKind.wrap .u32 (Int.fdiv (IntKind.wrap .u64 (0-(IntKind.wrap .u64 x))) (2^32)))])),(ofN 1))).bind fun x0=>
 some (x0.1,x0.2.1,x0.2.2)
 else
  (YM (false,(ofN (qa [(IntKind.wrap .u32 (IntKind.wrap .u64 x)),(IntKind.wrap .u32 (Int.fdiv (IntKind.wrap .u64 x) (2^32)))])),(ofN 1))).bind fun x1=>
  some (x1.1,x1.2.1,x1.2.2))
def qme  (neg:Bool)(m:Int)(e:Int):Option ((Bool×(List Int)×List Int)×Int) :=
 (bif(decide (e<(-8192)))then
 some ((false,[],[]),(31:Int))
 else
  (bif(decide (8192<e))then
  some ((false,[],[]),(31:Int))
 else
  (qhT ((ofN (qa [(IntKind.wrap .u32 m),(IntKind.wrap .u32 (Int.fdiv m (2^32)))])),e)).bind fun x0=>
  (qhT ((ofN 1),(IntKind.wrap .i64 (0-e)))).bind fun x1=>
  (YM (neg,x0.1,x1.1)).bind fun x2=>
  some ((x2.1,x2.2.1,x2.2.2),(0:Int))))
def qCt  (a:(Bool×(List Int)×List Int)):Option (Bool×(List Int)×List Int) :=
 (YM ((!a.1),a.2.1,a.2.2)).bind fun x0=>
 some (x0.1,x0.2.1,x0.2.2)
def RAbs  (a:(Bool×(List Int)×List Int)):Option (Bool×(List Int)×List Int) :=
 (YM (false,a.2.1,a.2.2)).bind fun x0=>
 some (x0.1,x0.2.1,x0.2.2)
def okRt(a:Rt):Bool:=okL a.2.1&&okL a.2.2
def JQ(a:Rt):Rt:=Qr a.1 (qa a.2.1) (qa a.2.2)
def qmf(a:Rt):Rt:=Qr (!a.1) (qa a.2.1) (qa a.2.2)
def qrM(a:Rt):Rt:=Qr false (qa a.2.1) (qa a.2.2)
theorem Y9{neg:Bool}{a b:List Int}(h:(okL a&&okL b)=true):YM (neg,a,b)=some (Qr neg (qa a) (qa b)):=by
 unfold YM;simp only[];rw[h,zd]
def Za(a:Rt):Option Rt:=bif okRt a then some (JQ a)else none
theorem qzn(a y:Rt)(hg:(d1 cRt).good a)(h:Za a=some y):RLow a=some y:=by
 obtain⟨h1,h⟩:=qi h;have:=soi h;subst this
 exact obB (Y9 h1) rfl
def qcO(a:Rt):Option Rt:=bif okRt a then some (qmf a)else none
theorem quA(a y:Rt)(hg:(d1 cRt).good a)(h:qcO a=some y):qCt a=some y:=by
 obtain⟨h1,h⟩:=qi h;have:=soi h;subst this
 exact obB (Y9 h1) rfl
def Zb(a:Rt):Option Rt:=bif okRt a then some (qrM a)else none
theorem qzo(a y:Rt)(hg:(d1 cRt).good a)(h:Zb a=some y):RAbs a=some y:=by
 obtain⟨h1,h⟩:=qi h;have:=soi h;subst this
 exact obB (Y9 h1) rfl
theorem qdw(r:Nat)(h:r<18446744073709551616):qa [IntKind.u32.wrap (r:Int),IntKind.u32.wrap (Int.fdiv (r:Int) (2^32))]=r:=by
 have e1:IntKind.u32.wrap (r:Int)=((r % 4294967296:Nat):Int):=by rw[wrap_u32];omega
 have e2:Int.fdiv (r:Int) (2^32)=((r / 4294967296:Nat):Int):=by
  have:=qaI r 32;rwa [show(2:Nat)^32=4294967296 from rfl]at this
 have e3:IntKind.u32.wrap ((r / 4294967296:Nat):Int)=((r / 4294967296:Nat):Int):=qn0 (by omega) (by omega)
 rw[e1,e2,e3];simp only[qa,zl];omega
theorem qcP{r:Nat}(h:r<18446744073709551616):okL (ofN r)=true:=zn (zU (Jk (k:=2) (by simpa using h)) (by omega))
def quB(x:Int):Option Rt:=some (Qr (decide (x<0)) x.natAbs 1)
theorem qzp(x:Int)(y:Rt)(hg:(d1 (cI .i64)).good x)(h:quB x=some y):qEb x=some y:=by
 have:=soi h;subst this
 have hx:=YK.1 hg;unfold qEb;by_cases h0:x<0
 · have e1:IntKind.u64.wrap (0-IntKind.u64.wrap x)=((x.natAbs:Nat):Int):=by rw[wrap_u64,wrap_u64];omega
   rw[zf h0,zd,e1,qdw _ (by omega)];refine obB (Y9 (by rw[qcP (by omega),qcP (by omega)];rfl)) ?_
   rw[valN_ofN,valN_ofN]
 · have e1:IntKind.u64.wrap x=((x.natAbs:Nat):Int):=by rw[wrap_u64];omega
   rw[zk h0,zh,e1,qdw _ (by omega)];refine obB (Y9 (by rw[qcP (by omega),qcP (by omega)];rfl)) ?_
   rw[valN_ofN,valN_ofN]
theorem qzq{m s k:Nat}(h:qo m+s≤32*k):(ofN (m*2^s)).length≤k:=by
 refine Jk ?_
 have h2:=K8 (qcz m) (zK s)
 rw[← zW]at h2;rw[Zt];exact Ki h2 (Kf (by omega) h)
theorem qpU{m s:Nat}(h:qo m+s≤65536):qa (qrK m s).1=m*2^s∧okL (qrK m s).1=true:=by
 rw[qpK];unfold qpJ;by_cases h0:m=0
 · subst h0
   rw[Kp rfl];exact⟨by simp[qa],rfl⟩
 · rw[zZ h0,zZ (by omega)]
   refine⟨valN_ofN _,?_⟩
   exact zn (zU (qzq (k:=2048) h) (by omega))
theorem quC{m:Nat}{e:Int}(h:m<18446744073709551616):qhT (ofN m,e)=some (qrK m (max e 0).toNat):=by
 unfold qhT;simp only[valN_ofN];rw[qn8,zn (zU (Jk (k:=2) (by simpa using h)) (by omega)),zd]
def qEc(neg:Bool)(m e:Int):Rt×Int:=if e < -8192∨8192<e then((false,[],[]),31)else(Qr neg (m.toNat*2^(max e 0).toNat) (2^(max (-e) 0).toNat),0)
def dyL:{f:Bool→Int→Int→Rt×Int // ∀b m e,f b m e=qEc b m e}:=Classical.choice ⟨⟨_,fun _ _ _=>rfl⟩⟩
def dyV(neg:Bool)(m e:Int):Rt×Int:=dyL.1 neg m e
theorem quD(neg:Bool)(m e:Int):dyV neg m e=qEc neg m e:=dyL.2 neg m e
theorem qjJ:okS []=true:=by rw[qn8];rfl
def qbg(p:Bool×Int×Int):Option (Rt×Int):=bif okS []then some (dyV p.1 p.2.1 p.2.2)else none
theorem quE(p:Bool×Int×Int)(y:Rt×Int)(hg:(dc cB (dc (cI .u64) (d1 (cI .i64)))).good p)(h:qbg p=some y):qme p.1 p.2.1 p.2.2=some y:=by
 obtain⟨neg,m,e⟩:=p;obtain⟨_,h⟩:=qi h;have:=soi h;subst this
 obtain⟨_,hm,he⟩:=hg;have hm:0≤m∧m<18446744073709551616:=QJ.1 hm
 have he : -9223372036854775808≤e∧e<9223372036854775808:=YK.1 he
 obtain⟨M,rfl⟩:∃M:Nat,m=(M:Int):=⟨m.toNat,by omega⟩
 have hM:M<18446744073709551616:=by omega
 show qme neg (M:Int) e=some (dyV neg (M:Int) e)
 rw[quD];show qme neg (M:Int) e=some (if e < -8192∨8192<e then((false,[],[]),31)else(Qr neg ((M:Int).toNat*2^(max e 0).toNat) (2^(max (-e) 0).toNat),0))
 unfold qme;by_cases h1:e < -8192
 · rw[Kp (.inl h1),zf h1,zd]
 · by_cases h2:8192<e
   · rw[Kp (.inr h2),zk h1,zh,zf h2,zd]
   · have hb:qo M≤64:=yC.2 (by simpa using hM)
     have e1:IntKind.i64.wrap (0-e) = -e:=by rw[w64 (by omega) (by omega)];omega
     obtain⟨v1,o1⟩:=qpU (m:=M) (s:=(max e 0).toNat) (by omega)
     obtain⟨v2,o2⟩:=qpU (m:=1) (s:=(max (-e) 0).toNat) (by have:qo 1=1:=rfl;omega)
     rw[zZ (by omega),zk h1,zh,zk h2,zh,qdw M hM,e1,zl];refine obB (quC hM) (obB (quC (by omega)) (obB (Y9 (by rw[o1,o2];rfl)) ?_))
     rw[v1,v2,KU]
end
end Su
end
section
namespace Su
open Go Fly
noncomputable section
def qEd  (a:(Bool×(List Int)×List Int))(b:(Bool×(List Int)×List Int)):Option (Bool×(List Int)×List Int) :=
 (Za (a.1,a.2.1,a.2.2)).bind fun x0=>
 (Za (b.1,b.2.1,b.2.2)).bind fun x1=>
 (qaH (x0.2.1,x1.2.1)).bind fun x2=>
 (qaH (x0.2.2,x1.2.2)).bind fun x3=>
 (YM ((!(decide (x0.1=x1.1))),x2,x3)).bind fun x4=>
 some (x4.1,x4.2.1,x4.2.2)
def qEe  (a:(Bool×(List Int)×List Int))(b:(Bool×(List Int)×List Int)):Option (Bool×(List Int)×List Int) :=
 (Za (a.1,a.2.1,a.2.2)).bind fun x0=>
 (Za (b.1,b.2.1,b.2.2)).bind fun x1=>
 (qaH (x0.2.1,x1.2.2)).bind fun x2=>
 (qaH (x1.2.1,x0.2.2)).bind fun x3=>
 (qaH (x0.2.2,x1.2.2)).bind fun x4=>
 (bif(decide (x0.1=x1.1))then
 (ql3 (x2,x3)).bind fun x5=>
 (YM (x0.1,x5,x4)).bind fun x6=>
 some (x6.1,x6.2.1,x6.2.2)
 else
  (qhV (x2,x3)).bind fun x7=>
  (bif x7.2 then
  (YM (x0.1,x7.1,x4)).bind fun x8=>
  some (x8.1,x8.2.1,x8.2.2)
 else
  (qhV (x3,x2)).bind fun x9=>
  (YM (x1.1,x9.1,x4)).bind fun x10=>
  some (x10.1,x10.2.1,x10.2.2)))
def qEf  (a:(Bool×(List Int)×List Int))(b:(Bool×(List Int)×List Int)):Option Int :=
 (Za (a.1,a.2.1,a.2.2)).bind fun x0=>
 (Za (b.1,b.2.1,b.2.2)).bind fun x1=>
 (bif(!(decide (x0.1=x1.1)))then
 (bif x0.1 then
 some (-1)
 else
  some 1)
 else
  (qaH (x0.2.1,x1.2.2)).bind fun x2=>
  (qaH (x1.2.1,x0.2.2)).bind fun x3=>
  (bif x0.1 then
  some (IntKind.wrap .i64 (0-(JC (qa x2) (qa x3))))
 else
  some (JC (qa x2) (qa x3))))
def ok4(a:Rt):Bool:=Nat.ble a.2.1.length 400000&&Nat.ble a.2.2.length 400000
def nu(a:Rt):Nat:=qa a.2.1
def de(a:Rt):Nat:=qa a.2.2
structure Tidy (a:Rt):Prop where
 wn:Wd a.2.1
 wd:Wd a.2.2
 ln:a.2.1.length≤400000
 ld:a.2.2.length≤400000
theorem qmg{neg:Bool}{a b:List Int}(ha:Wd a)(hb:Wd b)(h1:a.length≤400000)(h2:b.length≤400000):Tidy (Qr neg (qa a) (qa b)):=by
 rw[Z3];unfold qew;by_cases h:qa a=0∨qa b=0
 · rw[Kp h]
   exact⟨.nil,ZY 1,Va _,zU (Jk (v:=1) (k:=1) (by decide)) (by omega)⟩
 · rw[zZ h]
   exact⟨ZY _,ZY _,zU (Zv (VG _ _)) (zU (jD a ha) h1),zU (Zv (VG _ _)) (zU (jD b hb) h2)⟩
theorem qbh{a:Rt}(hg:cRt.good a)(h:ok4 a=true):Za a=some (JQ a)∧Tidy (JQ a):=by
 unfold ok4 at h;rw[zm]at h;have h1:=zo h.1;have h2:=zo h.2;refine⟨?_,qmg (Wd.of hg.2.1.1) (Wd.of hg.2.2.1) h1 h2⟩
 unfold Za okRt okL;rw[zn (by omega),zn (by omega)];rfl
theorem qb0{a b:List Int}(ha:Wd a)(hb:Wd b)(h1:a.length≤400000)(h2:b.length≤400000):qaH (a,b)=some (ofN (qa a*qa b))∧(ofN (qa a*qa b)).length≤800000:=by
 constructor
 · unfold qaH
   simp only[];rw[zn (by omega),zd]
 · refine zU (Jk (k:=a.length+b.length) ?_) (by omega)
   rw[zW];have ha':=jo a ha;have hb':=jo b hb;exact Nat.mul_lt_mul'' ha' hb'
def rmul(a b:Rt):Rt:=Qr (!decide ((JQ a).1=(JQ b).1)) (nu (JQ a)*nu (JQ b)) (de (JQ a)*de (JQ b))
def quF(p:Rt×Rt):Option Rt:=bif ok4 p.1&&ok4 p.2 then some (rmul p.1 p.2)else none
theorem qzr(p:Rt×Rt)(y:Rt)(hg:(dc cRt (d1 cRt)).good p)(h:quF p=some y):qEd p.1 p.2=some y:=by
 obtain⟨a,b⟩:=p;obtain⟨h1,h⟩:=qi h;have:=soi h;subst this
 rw[zm]at h1;obtain⟨s1,t1⟩:=qbh hg.1 h1.1;obtain⟨s2,t2⟩:=qbh hg.2 h1.2;obtain⟨m1,l1⟩:=qb0 t1.wn t2.wn t1.ln t2.ln;obtain⟨m2,l2⟩:=qb0 t1.wd t2.wd t1.ld t2.ld;show qEd a b=some (rmul a b)
 refine obB s1 (obB s2 (obB m1 (obB m2 (obB (Y9 (by unfold okL;rw[zn (by omega),zn (by omega)];rfl)) ?_))))
 rw[valN_ofN,valN_ofN];rfl
def qob(x y:Rt):Rt :=
 bif decide (x.1=y.1)then Qr x.1 (nu x*de y+nu y*de x) (de x*de y)
 else bif decide (nu y*de x≤nu x*de y)then Qr x.1 (nu x*de y-nu y*de x) (de x*de y)
 else Qr y.1 (nu y*de x-nu x*de y) (de x*de y)
def qrN(a b:Rt):Rt:=qob (JQ a) (JQ b)
def Z4(p:Rt×Rt):Option Rt:=bif ok4 p.1&&ok4 p.2 then some (qrN p.1 p.2)else none
theorem qaL{a:List Int}(h:a.length≤1000000):okL a=true:=zn h
theorem qzs{p q k:Nat}(h1:(ofN p).length≤k)(h2:(ofN q).length≤k):(ofN (p+q)).length≤k+1:=by
 refine Jk ?_
 have h3:=@Jb p
 have h4:=@Jb q
 have h5:4294967296^(ofN p).length≤4294967296^k:=Kf (by omega) h1
 have h6:4294967296^(ofN q).length≤4294967296^k:=Kf (by omega) h2
 rw[Kx];generalize (4294967296:Nat)^k=P at *
 omega
theorem qEg{p q:Nat}(h1:(ofN p).length≤800000)(h2:(ofN q).length≤800000):ql3 (ofN p,ofN q)=some (ofN (p+q))∧(ofN (p+q)).length≤1000000:=by
 constructor
 · unfold ql3
   simp only[valN_ofN];rw[zn (by omega),zd]
 · exact zU (qzs h1 h2) (by omega)
theorem quG{p q:Nat}(h1:(ofN p).length≤800000):qhV (ofN p,ofN q)=some (if p<q then([],false)else(ofN (p-q),true)):=by
 unfold qhV;simp only[valN_ofN];rw[zn (by omega),zd]
theorem qzt(p:Rt×Rt)(y:Rt)(hg:(dc cRt (d1 cRt)).good p)(h:Z4 p=some y):qEe p.1 p.2=some y:=by
 obtain⟨a,b⟩:=p;obtain⟨h1,h⟩:=qi h;have:=soi h;subst this
 rw[zm]at h1;obtain⟨s1,t1⟩:=qbh hg.1 h1.1;obtain⟨s2,t2⟩:=qbh hg.2 h1.2;obtain⟨m1,l1⟩:=qb0 t1.wn t2.wd t1.ln t2.ld;obtain⟨m2,l2⟩:=qb0 t2.wn t1.wd t2.ln t1.ld;obtain⟨m3,l3⟩:=qb0 t1.wd t2.wd t1.ld t2.ld;show qEe a b=some (qob (JQ a) (JQ b))
 refine obB s1 (obB s2 (obB m1 (obB m2 (obB m3 ?_))))
 clear s1 s2 m1 m2 m3 h1 hg;unfold qob nu de;generalize JQ a=x at *
 generalize JQ b=y at *
 cases decide (x.1=y.1)with
 | true=>
  rw[zd,zd];obtain⟨a1,a2⟩:=qEg l1 l2;refine obB a1 (obB (Y9 (by rw[qaL a2,qaL (by omega)];rfl)) ?_)
  rw[valN_ofN,valN_ofN]
 | false=>
  rw[zh,zh];refine obB (quG l1) ?_
  by_cases hlt:qa x.2.1*qa y.2.2<qa y.2.1*qa x.2.2
  · rw[Kp hlt,zk (by omega),zh,zh]
    refine obB (quG l2) ?_
    rw[zZ (by omega)];have h5:(ofN (qa y.2.1*qa x.2.2-qa x.2.1*qa y.2.2)).length≤800000:=zU (Zv (Nat.sub_le _ _)) l2
    refine obB (Y9 (Wh.2 ⟨qaL (zU h5 (by omega)),qaL (zU l3 (by omega))⟩)) ?_
    rw[valN_ofN,valN_ofN]
  · rw[zZ hlt,zf (by omega),zd,zd]
    have h5:(ofN (qa x.2.1*qa y.2.2-qa y.2.1*qa x.2.2)).length≤800000:=zU (Zv (Nat.sub_le _ _)) l1
    refine obB (Y9 (Wh.2 ⟨qaL (zU h5 (by omega)),qaL (zU l3 (by omega))⟩)) ?_
    rw[valN_ofN,valN_ofN]
def rcm(x y:Rt):Int:=bif !decide (x.1=y.1)then(bif x.1 then -1 else 1)else bif x.1 then -JC (nu x*de y) (nu y*de x)else JC (nu x*de y) (nu y*de x)
def quH(a b:Rt):Int:=rcm (JQ a) (JQ b)
def qaM(p:Rt×Rt):Option Int:=bif ok4 p.1&&ok4 p.2 then some (quH p.1 p.2)else none
theorem quI(a b:Nat) : -1≤JC a b∧JC a b≤1:=by
 unfold JC;by_cases h:a<b
 · rw[Kp h];omega
 · rw[zZ h]
   by_cases h2:a=b
   · rw[Kp h2];omega
   · rw[zZ h2];omega
theorem qzu(p:Rt×Rt)(y:Int)(hg:(dc cRt (d1 cRt)).good p)(h:qaM p=some y):qEf p.1 p.2=some y:=by
 obtain⟨a,b⟩:=p;obtain⟨h1,h⟩:=qi h;have:=soi h;subst this
 rw[zm]at h1;obtain⟨s1,t1⟩:=qbh hg.1 h1.1;obtain⟨s2,t2⟩:=qbh hg.2 h1.2;obtain⟨m1,l1⟩:=qb0 t1.wn t2.wd t1.ln t2.ld;obtain⟨m2,l2⟩:=qb0 t2.wn t1.wd t2.ln t1.ld;show qEf a b=some (rcm (JQ a) (JQ b))
 refine obB s1 (obB s2 ?_)
 clear s1 s2 h1 hg;unfold rcm nu de;generalize JQ a=x at *
 generalize JQ b=y at *
 cases decide (x.1=y.1)with
 | false=>
  rw[Kl,zd,zd];cases x.1 <;> rfl
 | true=>
  rw[Kh,zh,zh];refine obB m1 (obB m2 ?_)
  rw[valN_ofN,valN_ofN];have hc:=quI (qa x.2.1*qa y.2.2) (qa y.2.1*qa x.2.2)
  have e1:IntKind.i64.wrap (0-JC (qa x.2.1*qa y.2.2) (qa y.2.1*qa x.2.2)) = -JC (qa x.2.1*qa y.2.2) (qa y.2.1*qa x.2.2):=by
   rw[w64 (by omega) (by omega)];omega
  rw[e1];cases x.1 <;> rfl
end
end Su
end
section
namespace Su
open Go Fly
noncomputable section
def qEh  (a:(Bool×(List Int)×List Int))(b:(Bool×(List Int)×List Int)):Option (Bool×(List Int)×List Int) :=
 (qcO (b.1,b.2.1,b.2.2)).bind fun x0=>
 (Z4 ((a.1,a.2.1,a.2.2),x0.1,x0.2.1,x0.2.2)).bind fun x1=>
 some (x1.1,x1.2.1,x1.2.2)
def qEi  (f:Int):Option ((Bool×(List Int)×List Int)×Bool) :=
 (bif(decide ((((qE (bK f.toNat)):Nat):Int)=3))then
 (bif(decide ((((qE (bK f.toNat)):Nat):Int)=3))then
 some ((false,[],[]),false)
 else
  (qbg ((decide ((Int.fdiv f (2^63))=1)),(((spM (bK f.toNat)):Nat):Int),(spE (bK f.toNat)))).bind fun x0=>
  some ((x0.1.1,x0.1.2.1,x0.1.2.2),true))
 else
  (bif(decide ((((qE (bK f.toNat)):Nat):Int)=4))then
  some ((false,[],[]),false)
 else
  (qbg ((decide ((Int.fdiv f (2^63))=1)),(((spM (bK f.toNat)):Nat):Int),(spE (bK f.toNat)))).bind fun x1=>
  some ((x1.1.1,x1.1.2.1,x1.1.2.2),true)))
theorem qEj{a:Rt}(h:Tidy a):ok4 a=true:=by
 unfold ok4;rw[zn h.ln,zn h.ld];rfl
def qjK(a b:Rt):Rt:=qrN a (qmf b)
def qaN(p:Rt×Rt):Option Rt:=bif ok4 p.1&&ok4 p.2 then some (qjK p.1 p.2)else none
theorem qzv(p:Rt×Rt)(y:Rt)(hg:(dc cRt (d1 cRt)).good p)(h:qaN p=some y):qEh p.1 p.2=some y:=by
 obtain⟨a,b⟩:=p;obtain⟨h1,h⟩:=qi h;have:=soi h;subst this
 rw[zm]at h1;have h2:=h1.2;unfold ok4 at h2;rw[zm]at h2;have l1:=zo h2.1;have l2:=zo h2.2;have t:Tidy (qmf b):=qmg (Wd.of hg.2.2.1.1) (Wd.of hg.2.2.2.1) l1 l2
 have s1:qcO b=some (qmf b):=by
  unfold qcO okRt;rw[qaL (zU l1 (by omega)),qaL (zU l2 (by omega))];rfl
 have s2:Z4 (a,qmf b)=some (qjK a b):=by
  unfold Z4;simp only[];rw[h1.1,qEj t];rfl
 show qEh a b=some (qjK a b)
 exact obB s1 (obB s2 rfl)
def JR(f:Nat):Rt:=(dyV (bS f) ((spM (bK f):Nat):Int) (spE (bK f))).1
def Yz(f:Nat):Bool:=decide (((qE (bK f):Nat):Int)=3)||decide (((qE (bK f):Nat):Int)=4)
def QN(f:Int):Option (Rt×Bool):=bif okS []then some (bif Yz f.toNat then((false,[],[]),false)else(JR f.toNat,true))else none
theorem quJ(p:Bool×Int×Int):qbg p=some (dyV p.1 p.2.1 p.2.2):=by
 unfold qbg;rw[qjJ,zd]
theorem qzw(f:Int)(y:Rt×Bool)(hg:(d1 (cI .u64)).good f)(h:QN f=some y):qEi f=some y:=by
 obtain⟨n,rfl,hn⟩:=q9 hg;obtain⟨_,h⟩:=qi h;have:=soi h;subst this
 unfold qEi Yz JR;rw[zl,qn4 n hn];cases decide (((qE (bK n):Nat):Int)=3)with
 | true=>
  simp only[zd,Xb]
 | false=>
  cases decide (((qE (bK n):Nat):Int)=4)with
  | true=>simp only[zd,zh,Xk]
  | false=>
   simp only[zh,Xf];exact obB (quJ _) rfl
end
end Su
end
section
namespace Su
open Go Fly
noncomputable section
def qpV:(Int×(List Int)×Int×Int×Unit)→Option ((Int×(List Int)×Int×Int×Unit) ⊕ (Lp (Int×(List Int)×Int×Int×Unit) Int)):=fun p1=>(bif(decide (p1.2.2.2.1<p1.2.2.1))then
 (idx p1.2.1 p1.2.2.2.1).bind fun x2=>
 (bif(qP (bK x2.toNat))then
 some (.inr (.ret 9221120237041090560))
 else
  (bif(QX p1.1.toNat x2.toNat)then
  some (.inl (x2,p1.2.1,p1.2.2.1,(IntKind.wrap .i64 (p1.2.2.2.1+1)),()))
 else
  some (.inl (p1.1,p1.2.1,p1.2.2.1,(IntKind.wrap .i64 (p1.2.2.2.1+1)),()))))
 else
  some (.inr (.exit 0 (p1.1,p1.2.1,p1.2.2.1,p1.2.2.2.1,()))))
def qEk  (fu:Nat)(l:(List Int)):Option Int :=
 (bif(decide ((List.length l:Int)=0))then
 some 9221120237041090560
 else
  (idx l 0).bind fun x0=>
  (itP fu (qpV) (x0,l,(List.length l:Int),(0:Int),())).bind fun x3=>
  (match x3 with
 | .exit i4 p5=>(bif(Nat.beq i4 0)then
  some p5.1
 else none)
 | .ret o6=>some o6))
def qpW:(Int×(List Int)×Int×Int×Unit)→Option ((Int×(List Int)×Int×Int×Unit) ⊕ (Lp (Int×(List Int)×Int×Int×Unit) Int)):=fun p1=>(bif(decide (p1.2.2.2.1<p1.2.2.1))then
 (idx p1.2.1 p1.2.2.2.1).bind fun x2=>
 (bif(qP (bK x2.toNat))then
 some (.inr (.ret 9221120237041090560))
 else
  (bif(QX x2.toNat p1.1.toNat)then
  some (.inl (x2,p1.2.1,p1.2.2.1,(IntKind.wrap .i64 (p1.2.2.2.1+1)),()))
 else
  some (.inl (p1.1,p1.2.1,p1.2.2.1,(IntKind.wrap .i64 (p1.2.2.2.1+1)),()))))
 else
  some (.inr (.exit 0 (p1.1,p1.2.1,p1.2.2.1,p1.2.2.2.1,()))))
def qEl  (fu:Nat)(l:(List Int)):Option Int :=
 (bif(decide ((List.length l:Int)=0))then
 some 9221120237041090560
 else
  (idx l 0).bind fun x0=>
  (itP fu (qpW) (x0,l,(List.length l:Int),(0:Int),())).bind fun x3=>
  (match x3 with
 | .exit i4 p5=>(bif(Nat.beq i4 0)then
  some p5.1
 else none)
 | .ret o6=>some o6))
def quK(l:List Int):Option Int:=match l with
 | [a,b]=>some (qlV a.toNat b.toNat:Int)
 | _=>none
def quL(l:List Int):Option Int:=match l with
 | [a,b]=>some (minN a.toNat b.toNat:Int)
 | _=>none
theorem qCu:IntKind.i64.wrap (0+1)=1:=by decide
theorem qCv:IntKind.i64.wrap (1+1)=2:=by decide
theorem qzx(l:List Int)(y:Int)(hg:(d1 (cQ 2 1)).good l)(h:quK l=some y):∃n,qEk n l=some y:=by
 match l,h with
 | [a,b],h=>
  have:=soi h;subst this
  obtain⟨A,rfl,hA⟩:=q9 (hg.1 a (zu ..))
  obtain⟨B,rfl,hB⟩:=q9 (hg.1 b (zp _ (zu ..)))
  refine⟨3,?_⟩
  unfold qEk qlV;have i0:idx [(A:Int),(B:Int)] 0=some (A:Int):=rfl
  have i1:idx [(A:Int),(B:Int)] 1=some (B:Int):=rfl
  simp only[zq,zB,i0,zi,qC,qpV,zl,qCu];have d0:decide (((0+1+1:Nat):Int)=0)=false:=by decide
  have d1:decide ((0:Int)<((0+1+1:Nat):Int))=true:=by decide
  have d2:decide ((1:Int)<((0+1+1:Nat):Int))=true:=by decide
  have d3:decide ((2:Int)<((0+1+1:Nat):Int))=false:=by decide
  rw[d0,d1];cases ha:qP (bK A)with
  | true=>rfl
  | false=>
   simp only[zd,zh,VL];cases hAA:QX A A <;> (
    simp only[zd,zh,zi,d2,i1,zl];cases hb:qP (bK B)with
    | true=>rfl
    | false=>
     simp only[zd,zh];cases hAB:QX A B <;> (
      simp only[zd,zh,zi,qCv,d3];rfl))
theorem qzy(l:List Int)(y:Int)(hg:(d1 (cQ 2 1)).good l)(h:quL l=some y):∃n,qEl n l=some y:=by
 match l,h with
 | [a,b],h=>
  have:=soi h;subst this
  obtain⟨A,rfl,hA⟩:=q9 (hg.1 a (zu ..))
  obtain⟨B,rfl,hB⟩:=q9 (hg.1 b (zp _ (zu ..)))
  refine⟨3,?_⟩
  unfold qEl minN;have i0:idx [(A:Int),(B:Int)] 0=some (A:Int):=rfl
  have i1:idx [(A:Int),(B:Int)] 1=some (B:Int):=rfl
  simp only[zq,zB,i0,zi,qC,qpW,zl,qCu];have d0:decide (((0+1+1:Nat):Int)=0)=false:=by decide
  have d1:decide ((0:Int)<((0+1+1:Nat):Int))=true:=by decide
  have d2:decide ((1:Int)<((0+1+1:Nat):Int))=true:=by decide
  have d3:decide ((2:Int)<((0+1+1:Nat):Int))=false:=by decide
  rw[d0,d1];cases ha:qP (bK A)with
  | true=>rfl
  | false=>
   simp only[zd,zh,VL];cases hAA:QX A A <;> (
    simp only[zd,zh,zi,d2,i1,zl];cases hb:qP (bK B)with
    | true=>rfl
    | false=>
     simp only[zd,zh];cases hAB:QX B A <;> (
      simp only[zd,zh,zi,qCv,d3];rfl))
end
end Su
end
section
namespace Su
open Go Fly
noncomputable section
def qEm  (f:Int):Option Bool :=
 (bif(!(decide ((((qE (bK f.toNat)):Nat):Int)=4)))then
 some (!(decide ((((qE (bK f.toNat)):Nat):Int)=3)))
 else
  some false)
def quM  (f:Int):Option Bool :=
 some (decide ((((qE (bK f.toNat)):Nat):Int)=0))
theorem obs{α β:Type}{a:Option α}{f:α→Option β}{t:α}{r:Option β}(h:a=some t)(h2:f t=r):a.bind f=r:=by rw[h];exact h2
def quN(f:Int):Option Bool:=some (jT (bK f.toNat))
def qpX(f:Int):Option Bool:=some (Nat.beq (bK f.toNat) 0)
theorem qzz(f:Int)(y:Bool)(hg:(d1 (cI .u64)).good f)(h:quN f=some y):qEm f=some y:=by
 have:=soi h;subst this
 unfold qEm;rw[← qpD];cases decide (((qE (bK f.toNat):Nat):Int)=4)with
 | true=>rw[Kh,zh,qHG]
 | false=>rw[Kl,zd,zN]
theorem quO(f:Int)(y:Bool)(hg:(d1 (cI .u64)).good f)(h:qpX f=some y):quM f=some y:=by
 have:=soi h;subst this
 unfold quM;rw[qge]
end
end Su
end
section
namespace Su
noncomputable section
open Go Fly
def qe(a:Int×Int):Nat:=18446744073709551616*a.1.toNat+a.2.toNat
theorem QO(a:Int×Int):qe a=a.1.toNat*18446744073709551616+a.2.toNat:=by unfold qe;rw[zL]
def hiW(n:Nat):Int:=((n / 18446744073709551616 % 18446744073709551616:Nat):Int)
def loW(n:Nat):Int:=((n % 18446744073709551616:Nat):Int)
def subL:{f:Nat→Nat→Nat // ∀x y,f x y=x+340282366920938463463374607431768211456-y}:=Classical.choice ⟨⟨_,fun _ _=>rfl⟩⟩
def JE(x y:Nat):Nat:=subL.1 x y
theorem qe2(x y:Nat):JE x y=x+340282366920938463463374607431768211456-y:=subL.2 x y
theorem pw{r:Nat}(hr:r≤64):2^(64-r)*2^r=18446744073709551616:=by
 rw[← zW,WQ hr]
theorem quP(H L r:Nat)(hr:r≤64)(hL:L<18446744073709551616) :
 (H*2^r) % 18446744073709551616 ||| L / 2^(64-r)=(H*18446744073709551616+L)*2^r / 18446744073709551616 % 18446744073709551616∧L*2^r % 18446744073709551616=(H*18446744073709551616+L)*2^r % 18446744073709551616:=by
 have hW:=pw hr;have hR:=zK r;have hQ:=zK (64-r)
 have hx:L / 2^(64-r)<2^r:=by rw[KP hQ,zL,hW];exact hL
 have h1:H*2^r % 18446744073709551616=H % 2^(64-r)*2^r:=by rw[← hW,WW]
 refine⟨?_,?_⟩
 · rw[h1,qeZ hx]
   have h2:(H*18446744073709551616+L)*2^r / 18446744073709551616=H*2^r+L / 2^(64-r):=by
    have:(H*18446744073709551616+L)*2^r=L*2^r+18446744073709551616*(H*2^r):=by
     rw[zV,VO,zL (H*2^r)];omega
    rw[this,VU _ _ (by decide)];have h3:L*2^r / 18446744073709551616=L / 2^(64-r):=by rw[← hW,WV _ _ hR]
    omega
   rw[h2];have h4:=Vb H (2^(64-r))
   have h5:H*2^r=18446744073709551616*(H / 2^(64-r))+H % 2^(64-r)*2^r:=by
    conv=>lhs;rw[← h4]
    rw[zV,VO,hW]
   rw[h5,KD,Xh];have h6:H % 2^(64-r)*2^r+L / 2^(64-r)<18446744073709551616:=by
    have h7:=Vr H hQ;have h8:(H % 2^(64-r)+1)*2^r≤2^(64-r)*2^r:=zH _ h7
    rw[hW,zV]at h8;omega
   rw[KA h6]
 · have:(H*18446744073709551616+L)*2^r=18446744073709551616*(H*2^r)+L*2^r:=by
    rw[zV,VO,zL (H*2^r)]
   rw[this,Xh]
theorem quQ(H L r:Nat)(hr:r≤64)(hH:H<18446744073709551616)(hL:L<18446744073709551616) :
 H / 2^r=(H*18446744073709551616+L) / 2^r / 18446744073709551616 % 18446744073709551616∧L / 2^r ||| (H*2^(64-r)) % 18446744073709551616=(H*18446744073709551616+L) / 2^r % 18446744073709551616 ∧
 (L*2^(64-r) % 18446744073709551616=0↔(H*18446744073709551616+L) % 2^r=0):=by
 have hW:2^r*2^(64-r)=18446744073709551616:=by rw[zL];exact pw hr
 have hR:=zK r;have hQ:=zK (64-r)
 have hx:L / 2^r<2^(64-r):=by rw[KP hR,zL,hW];exact hL
 have h1:H*2^(64-r) % 18446744073709551616=H % 2^r*2^(64-r):=by rw[← hW,WW]
 have hv:H*18446744073709551616+L=L+2^r*(H*2^(64-r)):=by
  rw[← hW,WB,Wz]
 have hd:(H*18446744073709551616+L) / 2^r=H*2^(64-r)+L / 2^r:=by
  rw[hv,VU _ _ hR,Wz]
 refine⟨?_,?_,?_⟩
 · rw[Kv,zL (2^r),← Kv]
   have:(H*18446744073709551616+L) / 18446744073709551616=H:=by omega
   rw[this,KA];exact KX (VG _ _) hH
 · rw[h1,qjy hx,hd]
   have h4:=Vb H (2^r)
   have h5:H*2^(64-r)=18446744073709551616*(H / 2^r)+H % 2^r*2^(64-r):=by
    conv=>lhs;rw[← h4]
    rw[zV,VO,hW]
   rw[h5,KD,Xh];have h6:H % 2^r*2^(64-r)+L / 2^r<18446744073709551616:=by
    have h7:=Vr H hR;have h8:(H % 2^r+1)*2^(64-r)≤2^r*2^(64-r):=zH _ h7
    rw[hW,zV]at h8;omega
   rw[KA h6]
 · have e1:L*2^(64-r) % 18446744073709551616=L % 2^r*2^(64-r):=by rw[← hW,WW]
   have e2:(H*18446744073709551616+L) % 2^r=L % 2^r:=by rw[hv,Ww]
   rw[e1,e2];constructor
   · intro h
     rcases X5.1 h with h | h
     · exact h
     · omega
   · intro h;rw[h,Vo]
theorem quR(a b:Nat)(ha:a<18446744073709551616)(hb:b<18446744073709551616) :
 let x0:=a % 4294967296;let x1:=a / 4294967296;let y0:=b % 4294967296;let y1:=b / 4294967296
 let t:=x1*y0+x0*y0 / 4294967296
 let w1:=t % 4294967296+x0*y1
 x1*y1+t / 4294967296+w1 / 4294967296=a*b / 18446744073709551616∧x0*y0<18446744073709551616∧t<18446744073709551616∧w1<18446744073709551616∧x1*y1+t / 4294967296+w1 / 4294967296<18446744073709551616∧x1*y0<18446744073709551616∧x0*y1<18446744073709551616∧x1*y1+t / 4294967296<18446744073709551616∧x1*y1<18446744073709551616:=by
 intro x0 x1 y0 y1 t w1;have hx0:x0≤4294967295:=by omega
 have hx1:x1≤4294967295:=by omega
 have hy0:y0≤4294967295:=by omega
 have hy1:y1≤4294967295:=by omega
 have ha':a=x1*4294967296+x0:=by omega
 have hb':b=y1*4294967296+y0:=by omega
 have h00:x0*y0≤4294967295*4294967295:=Vd hx0 hy0
 have h10:x1*y0≤4294967295*4294967295:=Vd hx1 hy0
 have h01:x0*y1≤4294967295*4294967295:=Vd hx0 hy1
 have h11:x1*y1≤4294967295*4294967295:=Vd hx1 hy1
 have hab:a*b=x1*y1*18446744073709551616+(x1*y0+x0*y1)*4294967296+x0*y0:=by
  rw[ha',hb',zV,KO,KO];have e1:x1*4294967296*(y1*4294967296)=x1*y1*18446744073709551616:=by
   rw[Nat.mul_mul_mul_comm]
  have e2:x1*4294967296*y0=x1*y0*4294967296:=VO _ _ _
  have e3:x0*(y1*4294967296)=x0*y1*4294967296:=(zR _ _ _).symm
  rw[e1,e2,e3];generalize x1*y1=p at *
  generalize x1*y0=q at *
  generalize x0*y1=s at *
  generalize x0*y0=u at *
  omega
 rw[hab];show x1*y1+(x1*y0+x0*y0 / 4294967296) / 4294967296+((x1*y0+x0*y0 / 4294967296) % 4294967296+x0*y1) / 4294967296=_∧x0*y0<_∧x1*y0+x0*y0 / 4294967296<_∧(x1*y0+x0*y0 / 4294967296) % 4294967296+x0*y1<_∧x1*y1+(x1*y0+x0*y0 / 4294967296) / 4294967296+((x1*y0+x0*y0 / 4294967296) % 4294967296+x0*y1) / 4294967296<_∧x1*y0<_∧x0*y1<_∧x1*y1+(x1*y0+x0*y0 / 4294967296) / 4294967296<_∧x1*y1<_
 generalize x1*y1=p at *
 generalize x1*y0=q at *
 generalize x0*y1=s at *
 generalize x0*y0=u at *
 clear ha' hb' hab;omega
end
end Su
end
