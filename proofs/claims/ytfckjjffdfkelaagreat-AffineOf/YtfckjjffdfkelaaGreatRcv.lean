/-
  Bits and rounding, in plain Lean. No condition.
-/
import Derived.Test.YtfckjjffdfkelaaGreatRay
import Derived.Test.YtfckjjffdfkelaaGreatNC19
import Derived.Test.YtfckjjffdfkelaaGreatSuSd
import Derived.Test.YtfckjjffdfkelaaGreatNC26
set_option linter.unusedVariables false
set_option linter.unusedSimpArgs false
set_option maxRecDepth 10000
section
namespace Su
open Go Fly
noncomputable section
def awI(a b:Int):Int:=mxI (Jc a (qam b) 1) (Jc b (qam a) 1)
def jnD(f:Int→Int→Int)(e x y:Int):Int×Int:=(f x y,e)
def YG(e x y:Int):Int×Int:=(0,bif decide (x=0)then e else upI [e,awI x y])
theorem qfg{m:Int}(wm:Fw m)(fm:fI m=true):Up (qam m) (-fv m.toNat):=by
 obtain⟨k1,k2⟩:=qqq (qh5 wm) (yf.1 fm)
 refine .inl ⟨yf.2 (by unfold qam;rw[zl];exact k1),?_⟩
 unfold qam;rw[zl,k2];exact Vy _
theorem qCH{a b:Int}(wa:Fw a)(fa:fI a=true)(wb:Fw b)(fb:fI b=true):Up (awI a b) ((fv a.toNat-fv b.toNat).natAbs:Int):=by
 obtain⟨u1,u2⟩:=qvX (Z8 wa (qgw wb) 1) (Z8 wb (qgw wa) 1) (YC (JW fa) (qfg wb fb)) (YC (JW fb) (qfg wa fa))
 have e:awI a b=mxI (Jc a (qam b) 1) (Jc b (qam a) 1):=rfl
 rw[← e]at u1 u2;by_cases h:0≤fv a.toNat-fv b.toNat
 · exact qfe u1 (by omega)
 · exact qfe u2 (by omega)
theorem qG7{a b:Int}(ha:Fw a)(hb:Fw b)(na:ZA a=false)(nb:ZA b=false):Fw (mxI a b):=by
 rw[qCB ha hb na nb];by_cases h:ky a<ky b
 · rw[Kp h];exact hb
 · rw[zZ h];exact ha
theorem qCI{a b:Int}(wa:Fw a)(fa:fI a=true)(wb:Fw b)(fb:fI b=true):Fw (awI a b) :=
 qG7 (Z8 wa (qgw wb) 1) (Z8 wb (qgw wa) 1) (qkd (YC (JW fa) (qfg wb fb))) (qkd (YC (JW fb) (qfg wa fa)))
theorem qdG(f:Int→Int→Int→Int×Int)(k:Nat)(e:Int):qh f k [] [] e=([],e):=by cases k <;> rfl
theorem ZB(f:Int→Int→Int→Int×Int)(k:Nat)(a b:Tm)(l m:List Tm)(e:Int)(h:a.id=b.id):qh f (k+1) (a::l) (b::m) e=jM a.id (f e a.c b.c) (qh f k l m):=by
 simp only[qh,zk (show¬a.id<b.id by omega),zk (show¬b.id<a.id by omega),zh]
theorem qaV(f:Int→Int→Int→Int×Int)(k:Nat)(a b:Tm)(l m:List Tm)(e:Int)(h:a.id<b.id):qh f (k+1) (a::l) (b::m) e=jM a.id (f e a.c 0) (qh f k l (b::m)):=by
 simp only[qh,zf h,zd]
theorem ZC(f:Int→Int→Int→Int×Int)(k:Nat)(a b:Tm)(l m:List Tm)(e:Int)(h:b.id<a.id):qh f (k+1) (a::l) (b::m) e=jM b.id (f e 0 b.c) (qh f k (a::l) m):=by
 simp only[qh,zk (show¬a.id<b.id by omega),zf h,zd,zh]
theorem qox(f:Int→Int→Int→Int×Int):∀(n:Nat) (l m:List Tm) (e:Int),qh f n l m e=qh (fun e x y=>f e y x) n m l e:=by
 intro n;induction n with
 | zero=>intro l m e;rfl
 | succ n ih=>
  intro l m e;have st:∀(id:Int) (r:Int×Int) (g h:Int→List Tm×Int),(∀e,g e=h e)→jM id r g=jM id r h:=fun id r g h hh=>by unfold jM;rw[hh]
  match l,m with
  | [],[]=>rfl
  | a::l,[]=>exact st _ _ _ _ fun e=>ih l [] e
  | [],b::m=>exact st _ _ _ _ fun e=>ih [] m e
  | a::l,b::m=>
   by_cases h1:a.id<b.id
   · rw[qaV _ _ _ _ _ _ _ h1,ZC _ _ _ _ _ _ _ h1]
     exact st _ _ _ _ fun e=>ih l (b::m) e
   · by_cases h2:b.id<a.id
     · rw[ZC _ _ _ _ _ _ _ h2,qaV _ _ _ _ _ _ _ h2]
       exact st _ _ _ _ fun e=>ih (a::l) m e
     · have hid:a.id=b.id:=by omega
       rw[ZB _ _ _ _ _ _ _ hid,ZB _ _ _ _ _ _ _ hid.symm,hid];exact st _ _ _ _ fun e=>ih l m e
theorem qAd{nz:Int→Int}(hz:Nz8 nz){f:Int→Int→Int}(h0:∀x,f x 0=0)(h1:∀y,f 0 y=0)(hf:∀x y,(Fw x∧fI x=true)→(Fw y∧fI y=true)→Fw (f x y)∧fI (f x y)=true)(z:Int) :
 ∀(n:Nat) (l m:List Tm) (k:Nat) (e E:Int),l.length+m.length≤n→l.length+(qh (jnD f) n l m z).1.length≤k→(∀t∈l,Fw t.c∧fI t.c=true)→(∀t∈m,Fw t.c∧fI t.c=true)→Up e E →
 ∃D:Int,0≤D∧Up (qh YG k l (qh (jnD f) n l m z).1 e).2 (E+D)∧((lnS nz (qh (jnD f) n l m z).1-lnS nz l).natAbs:Int)≤8*D:=by
 intro n;induction n with
 | zero=>
  intro l m k e E hn hk hl hm he;have e1:l=[]:=Ka.1 (by omega)
  have e2:m=[]:=Ka.1 (by omega)
  subst e1 e2
  rw[show(qh (jnD f) 0 [] [] z).1=[] from rfl,qdG];exact⟨0,by omega,by rw[XA];exact he,by show((0-0:Int).natAbs:Int)≤8*0;decide⟩
 | succ n ih=>
  intro l m k e E hn hk hl hm he
  -- both have the ID
  have both:∀(a:Tm) (l' m':List Tm) (y:Int),l'.length+m'.length≤n→(∀t∈a::l',Fw t.c∧fI t.c=true)→(∀t∈m',Fw t.c∧fI t.c=true)→(Fw y∧fI y=true) →
   (a::l').length+(jM a.id (jnD f z a.c y) (qh (jnD f) n l' m')).1.length≤k →
   ∃D:Int,0≤D∧Up (qh YG k (a::l') (jM a.id (jnD f z a.c y) (qh (jnD f) n l' m')).1 e).2 (E+D)∧((lnS nz (jM a.id (jnD f z a.c y) (qh (jnD f) n l' m')).1-lnS nz (a::l')).natAbs:Int)≤8*D:=by
   intro a l' m' y hn' hl' hm' hy hk';have ha:=hl' a (zu ..)
   have er:(jM a.id (jnD f z a.c y) (qh (jnD f) n l' m')).1=⟨a.id,f a.c y⟩::(qh (jnD f) n l' m' z).1:=rfl
   rw[er]at hk' ⊢;simp only[zq]at hk';obtain⟨k',rfl⟩:∃k',k=k'+1:=⟨k-1,by omega⟩
   rw[ZB YG k' a ⟨a.id,f a.c y⟩ l' _ e rfl];have hc:=hf a.c y ha hy;have s1:∃D:Int,0≤D∧Up (YG e a.c (f a.c y)).2 (E+D)∧((fv (f a.c y).toNat-fv a.c.toNat).natAbs:Int)≤D:=by
    unfold YG;by_cases hx:a.c=0
    · rw[hx,zf rfl,h1]
      exact⟨0,by omega,by rw[XA];exact he,by omega⟩
    · rw[zk hx]
      refine⟨_,by omega,qAc he (qCH ha.1 ha.2 hc.1 hc.2),by omega⟩
   obtain⟨D1,a0,a1,a2⟩:=s1;obtain⟨D2,b0,b1,b2⟩:=ih l' m' k' (YG e a.c (f a.c y)).2 (E+D1) hn' (by omega) (fun t ht=>hl' t (zp _ ht)) hm' a1
   refine⟨D1+D2,by omega,by rw[← Int.add_assoc];exact b1,?_⟩
   show((fv (f a.c y).toNat*nz a.id+lnS nz (qh (jnD f) n l' m' z).1-(fv a.c.toNat*nz a.id+lnS nz l')).natAbs:Int)≤_
   have kk:=Zg a2 (hz a.id).1 (hz a.id).2
   rw[Int.sub_mul]at kk;omega
  -- the other one alone has it
  have other:∀(b:Tm) (l' m':List Tm),l'.length+m'.length≤n→(∀t∈l',Fw t.c∧fI t.c=true)→(∀t∈m',Fw t.c∧fI t.c=true)→(∀a r,l'=a::r→b.id<a.id) →
   l'.length+(jM b.id (jnD f z 0 b.c) (qh (jnD f) n l' m')).1.length≤k →
   ∃D:Int,0≤D∧Up (qh YG k l' (jM b.id (jnD f z 0 b.c) (qh (jnD f) n l' m')).1 e).2 (E+D)∧((lnS nz (jM b.id (jnD f z 0 b.c) (qh (jnD f) n l' m')).1-lnS nz l').natAbs:Int)≤8*D:=by
   intro b l' m' hn' hl' hm' hb hk';have er:(jM b.id (jnD f z 0 b.c) (qh (jnD f) n l' m')).1=⟨b.id,0⟩::(qh (jnD f) n l' m' z).1:=by
    show(⟨b.id,f 0 b.c⟩:Tm)::(qh (jnD f) n l' m' z).1=_
    rw[h1]
   rw[er]at hk' ⊢;simp only[zq]at hk';obtain⟨k',rfl⟩:∃k',k=k'+1:=⟨k-1,by omega⟩
   obtain⟨D2,b0,b1,b2⟩:=ih l' m' k' e E hn' (by omega) hl' hm' he
   have em:(qh YG (k'+1) l' (⟨b.id,0⟩::(qh (jnD f) n l' m' z).1) e).2=(qh YG k' l' (qh (jnD f) n l' m' z).1 e).2:=by
    match l',hb with
    | [],_=>rfl
    | a::r,hb=>rw[ZC _ _ _ _ _ _ _ (show(⟨b.id,0⟩:Tm).id<a.id from hb a r rfl)];rfl
   rw[em];refine⟨D2,b0,b1,?_⟩
   show((fv (0:Int).toNat*nz b.id+lnS nz (qh (jnD f) n l' m' z).1-lnS nz l').natAbs:Int)≤_
   rw[fv_0,qHO,WP];exact b2
  match l,m,hn with
  | [],[],_=>
   rw[qdG,qdG];exact⟨0,by omega,by rw[XA];exact he,by show((0-0:Int).natAbs:Int)≤8*0;decide⟩
  | a::l,[],hn=>exact both a l [] 0 (by simp at hn ⊢;omega) hl hm ⟨qgv,rfl⟩ hk
  | [],b::m,hn=>exact other b [] m (by simp at hn ⊢;omega) hl (fun t ht=>hm t (zp _ ht)) (fun a r h=>by cases h) hk
  | a::l,b::m,hn=>
   simp only[zq]at hn;by_cases g1:a.id<b.id
   · rw[qaV (jnD f) _ _ _ _ _ _ g1]at hk ⊢
     exact both a l (b::m) 0 (by simp only[zq];omega) hl hm ⟨qgv,rfl⟩ hk
   · by_cases g2:b.id<a.id
     · rw[ZC (jnD f) _ _ _ _ _ _ g2]at hk ⊢
       exact other b (a::l) m (by simp only[zq];omega) hl (fun t ht=>hm t (zp _ ht)) (fun a' r h=>by cases h;exact g2) hk
     · have hid:a.id=b.id:=by omega
       rw[ZB (jnD f) _ _ _ _ _ _ hid]at hk ⊢;exact both a l m b.c (by omega) hl (fun t ht=>hm t (zp _ ht)) (hm b (zu ..)) hk
theorem qAe:∀(k:Nat) (l m:List Tm) (e:Int),Fw e→(∀t∈l,Fw t.c∧fI t.c=true)→(∀t∈m,Fw t.c∧fI t.c=true)→Fw (qh YG k l m e).2:=by
 intro k;induction k with
 | zero=>intro l m e he _ _;exact he
 | succ k ih=>
  intro l m e he hl hm;have one:∀(id x y:Int) (l' m':List Tm),(Fw x∧fI x=true)→(Fw y∧fI y=true)→(∀t∈l',Fw t.c∧fI t.c=true)→(∀t∈m',Fw t.c∧fI t.c=true)→Fw (jM id (YG e x y) (qh YG k l' m')).2:=by
   intro id x y l' m' hx hy hl' hm';refine ih l' m' (YG e x y).2 ?_ hl' hm'
   unfold YG;cases decide (x=0)with
   | true=>exact he
   | false=>exact qqp he (qCI hx.1 hx.2 hy.1 hy.2)
  match l,m with
  | [],[]=>exact he
  | a::l,[]=>exact one a.id a.c 0 l [] (hl a (zu ..)) ⟨qgv,rfl⟩ (fun t ht=>hl t (zp _ ht)) hm
  | [],b::m=>exact one b.id 0 b.c [] m ⟨qgv,rfl⟩ (hm b (zu ..)) hl (fun t ht=>hm t (zp _ ht))
  | a::l,b::m=>
   by_cases g1:a.id<b.id
   · rw[qaV _ _ _ _ _ _ _ g1]
     exact one a.id a.c 0 l (b::m) (hl a (zu ..)) ⟨qgv,rfl⟩ (fun t ht=>hl t (zp _ ht)) hm
   · by_cases g2:b.id<a.id
     · rw[ZC _ _ _ _ _ _ _ g2]
       exact one b.id 0 b.c (a::l) m ⟨qgv,rfl⟩ (hm b (zu ..)) hl (fun t ht=>hm t (zp _ ht))
     · rw[ZB _ _ _ _ _ _ _ (show a.id=b.id by omega)]
       exact one a.id a.c b.c l m (hl a (zu ..)) (hm b (zu ..)) (fun t ht=>hl t (zp _ ht)) (fun t ht=>hm t (zp _ ht))
theorem qr2{p:Int→Prop}(p0:p 0){f:Int→Int→Int}(hf:∀x y,p x→p y→p (f x y))(z:Int):∀(n:Nat) (l m:List Tm),(∀t∈l,p t.c)→(∀t∈m,p t.c)→∀t∈(qh (jnD f) n l m z).1,p t.c:=by
 intro n;induction n with
 | zero=>intro l m _ _ t ht;cases ht
 | succ n ih=>
  intro l m hl hm;have one:∀(id x y:Int) (l' m':List Tm),p x→p y→(∀t∈l',p t.c)→(∀t∈m',p t.c)→∀t∈(jM id (jnD f z x y) (qh (jnD f) n l' m')).1,p t.c:=by
   intro id x y l' m' hx hy hl' hm' t ht;rcases zJ.1 ht with rfl | ht
   · exact hf x y hx hy
   · exact ih l' m' hl' hm' t ht
  match l,m with
  | [],[]=>intro t ht;cases ht
  | a::l,[]=>exact one a.id a.c 0 l [] (hl a (zu ..)) p0 (fun t ht=>hl t (zp _ ht)) hm
  | [],b::m=>exact one b.id 0 b.c [] m p0 (hm b (zu ..)) hl (fun t ht=>hm t (zp _ ht))
  | a::l,b::m=>
   by_cases g1:a.id<b.id
   · rw[qaV _ _ _ _ _ _ _ g1]
     exact one a.id a.c 0 l (b::m) (hl a (zu ..)) p0 (fun t ht=>hl t (zp _ ht)) hm
   · by_cases g2:b.id<a.id
     · rw[ZC _ _ _ _ _ _ _ g2]
       exact one b.id 0 b.c (a::l) m p0 (hm b (zu ..)) hl (fun t ht=>hm t (zp _ ht))
     · rw[ZB _ _ _ _ _ _ _ (show a.id=b.id by omega)]
       exact one a.id a.c b.c l m (hl a (zu ..)) (hm b (zu ..)) (fun t ht=>hl t (zp _ ht)) (fun t ht=>hm t (zp _ ht))
def qgz(a:Fm)(r:List Tm)(mid:Int):Int:=upI [(qh YG (a.2.2.1.length+r.length) a.2.2.1 r (awI a.2.1 mid)).2,a.2.2.2]
def ZD(f:Int→Int→Int)(a b:Fm):List Tm:=(qh (jnD f) (a.2.2.1.length+b.2.2.1.length) a.2.2.1 b.2.2.1 0).1
def QP(f:Int→Int→Int)(a b:Fm):Fm:=bif okF a&&okF b then jR (false,qeC a.2.1 b.2.1,ZD f a b,mxI (qgz a (ZD f a b) (qeC a.2.1 b.2.1)) (qgz b (ZD f a b) (qeC a.2.1 b.2.1)))else qgX
structure Pick (f:Int→Int→Int):Prop where
 l:∀x,f x 0=0
 r:∀y,f 0 y=0
 o:∀x y,f x y=0∨f x y=x∨f x y=y
theorem Pick.swap{f:Int→Int→Int}(h:Pick f):Pick (fun x y=>f y x):=⟨h.r,h.l,fun x y=>(h.o y x).imp id Or.symm⟩
theorem Pick.all{f:Int→Int→Int}(h:Pick f){p:Int→Prop}(p0:p 0)(x y:Int)(hx:p x)(hy:p y):p (f x y):=by
 rcases h.o x y with e | e | e <;> rw[e] <;> assumption
theorem qqt{nz:Int→Int}(hz:Nz8 nz){f:Int→Int→Int}(hf:Pick f){a:Fm}{m:List Tm}{X mid z:Int}{n:Nat}(ha:okF a=true)(wa:FmW a)(hm:∀t∈m,Fw t.c∧fI t.c=true)(wm:Fw mid)(fm:fI mid=true)
 (hn:a.2.2.1.length+m.length≤n) (hX:qbx nz a X 1):Fw (qgz a (qh (jnD f) n a.2.2.1 m z).1 mid) ∧
 ∃S:Int,Up (qgz a (qh (jnD f) n a.2.2.1 m z).1 mid) S∧((8*fv mid.toNat+lnS nz (qh (jnD f) n a.2.2.1 m z).1-X).natAbs:Int)≤8*S:=by
 obtain⟨fa,Fa⟩:=yR ha;have hX:=hX.resolve_left (by rw[fa];simp)
 have hl:∀t∈a.2.2.1,Fw t.c∧fI t.c=true:=fun t ht=>⟨wa.tms t ht,Fa.tms t ht⟩
 have hr:=qr2 (p:=fun c=>Fw c∧fI c=true) ⟨qgv,rfl⟩ (f:=f) (fun x y hx hy=>hf.all (p:=fun c=>Fw c∧fI c=true) ⟨qgv,rfl⟩ x y hx hy) z n a.2.2.1 m hl hm
 have e0:=qCH wa.mid Fa.mid wm fm;obtain⟨D,d0,d1,d2⟩:=qAd hz hf.l hf.r (fun x y hx hy=>hf.all (p:=fun c=>Fw c∧fI c=true) ⟨qgv,rfl⟩ x y hx hy) z n a.2.2.1 m (a.2.2.1.length+(qh (jnD f) n a.2.2.1 m z).1.length) (awI a.2.1 mid) _ hn (zE _) hl hm e0
 refine⟨qqp (qAe _ _ _ _ (qCI wa.mid Fa.mid wm fm) hl hr) wa.err,_,qAc d1 (qEV ha),?_⟩
 unfold smN at hX;simp only[XJ]at hX;omega
theorem qgA{nz:Int→Int}(hz:Nz8 nz){f:Int→Int→Int}(hf:Pick f){a b:Fm}{X Y:Int}(ha:okF a=true)(hb:okF b=true)(wa:FmW a)(wb:FmW b)(hX:qbx nz a X 1)(hY:qbx nz b Y 1) :
 qbx nz (QP f a b) X 1∧qbx nz (QP f a b) Y 1:=by
 cases hc:(QP f a b).1 with
 | true=>exact⟨.inl hc,.inl hc⟩
 | false=>
  unfold QP at hc ⊢
  rw[ha,hb]at hc ⊢;simp only[zY,zd]at hc ⊢;obtain⟨fm,fe,ft,e⟩:=qgy hc;rw[e];have Fa:=(yR ha).2
  have Fb:=(yR hb).2
  have wmul:∀ {a:Int},Fw a→Fw (yP a 4602678819172646912 0):=fun {a} ha=>qj8 (qzL 0)
  have wm:Fw (qeC a.2.1 b.2.1):=Z8 (wmul wa.mid) (wmul wb.mid) 0
  have eb:ZD f a b=(qh (jnD fun x y=>f y x) (a.2.2.1.length+b.2.2.1.length) b.2.2.1 a.2.2.1 0).1:=congrArg Prod.fst (qox (jnD f) _ _ _ _)
  obtain⟨w1,S1,u1,g1⟩:=qqt hz hf (m:=b.2.2.1) (mid:=qeC a.2.1 b.2.1) (z:=0) (n:=a.2.2.1.length+b.2.2.1.length) ha wa (fun t ht=>⟨wb.tms t ht,Fb.tms t ht⟩) wm fm (zE _) hX
  obtain⟨w2,S2,u2,g2⟩:=qqt hz hf.swap (m:=a.2.2.1) (mid:=qeC a.2.1 b.2.1) (z:=0) (n:=a.2.2.1.length+b.2.2.1.length) hb wb (fun t ht=>⟨wa.tms t ht,Fa.tms t ht⟩) wm fm (by omega) hY
  rw[← eb]at w2 u2 g2;change Fw (qgz a (ZD f a b) _)at w1
  change Up (qgz a (ZD f a b) _) S1 at u1
  change ((_+lnS nz (ZD f a b)-X).natAbs:Int)≤_ at g1
  obtain⟨v1,v2⟩:=qvX w1 w2 u1 u2;have v1:=qqs v1 fe;have v2:=qqs v2 fe;refine⟨.inr ?_,.inr ?_⟩
  all_goals
   unfold smN;simp only[qvU,qff,XJ];omega
theorem qr3{nz:Int→Int}{a:Fm}{X e:Int}(ha:okF a=true)(wa:FmW a)(fe:fI e=true)(hX:qbx nz a X 1):qbx nz (jR (a.1,a.2.1,a.2.2.1,upI [a.2.2.2,qcY e])) X 1:=by
 obtain⟨fa,Fa⟩:=yR ha;have hX:=hX.resolve_left (by rw[fa];simp)
 rw[fa];cases hc:(jR (false,a.2.1,a.2.2.1,upI [a.2.2.2,qcY e])).1 with
 | true=>exact .inl hc
 | false=>
  right;obtain⟨fm,fe',ft,ee⟩:=qgy hc;rw[ee];obtain⟨k1,k2⟩:=qka fe;have u:=qAc (qEV ha) (JW k1)
  have u:=qqs u fe';unfold smN at hX ⊢
  simp only[qvU,qff,XJ]at hX ⊢;omega
theorem qqu(nz:Int→Int){l m:List Tm}(h:l.Perm m):lnS nz l=lnS nz m:=by
 induction h with
 | nil=>rfl
 | cons x _ ih=>show _+lnS nz _=_+lnS nz _;rw[ih]
 | swap x y l=>show _+(_+lnS nz l)=_+(_+lnS nz l);omega
 | trans _ _ h1 h2=>rw[h1,h2]
theorem qvY(nz:Int→Int):∀l m:List Tm,lnS nz (l++m)=lnS nz l+lnS nz m
 | [],m=>by show _=0+_;rw[WP];rfl
 | t::l,m=>by show _+lnS nz (l++m)=_+lnS nz l+lnS nz m;rw[qvY nz l m];omega
def qke(K:Tm→Bool):List Tm→Int→Int
 | [],e=>e
 | t::l,e=>qke K l (bif K t then e else upI [e,qcY t.c])
theorem qoy{nz:Int→Int}(hz:Nz8 nz)(K:Tm→Bool):∀(l:List Tm) (e E:Int),(∀t∈l,fI t.c=true)→Up e E→∃D:Int,0≤D∧Up (qke K l e) (E+D)∧((lnS nz (l.filter fun t=>!K t)).natAbs:Int)≤8*D
 | [],e,E,_,he=>⟨0,by omega,by rw[XA];exact he,by show((0:Int).natAbs:Int)≤_;decide⟩
 | t::l,e,E,hl,he=>by
  have ft:=hl t (zu ..)
  have hl':∀t∈l,fI t.c=true:=fun t ht=>hl t (zp _ ht)
  unfold qke;rw[VT];cases hk:K t with
  | true=>
   rw[Kh,zZ (by simp)];exact qoy hz K l e E hl' he
  | false=>
   rw[Kl,Kp rfl];obtain⟨k1,k2⟩:=qka ft;have u:=qAc he (JW k1)
   rw[k2]at u;obtain⟨D,d0,d1,d2⟩:=qoy hz K l _ _ hl' u;refine⟨(avF t.c:Int)+D,by omega,by rw[← Int.add_assoc];exact d1,?_⟩
   show((fv t.c.toNat*nz t.id+lnS nz (l.filter fun t=>!K t)).natAbs:Int)≤_
   have kk:=Zg (d:=fv t.c.toNat) (D:=(avF t.c:Int)) (by unfold avF;omega) (hz t.id).1 (hz t.id).2
   omega
theorem qr4{nz:Int→Int}(hz:Nz8 nz){a:Fm}{X:Int}{K:Tm→Bool}{l:List Tm}(ha:okF a=true)(wa:FmW a)(hK:l.Perm (a.2.2.1.filter K))(hX:qbx nz a X 1):qbx nz (jR (false,a.2.1,l,qke K a.2.2.1 a.2.2.2)) X 1:=by
 obtain⟨fa,Fa⟩:=yR ha;have hX:=hX.resolve_left (by rw[fa];simp)
 cases hc:(jR (false,a.2.1,l,qke K a.2.2.1 a.2.2.2)).1 with
 | true=>exact .inl hc
 | false=>
  right;obtain⟨fm,fe',ft,ee⟩:=qgy hc;rw[ee];obtain⟨D,d0,d1,d2⟩:=qoy hz K a.2.2.1 _ _ Fa.tms (qEV ha)
  have d1:=qqs d1 fe';have h1:=qqu nz hK;have h2:=qqu nz (List.filter_append_perm K a.2.2.1)
  rw[qvY]at h2;unfold smN at hX ⊢
  simp only[qvU,qff,XJ]at hX ⊢;omega
end
end Su
end
section
namespace Su
open Go Fly
noncomputable section
theorem qCJ{σ:Type}{F:σ→Option (σ ⊕ σ)}{mk:List Tm→List Tm→Int→List Tm→σ}{f:Int→Int→Int→Int×Int}{B:Nat}
 (h0:∀e A,F (mk [] [] e A)=some (.inr (mk [] [] e A)))
 (h1:∀x l e A,A.length+1≤B→F (mk (x::l) [] e A)=some (.inl (mk l [] (f e x.c 0).2 (A++[⟨x.id,(f e x.c 0).1⟩]))))
 (h2:∀y m e A,A.length+1≤B→F (mk [] (y::m) e A)=some (.inl (mk [] m (f e 0 y.c).2 (A++[⟨y.id,(f e 0 y.c).1⟩]))))
 (h3:∀x l y m e A,A.length+1≤B→decide (x.id<y.id)=true→F (mk (x::l) (y::m) e A)=some (.inl (mk l (y::m) (f e x.c 0).2 (A++[⟨x.id,(f e x.c 0).1⟩]))))
 (h4:∀x l y m e A,A.length+1≤B→decide (x.id<y.id)=false→decide (y.id<x.id)=true→F (mk (x::l) (y::m) e A)=some (.inl (mk (x::l) m (f e 0 y.c).2 (A++[⟨y.id,(f e 0 y.c).1⟩]))))
 (h5:∀x l y m e A,A.length+1≤B→decide (x.id<y.id)=false→decide (y.id<x.id)=false→F (mk (x::l) (y::m) e A)=some (.inl (mk l m (f e x.c y.c).2 (A++[⟨x.id,(f e x.c y.c).1⟩])))) :
 ∀(n:Nat) (l m:List Tm) (e:Int) (A:List Tm),l.length+m.length≤n→A.length+n≤B→∃fu,itP fu F (mk l m e A)=some (mk [] [] (qh f n l m e).2 (A++(qh f n l m e).1)):=by
 intro n;induction n with
 | zero=>
  intro l m e A h hA;have e1:l=[]:=Ka.1 (by omega)
  have e2:m=[]:=Ka.1 (by omega)
  subst e1 e2
  refine⟨1,?_⟩
  rw[qC,h0];show _=some (mk [] [] e (A++[]))
  rw[zO];rfl
 | succ n ih=>
  intro l m e A h hA;have go:∀(l' m':List Tm) (id:Int) (r:Int×Int),l'.length+m'.length≤n→F (mk l m e A)=some (.inl (mk l' m' r.2 (A++[⟨id,r.1⟩])))→qh f (n+1) l m e=jM id r (qh f n l' m') →
   ∃fu,itP fu F (mk l m e A)=some (mk [] [] (qh f (n+1) l m e).2 (A++(qh f (n+1) l m e).1)):=by
   intro l' m' id r hl' hstep hm;obtain⟨fu,q⟩:=ih l' m' r.2 (A++[⟨id,r.1⟩]) hl' (by simp;omega)
   refine⟨fu+1,?_⟩
   rw[qC,hstep,hm];simp only[zi,jM];rw[q];simp only[Ke,WY]
  match l,m,h with
  | [],[],h=>
   refine⟨1,?_⟩
   rw[qC,h0];show _=some (mk [] [] e (A++[]))
   rw[zO];rfl
  | x::l,[],h=>exact go l [] x.id (f e x.c 0) (by simp at h ⊢;omega) (h1 x l e A (by omega)) rfl
  | [],y::m,h=>exact go [] m y.id (f e 0 y.c) (by simp at h ⊢;omega) (h2 y m e A (by omega)) rfl
  | x::l,y::m,h=>
   simp only[zq]at h;cases g1:decide (x.id<y.id)with
   | true=>exact go l (y::m) x.id (f e x.c 0) (by simp only[zq];omega) (h3 x l y m e A (by omega) g1) (by simp only[qh,g1,zd])
   | false=>
    cases g2:decide (y.id<x.id)with
    | true=>exact go (x::l) m y.id (f e 0 y.c) (by simp only[zq];omega) (h4 x l y m e A (by omega) g1 g2) (by simp only[qh,g1,g2,zd,zh])
    | false=>exact go l m x.id (f e x.c y.c) (by omega) (h5 x l y m e A (by omega) g1 g2) (by simp only[qh,g1,g2,zh])
theorem subT(L:List Tm)(n:Nat)(h:n≤L.length):Su.sub (L.map vT) 0 n=some ((L.take n).map vT):=by
 unfold Su.sub;rw[zQ,zn (by rw[zr];exact h),zd,WH,qHJ]
end
end Su
end
section
namespace Su
open Go Fly
noncomputable section
abbrev jE:=((List Tm)×(List Tm)×Nat×Int×(List T)×Unit)
def Qh :=
 fun(p5017:jE) x5018=>
 (bif(true&&((true&&(decide (1≤(List.length p5017.2.1:Int))))&&(decide ((List.length p5017.2.1:Int)≤(List.length p5017.2.1:Int)))))then
 (bif((true&&(Nat.beq p5017.2.2.1 p5017.2.2.2.2.1.length))&&(Nat.ble (p5017.2.2.2.2.1.length+(List.length [(T.agg [(T.s (.int .i64 (Tm.id x5018))),(T.s (.int .u64 0))])])) 549755813888))then
 some (.inl (p5017.1,(List.take (Int.toNat ((List.length p5017.2.1:Int)-1)) (List.drop 1 p5017.2.1)),(List.length (p5017.2.2.2.2.1++[(T.agg [(T.s (.int .i64 (Tm.id x5018))),(T.s (.int .u64 0))])])),p5017.2.2.2.1,(p5017.2.2.2.2.1++[(T.agg [(T.s (.int .i64 (Tm.id x5018))),(T.s (.int .u64 0))])]),()))
 else none)
 else
  none:Option (jE ⊕ jE))
def Qj :=
 fun(p5013:jE)=>
 (bif(decide ((List.length p5013.1:Int)=0))then
 (idx p5013.2.1 0).bind fun x7=>
 (idx p5013.2.1 0).bind fun x8=>
 (Qh p5013 x7)
 else
  (idx p5013.2.1 0).bind fun x9=>
  (idx p5013.1 0).bind fun x10=>
  (bif(decide ((Tm.id x9)<(Tm.id x10)))then
  (idx p5013.2.1 0).bind fun x11=>
  (idx p5013.2.1 0).bind fun x12=>
  (Qh p5013 x11)
 else
  (idx p5013.1 0).bind fun x13=>
  (idx p5013.1 0).bind fun x14=>
  (idx p5013.2.1 0).bind fun x15=>
  (bif(true&&((true&&(decide (1≤(List.length p5013.1:Int))))&&(decide ((List.length p5013.1:Int)≤(List.length p5013.1:Int)))))then
  (bif(true&&((true&&(decide (1≤(List.length p5013.2.1:Int))))&&(decide ((List.length p5013.2.1:Int)≤(List.length p5013.2.1:Int)))))then
  (bif(!(decide ((Tm.c x14)=0)))then
  (bif((true&&(Nat.beq p5013.2.2.1 p5013.2.2.2.2.1.length))&&(Nat.ble (p5013.2.2.2.2.1.length+(List.length [(T.agg [(T.s (.int .i64 (Tm.id x13))),(T.s (.int .u64 0))])])) 549755813888))then
  some (.inl ((List.take (Int.toNat ((List.length p5013.1:Int)-1)) (List.drop 1 p5013.1)),(List.take (Int.toNat ((List.length p5013.2.1:Int)-1)) (List.drop 1 p5013.2.1)),(List.length (p5013.2.2.2.2.1++[(T.agg [(T.s (.int .i64 (Tm.id x13))),(T.s (.int .u64 0))])])),(((upS 0 [p5013.2.2.2.1,(((qlV (Int.toNat (((Qt (Int.toNat (Tm.c x14)) (Int.toNat (((QS (Int.toNat (Tm.c x15))):Nat):Int)) 1):Nat):Int)) (Int.toNat (((Qt (Int.toNat (Tm.c x15)) (Int.toNat (((QS (Int.toNat (Tm.c x14))):Nat):Int)) 1):Nat):Int))):Nat):Int)]):Nat):Int),(p5013.2.2.2.2.1++[(T.agg [(T.s (.int .i64 (Tm.id x13))),(T.s (.int .u64 0))])]),()))
 else none)
 else
  (bif((true&&(Nat.beq p5013.2.2.1 p5013.2.2.2.2.1.length))&&(Nat.ble (p5013.2.2.2.2.1.length+(List.length [(T.agg [(T.s (.int .i64 (Tm.id x13))),(T.s (.int .u64 0))])])) 549755813888))then
  some (.inl ((List.take (Int.toNat ((List.length p5013.1:Int)-1)) (List.drop 1 p5013.1)),(List.take (Int.toNat ((List.length p5013.2.1:Int)-1)) (List.drop 1 p5013.2.1)),(List.length (p5013.2.2.2.2.1++[(T.agg [(T.s (.int .i64 (Tm.id x13))),(T.s (.int .u64 0))])])),p5013.2.2.2.1,(p5013.2.2.2.2.1++[(T.agg [(T.s (.int .i64 (Tm.id x13))),(T.s (.int .u64 0))])]),()))
 else none))
 else none)
 else none)):Option (jE ⊕ jE))
def Qk :=
 fun(p5014:jE) x5015 x5016=>
 (bif(true&&((true&&(decide (1≤(List.length p5014.1:Int))))&&(decide ((List.length p5014.1:Int)≤(List.length p5014.1:Int)))))then
 (bif(!(decide ((Tm.c x5015)=0)))then
 (bif((true&&(Nat.beq p5014.2.2.1 p5014.2.2.2.2.1.length))&&(Nat.ble (p5014.2.2.2.2.1.length+(List.length [(T.agg [(T.s (.int .i64 (Tm.id x5016))),(T.s (.int .u64 0))])])) 549755813888))then
 some (.inl ((List.take (Int.toNat ((List.length p5014.1:Int)-1)) (List.drop 1 p5014.1)),p5014.2.1,(List.length (p5014.2.2.2.2.1++[(T.agg [(T.s (.int .i64 (Tm.id x5016))),(T.s (.int .u64 0))])])),(((upS 0 [p5014.2.2.2.1,(((qlV (Int.toNat (((Qt (Int.toNat (Tm.c x5015)) (Int.toNat ((9223372036854775808:Nat):Int)) 1):Nat):Int)) (Int.toNat (((Qt (Int.toNat 0) (Int.toNat (((QS (Int.toNat (Tm.c x5015))):Nat):Int)) 1):Nat):Int))):Nat):Int)]):Nat):Int),(p5014.2.2.2.2.1++[(T.agg [(T.s (.int .i64 (Tm.id x5016))),(T.s (.int .u64 0))])]),()))
 else none)
 else
  (bif((true&&(Nat.beq p5014.2.2.1 p5014.2.2.2.2.1.length))&&(Nat.ble (p5014.2.2.2.2.1.length+(List.length [(T.agg [(T.s (.int .i64 (Tm.id x5016))),(T.s (.int .u64 0))])])) 549755813888))then
  some (.inl ((List.take (Int.toNat ((List.length p5014.1:Int)-1)) (List.drop 1 p5014.1)),p5014.2.1,(List.length (p5014.2.2.2.2.1++[(T.agg [(T.s (.int .i64 (Tm.id x5016))),(T.s (.int .u64 0))])])),p5014.2.2.2.1,(p5014.2.2.2.2.1++[(T.agg [(T.s (.int .i64 (Tm.id x5016))),(T.s (.int .u64 0))])]),()))
 else none))
 else
  none:Option (jE ⊕ jE))
def Ql :=
 fun(p5019:jE)=>
 bif(decide ((List.length p5019.2.1:Int)=0))then
 (idx p5019.1 0).bind fun x1=>
 (idx p5019.1 0).bind fun x2=>
 (Qk p5019 x2 x1)
 else
  (bif(decide (0<(List.length p5019.1:Int)))then
  (idx p5019.1 0).bind fun x3=>
  (idx p5019.2.1 0).bind fun x4=>
  (bif(decide ((Tm.id x3)<(Tm.id x4)))then
  (idx p5019.1 0).bind fun x5=>
  (idx p5019.1 0).bind fun x6=>
  (Qk p5019 x6 x5)
 else
  (Qj p5019))
 else
  (Qj p5019))
def Qf:jE→Option (jE ⊕ jE):=fun p0=>(bif(decide (0<(List.length p0.1:Int)))then
 (Ql p0)
 else
  (bif(decide (0<(List.length p0.2.1:Int)))then
  (Ql p0)
 else
  some (.inr (p0.1,p0.2.1,p0.2.2.1,p0.2.2.2.1,p0.2.2.2.2.1,()))))
def qAf  (fu:Nat)(a:Fm)(j:Fm):Option Int :=
 (itP fu (Qf) (a.2.2.1,j.2.2.1,0,(((qlV (Int.toNat (((Qt a.2.1.toNat (Int.toNat (QS j.2.1.toNat:Int)) 1):Nat):Int)) (Int.toNat (((Qt j.2.1.toNat (Int.toNat (QS a.2.1.toNat:Int)) 1):Nat):Int))):Nat):Int),[],())).bind fun x49=>
 some (upS 0 [x49.2.2.2.1,a.2.2.2]:Int)
abbrev MiS:=(List Tm)×((List Tm)×Nat×Int×(List T)×Unit)
def qmK(l m:List Tm)(e:Int)(A:List Tm):MiS:=(l,m,A.length,e,A.map vT,())
theorem qEW(l m:List Tm)(e:Int)(h:l.length+m.length≤549755813888):∃fu,itP fu Qf (qmK l m e [])=some (qmK [] [] (qh YG (l.length+m.length) l m e).2 ([]++(qh YG (l.length+m.length) l m e).1)):=by
 have hb:∀A:List Tm,A.length+1≤549755813888→Nat.ble (A.length+1) 549755813888=true:=fun A h=>zn h
 refine qCJ (mk:=qmK) (B:=549755813888) ?_ ?_ ?_ ?_ ?_ ?_ (l.length+m.length) l m e [] (zE _) (by simpa using h)
 · intro e A
   rfl
 · intro x l e A hA
   show Qf (x::l,[],A.length,e,A.map vT,())=_
   have hb:=hb A hA;cases hx:decide (x.c=0) <;> simp only[Qf,Ql,Qk,Qj,Qh,qmK,YG,zq,zB,yQ,hz0,hnz,hp0,JS,hle,QT,yD,hx,hb,zr,qx,zN,zG,Kh,Kl,zd,zh,zi,JT,JU] <;> rfl
 · intro y m e A hA
   show Qf ([],y::m,A.length,e,A.map vT,())=_
   have hb:=hb A hA;simp only[Qf,Ql,Qk,Qj,Qh,qmK,YG,zq,zB,yQ,hz0,hnz,hp0,JS,hle,QT,yD,hb,zr,qx,zN,zG,zd,zh,zi,JT,JU];rfl
 · intro x l y m e A hA h1
   show Qf (x::l,y::m,A.length,e,A.map vT,())=_
   have hb:=hb A hA;cases hx:decide (x.c=0) <;> simp only[Qf,Ql,Qk,Qj,Qh,qmK,YG,zq,zB,yQ,hz0,hnz,hp0,JS,hle,QT,yD,h1,hx,hb,zr,qx,zN,zG,Kh,Kl,zd,zh,zi,JT,JU] <;> rfl
 · intro x l y m e A hA h1 h2
   show Qf (x::l,y::m,A.length,e,A.map vT,())=_
   have hb:=hb A hA;simp only[Qf,Ql,Qk,Qj,Qh,qmK,YG,zq,zB,yQ,hz0,hnz,hp0,JS,hle,QT,yD,h1,h2,hb,zr,qx,zN,zG,zd,zh,zi,JT,JU];rfl
 · intro x l y m e A hA h1 h2
   show Qf (x::l,y::m,A.length,e,A.map vT,())=_
   have hb:=hb A hA;cases hx:decide (x.c=0) <;> simp only[Qf,Ql,Qk,Qj,Qh,qmK,YG,zq,zB,yQ,hz0,hnz,hp0,JS,hle,QT,yD,h1,h2,hx,hb,zr,qx,zN,zG,Kh,Kl,zd,zh,zi,JT,JU] <;> rfl
def qvZ(p:Fm×Fm):Option Int:=bif Nat.ble (p.1.2.2.1.length+p.2.2.2.1.length) 549755813888 then some (qgz p.1 p.2.2.2.1 p.2.2.1)else none
theorem qAg(p:Fm×Fm)(y:Int)(hg:(dc qB (d1 qB)).good p)(h:qvZ p=some y):∃n,qAf n p.1 p.2=some y:=by
 obtain⟨a,j⟩:=p;obtain⟨h1,h2⟩:=qi h;have:=soi h2;subst this
 obtain⟨n,hn⟩:=qEW a.2.2.1 j.2.2.1 (awI a.2.1 j.2.1) (zo h1)
 refine⟨n,?_⟩
 show qAf n a j=_
 unfold qAf;exact obs hn rfl
end
end Su
end
section
namespace Su
open Go Fly
noncomputable section
theorem Qa{α:Type}{b:Bool}{x y:α}(h:b=false):(bif b then x else y)=y:=by rw[h];rfl
theorem qH{α:Type}{b:Bool}{x y:α}(h:b=true):(bif b then x else y)=x:=by rw[h];rfl
theorem ok2{a b:Rt}{k m:Nat}(h:Sz a k)(h':Sz b m)(hk:k≤400000)(hm:m≤400000):(ok4 a&&ok4 b)=true:=by rw[h.ok4 hk,h'.ok4 hm];rfl
end
end Su
end
