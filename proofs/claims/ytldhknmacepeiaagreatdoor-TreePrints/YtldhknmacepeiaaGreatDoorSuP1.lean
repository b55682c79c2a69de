/-
  An evaluator, proved sound. No condition.
-/
import Derived.Test.YtldhknmacepeiaaGreatDoorSuP0
set_option linter.unusedVariables false
set_option linter.unusedSimpArgs false
namespace Su
open Go Fly
noncomputable section
theorem osm{α β:Type}{o:Option α}{f:α→Option β}{r:β}(h:o.bind f=some r):∃a,o=some a∧f a=some r:=by
 cases o with
 | none=>simp at h
 | some a=>exact⟨a,rfl,by simpa using h⟩
theorem qL{α:Type}{b:Bool}{x:Option α}{r:α}(h:(bif b then x else none)=some r):b=true∧x=some r:=by
 cases b with
 | true=>exact⟨rfl,h⟩
 | false=>simp at h
theorem qeO:∀(ys:List T) (xs:List SV),ZA ys.length (mpT ys++xs)=ys
 | [],_=>rfl
 | y::ys,xs=>by simp[ZA,mpT,tOf,qeO ys xs]
theorem qeP:∀(ys:List T) (xs:List SV),jT ys.length (mpT ys++xs)=xs
 | [],xs=>by cases xs <;> rfl
 | y::ys,xs=>by simp[jT,mpT,qeP ys xs]
theorem qax:∀(ys:List SV) (xs:List SV),J1 ys.length (ys++xs)=ys
 | [],_=>rfl
 | y::ys,xs=>by simp[J1,qax ys xs]
theorem qay:∀(ys:List SV) (xs:List SV),jT ys.length (ys++xs)=xs
 | [],xs=>by cases xs <;> rfl
 | y::ys,xs=>by simp[jT,qay ys xs]
theorem qvk{κ:IntKind}{sv:SV}{n:Int}(h:asI κ sv=some n):sv = .t (.s (.int κ n)):=by
 unfold asI at h;split at h
 · rename_i κ' m
   by_cases hk:κ'=κ
   · subst hk;simp at h;subst h;rfl
   · simp[hk]at h
 · simp at h
theorem qvl{sv:SV}{n:Bool}(h:asB sv=some n):sv = .t (.s (.bool n)):=by
 unfold asB at h;split at h <;> simp at h;subst h;rfl
theorem qpP{sv:SV}{n:ByteArray}(h:asS sv=some n):sv = .t (.s (.string n)):=by
 unfold asS at h;split at h <;> simp at h;subst h;rfl
theorem qpQ{u k:Nat}{sv:SV}{l:List (U u)}(h:qkw u k sv=some l):sv = .t (.ql u k l):=by
 unfold qkw at h;split at h
 · rename_i u' k' m
   split at h
   · rename_i hu
     subst hu;obtain⟨h1,h2⟩:=qL h;have:=zd h1;subst this
     simp only[za]at h2;subst h2;rfl
   · simp at h
 · simp at h
theorem qtv{v:Value}{x:SV}(h:qlL v x=true):x = .t (.s v):=by
 unfold qlL at h;split at h <;> first|rfl|simp at h
theorem qyp{y:T}{xs:List SV}:tOf ((SV.t y::xs).headD .bad)=y:=rfl
theorem qnR{y:SV}{xs:List SV}:jT 1 (y::xs)=xs:=by cases xs <;> rfl
theorem non{α:Type}{p:α}{C:Prop}(h:(none:Option α)=some p):C:=by cases h
theorem soi{α:Type}{a b:α}(h:some a=some b):a=b:=KV h
theorem qyq{κ:IntKind}{xs:List SV}{R A:Type}{k:List SV→Option R}{p:yc (.i κ) R}{u:R→List SV×A}{a:A}(h:pk1 (.i κ) xs k=some p)(hu:∀xs' q,k xs'=some q→u q=(xs',a)):un1 (.i κ) p u=(xs,a):=by
 cases xs with
 | nil=>exact non h
 | cons x xs=>
  have h:((asI κ x).bind fun n=>(k xs).bind fun p=>some (n,p))=some p:=h
  obtain⟨n,h1,h⟩:=osm h;obtain⟨q,h2,h⟩:=osm h;have:=soi h;subst this
  have:=qvk h1;subst this
  show(SV.t (.s (.int κ n))::(u q).1,(u q).2)=_
  rw[hu _ _ h2]
theorem qyr{xs:List SV}{R A:Type}{k:List SV→Option R}{p:yc (.b) R}{u:R→List SV×A}{a:A}(h:pk1 (.b) xs k=some p)(hu:∀xs' q,k xs'=some q→u q=(xs',a)):un1 (.b) p u=(xs,a):=by
 cases xs with
 | nil=>exact non h
 | cons x xs=>
  have h:((asB x).bind fun n=>(k xs).bind fun p=>some (n,p))=some p:=h
  obtain⟨n,h1,h⟩:=osm h;obtain⟨q,h2,h⟩:=osm h;have:=soi h;subst this
  have:=qvl h1;subst this
  show(SV.t (.s (.bool n))::(u q).1,(u q).2)=_
  rw[hu _ _ h2]
theorem qys{xs:List SV}{R A:Type}{k:List SV→Option R}{p:yc (.s) R}{u:R→List SV×A}{a:A}(h:pk1 (.s) xs k=some p)(hu:∀xs' q,k xs'=some q→u q=(xs',a)):un1 (.s) p u=(xs,a):=by
 cases xs with
 | nil=>exact non h
 | cons x xs=>
  have h:((asS x).bind fun n=>(k xs).bind fun p=>some (n,p))=some p:=h
  obtain⟨n,h1,h⟩:=osm h;obtain⟨q,h2,h⟩:=osm h;have:=soi h;subst this
  have:=qpP h1;subst this
  show(SV.t (.s (.string n))::(u q).1,(u q).2)=_
  rw[hu _ _ h2]
theorem qwv{v w:Nat}{xs:List SV}{R A:Type}{k:List SV→Option R}{p:yc (.ql v w) R}{u:R→List SV×A}{a:A}(h:pk1 (.ql v w) xs k=some p)(hu:∀xs' q,k xs'=some q→u q=(xs',a)):un1 (.ql v w) p u=(xs,a):=by
 cases xs with
 | nil=>exact non h
 | cons x xs=>
  have h:((qkw v w x).bind fun n=>(k xs).bind fun p=>some (n,p))=some p:=h
  obtain⟨n,h1,h⟩:=osm h;obtain⟨q,h2,h⟩:=osm h;have:=soi h;subst this
  have:=qpQ h1;subst this
  show(SV.t (.ql v w n)::(u q).1,(u q).2)=_
  rw[hu _ _ h2]
theorem qyt{x:Value}{xs:List SV}{R A:Type}{k:List SV→Option R}{p:yc (.v x) R}{u:R→List SV×A}{a:A}(h:pk1 (.v x) xs k=some p)(hu:∀xs' q,k xs'=some q→u q=(xs',a)):un1 (.v x) p u=(xs,a):=by
 cases xs with
 | nil=>exact non h
 | cons y xs=>
  have h:(bif qlL x y then k xs else none)=some p:=h
  obtain⟨h1,g⟩:=qL h;clear h;have:=qtv h1;subst this
  show(SV.t (.s x)::(u p).1,(u p).2)=_
  rw[hu _ _ g]
theorem qtw{n:Nat}{xs:List SV}{R A:Type}{k:List SV→Option R}{p:yc (.agg n) R}{u:R→List SV×A}{a:A}(h:pk1 (.agg n) xs k=some p)(hu:∀xs' q,k xs'=some q→u q=(xs',a)):un1 (.agg n) p u=(xs,a):=by
 match xs,h with
 | .t (.agg ys)::xs,h=>
  have h:(bif Nat.beq ys.length n then k (mpT ys++xs)else none)=some p:=h
  obtain⟨h1,h⟩:=qL h;have:=zd h1;subst this
  show(SV.t (.agg (ZA ys.length (u p).1))::jT ys.length (u p).1,(u p).2)=_
  rw[hu _ _ h];simp only[qeO,qeP]
theorem qww{w:Nat}{xs:List SV}{R A:Type}{k:List SV→Option R}{p:yc (.sl w) R}{u:R→List SV×A}{a:A}(h:pk1 (.sl w) xs k=some p)(hu:∀xs' q,k xs'=some q→u q=(xs',a)):un1 (.sl w) p u=(xs,a):=by
 match xs,h with
 | .t (.sl w' ys)::xs,h=>
  have h:(bif Nat.beq w' w then(k xs).bind fun p=>some (ys,p)else none)=some p:=h
  obtain⟨h1,h⟩:=qL h;obtain⟨q,h2,h⟩:=osm h;have:=soi h;subst this
  have:=zd h1;subst this
  show(SV.t (.sl w' ys)::(u q).1,(u q).2)=_
  rw[hu _ _ h2]
theorem qwx{off:Nat}{xs:List SV}{R A:Type}{k:List SV→Option R}{p:yc (.pt off) R}{u:R→List SV×A}{a:A}(h:pk1 (.pt off) xs k=some p)(hu:∀xs' q,k xs'=some q→u q=(xs',a)):un1 (.pt off) p u=(xs,a):=by
 match xs,h with
 | .t (.pt y o)::xs,h=>
  have h:(bif Nat.beq o off then k (.t y::xs)else none)=some p:=h
  obtain⟨h1,h⟩:=qL h;have:=zd h1;subst this
  show(SV.t (.pt (tOf ((u p).1.headD .bad)) o)::jT 1 (u p).1,(u p).2)=_
  rw[hu _ _ h];simp only[qnR,qyp]
theorem qwy{f x y:Nat}{xs:List SV}{R A:Type}{k:List SV→Option R}{p:yc (.fn f x y) R}{u:R→List SV×A}{a:A}(h:pk1 (.fn f x y) xs k=some p)(hu:∀xs' q,k xs'=some q→u q=(xs',a)):un1 (.fn f x y) p u=(xs,a):=by
 match xs,h with
 | .t (.fn f' ya yb)::xs,h=>
  have h:(bif Nat.beq f' f&&Nat.beq ya.length x&&Nat.beq yb.length y then k (mpT ya++(mpT yb++xs))else none)=some p:=h
  obtain⟨h1,h⟩:=qL h;simp only[zp]at h1;obtain⟨⟨h3,h4⟩,h5⟩:=h1;have:=zd h3;subst this
  have:=zd h4;subst this
  have:=zd h5;subst this
  show(SV.t (.fn f' (ZA ya.length (u p).1) (ZA yb.length (jT ya.length (u p).1)))::jT yb.length (jT ya.length (u p).1),(u p).2)=_
  rw[hu _ _ h];simp only[qeO,qeP]
theorem qtx{n off:Nat}{xs:List SV}{R A:Type}{k:List SV→Option R}{p:yc (.ref n off) R}{u:R→List SV×A}{a:A}(h:pk1 (.ref n off) xs k=some p)(hu:∀xs' q,k xs'=some q→u q=(xs',a)):un1 (.ref n off) p u=(xs,a):=by
 match xs,h with
 | .ref n' o::xs,h=>
  have h:(bif Nat.beq n' n&&Nat.beq o off then k xs else none)=some p:=h
  obtain⟨h1,h⟩:=qL h;simp only[zp]at h1;obtain⟨h3,h4⟩:=h1;have:=zd h3;subst this
  have:=zd h4;subst this
  show(SV.ref n' o::(u p).1,(u p).2)=_
  rw[hu _ _ h]
theorem qty{n:Nat}{xs:List SV}{R A:Type}{k:List SV→Option R}{p:yc (.osl n) R}{u:R→List SV×A}{a:A}(h:pk1 (.osl n) xs k=some p)(hu:∀xs' q,k xs'=some q→u q=(xs',a)):un1 (.osl n) p u=(xs,a):=by
 match xs,h with
 | .osl n' o len::xs,h=>
  have h:(bif Nat.beq n' n then(k xs).bind fun p=>some (o,len,p)else none)=some p:=h
  obtain⟨h1,h⟩:=qL h;obtain⟨q,h2,h⟩:=osm h;have:=soi h;subst this
  have:=zd h1;subst this
  show(SV.osl n' o len::(u q).1,(u q).2)=_
  rw[hu _ _ h2]
theorem qpR{n:Nat}{xs:List SV}{R A:Type}{k:List SV→Option R}{p:yc (.oslz n) R}{u:R→List SV×A}{a:A}(h:pk1 (.oslz n) xs k=some p)(hu:∀xs' q,k xs'=some q→u q=(xs',a)):un1 (.oslz n) p u=(xs,a):=by
 match xs,h with
 | .osl n' o len::xs,h=>
  have h:(bif Nat.beq n' n&&Nat.beq o 0 then(k xs).bind fun p=>some (len,p)else none)=some p:=h
  obtain⟨h1,h⟩:=qL h;obtain⟨q,h2,h⟩:=osm h;have:=soi h;subst this
  simp only[zp]at h1;obtain⟨h3,h4⟩:=h1;have:=zd h3;subst this
  have:=zd h4;subst this
  show(SV.osl n' 0 len::(u q).1,(u q).2)=_
  rw[hu _ _ h2]
theorem qwz{n:Nat}{xs:List SV}{R A:Type}{k:List SV→Option R}{p:yc (.ep n) R}{u:R→List SV×A}{a:A}(h:pk1 (.ep n) xs k=some p)(hu:∀xs' q,k xs'=some q→u q=(xs',a)):un1 (.ep n) p u=(xs,a):=by
 match xs,h with
 | .ep n' o len::xs,h=>
  have h:(bif Nat.beq n' n then(k xs).bind fun p=>some (o,len,p)else none)=some p:=h
  obtain⟨h1,h⟩:=qL h;obtain⟨q,h2,h⟩:=osm h;have:=soi h;subst this
  have:=zd h1;subst this
  show(SV.ep n' o len::(u q).1,(u q).2)=_
  rw[hu _ _ h2]
theorem qtz{f x y:Nat}{xs:List SV}{R A:Type}{k:List SV→Option R}{p:yc (.clo f x y) R}{u:R→List SV×A}{a:A}(h:pk1 (.clo f x y) xs k=some p)(hu:∀xs' q,k xs'=some q→u q=(xs',a)):un1 (.clo f x y) p u=(xs,a):=by
 match xs,h with
 | .clo f' ya yb::xs,h=>
  have h:(bif Nat.beq f' f&&Nat.beq ya.length x&&Nat.beq yb.length y then k (ya++(yb++xs))else none)=some p:=h
  obtain⟨h1,h⟩:=qL h;simp only[zp]at h1;obtain⟨⟨h3,h4⟩,h5⟩:=h1;have:=zd h3;subst this
  have:=zd h4;subst this
  have:=zd h5;subst this
  show(SV.clo f' (J1 ya.length (u p).1) (J1 yb.length (jT ya.length (u p).1))::jT yb.length (jT ya.length (u p).1),(u p).2)=_
  rw[hu _ _ h];simp only[qax,qay]
theorem qtA{n:Nat}{xs:List SV}{R A:Type}{k:List SV→Option R}{p:yc (.tup n) R}{u:R→List SV×A}{a:A}(h:pk1 (.tup n) xs k=some p)(hu:∀xs' q,k xs'=some q→u q=(xs',a)):un1 (.tup n) p u=(xs,a):=by
 match xs,h with
 | .tup ys::xs,h=>
  have h:(bif Nat.beq ys.length n then k (ys++xs)else none)=some p:=h
  obtain⟨h1,h⟩:=qL h;have:=zd h1;subst this
  show(SV.tup (J1 ys.length (u p).1)::jT ys.length (u p).1,(u p).2)=_
  rw[hu _ _ h];simp only[qax,qay]
theorem qwA{n:Nat}{xs:List SV}{R A:Type}{k:List SV→Option R}{p:yc (.st n) R}{u:R→List SV×A}{a:A}(h:pk1 (.st n) xs k=some p)(hu:∀xs' q,k xs'=some q→u q=(xs',a)):un1 (.st n) p u=(xs,a):=by
 match xs,h with
 | .st ys::xs,h=>
  have h:(bif Nat.beq ys.length n then k (ys++xs)else none)=some p:=h
  obtain⟨h1,h⟩:=qL h;have:=zd h1;subst this
  show(SV.st (J1 ys.length (u p).1)::jT ys.length (u p).1,(u p).2)=_
  rw[hu _ _ h];simp only[qax,qay]
theorem qtB{xs:List SV}{R A:Type}{k:List SV→Option R}{p:yc (.un) R}{u:R→List SV×A}{a:A}(h:pk1 (.un) xs k=some p)(hu:∀xs' q,k xs'=some q→u q=(xs',a)):un1 (.un) p u=(xs,a):=by
 match xs,h with
 | .un::xs,h=>
  have h:k xs=some p:=h
  show(SV.un::(u p).1,(u p).2)=_
  rw[hu _ _ h]
theorem qtC{xs:List SV}{R A:Type}{k:List SV→Option R}{p:yc (.bad) R}{u:R→List SV×A}{a:A}(h:pk1 (.bad) xs k=some p)(hu:∀xs' q,k xs'=some q→u q=(xs',a)):un1 (.bad) p u=(xs,a):=by
 match xs,h with
 | .bad::xs,h=>
  have h:k xs=some p:=h
  show(SV.bad::(u p).1,(u p).2)=_
  rw[hu _ _ h]
theorem qwB:∀(t:Tok) {xs:List SV} {R A:Type} {k:List SV→Option R} {p:yc t R} {u:R→List SV×A} {a:A} (_:pk1 t xs k=some p) (_:∀xs' q,k xs'=some q→u q=(xs',a)),un1 t p u=(xs,a)
 | .i _,_,_,_,_,_,_,_,h,hu=>qyq h hu
 | .b,_,_,_,_,_,_,_,h,hu=>qyr h hu
 | .s,_,_,_,_,_,_,_,h,hu=>qys h hu
 | .v _,_,_,_,_,_,_,_,h,hu=>qyt h hu
 | .agg _,_,_,_,_,_,_,_,h,hu=>qtw h hu
 | .sl _,_,_,_,_,_,_,_,h,hu=>qww h hu
 | .ql _ _,_,_,_,_,_,_,_,h,hu=>qwv h hu
 | .pt _,_,_,_,_,_,_,_,h,hu=>qwx h hu
 | .fn _ _ _,_,_,_,_,_,_,_,h,hu=>qwy h hu
 | .ref _ _,_,_,_,_,_,_,_,h,hu=>qtx h hu
 | .osl _,_,_,_,_,_,_,_,h,hu=>qty h hu
 | .oslz _,_,_,_,_,_,_,_,h,hu=>qpR h hu
 | .ep _,_,_,_,_,_,_,_,h,hu=>qwz h hu
 | .clo _ _ _,_,_,_,_,_,_,_,h,hu=>qtz h hu
 | .tup _,_,_,_,_,_,_,_,h,hu=>qtA h hu
 | .st _,_,_,_,_,_,_,_,h,hu=>qwA h hu
 | .un,_,_,_,_,_,_,_,h,hu=>qtB h hu
 | .bad,_,_,_,_,_,_,_,h,hu=>qtC h hu
theorem qpS:∀(l:List Tok) (xs:List SV) {R:Type} (r:R) (p:qkv l R),pkT l xs r=some p→unT l p=(xs,r)
 | [],xs,R,r,p,h=>by
  cases xs with
  | nil=>have:=soi (show some r=some p from h);subst this;rfl
  | cons x xs=>exact non h
 | t::l,xs,R,r,p,h=>qwB t (u:=fun q=>unT l q) (h:pk1 t xs (fun xs'=>pkT l xs' r)=some p) fun xs' q hq=>qpS l xs' r q hq
theorem qhH:∀(l:List TokB) (bs:List OB) (p:qkx l),pkH l bs=some p→unH l p=bs
 | [],[],p,h=>rfl
 | [],_::_,p,h=>non h
 | .cells c::l,[],p,h=>non h
 | .cells c::l,.row _ _ _ _::_,p,h=>non h
 | .cells c::l,.dead::_,p,h=>non h
 | .cells c::l,.cells xs::bs,p,h=>by
  have h:((pkH l bs).bind fun r=>pkT c xs r)=some p:=h
  obtain⟨r,h1,h⟩:=osm h;have h2:=qpS _ _ _ _ h;exact(congrArg (fun q:List SV×qkx l=>OB.cells q.1::unH l q.2) h2).trans (by rw[qhH l bs r h1])
 | .row fx e k::l,[],p,h=>non h
 | .row fx e k::l,.cells _::_,p,h=>non h
 | .row fx e k::l,.dead::_,p,h=>non h
 | .row fx e k::l,.row fx' e' k' xs::bs,p,h=>by
  have h:(bif(fx' == fx)&&Nat.beq e' e&&Nat.beq k' k then(pkH l bs).bind fun r=>some (xs,r)else none)=some p:=h
  obtain⟨h1,h⟩:=qL h;obtain⟨r,h2,h⟩:=osm h;have:=soi h;subst this
  simp only[zp,beq_iff_eq]at h1;obtain⟨⟨rfl,h3⟩,h4⟩:=h1;have:=zd h3;subst this
  have:=zd h4;subst this
  show OB.row _ _ _ _::unH l r=_
  rw[qhH l bs r h2]
 | .dead::l,[],p,h=>non h
 | .dead::l,.cells _::_,p,h=>non h
 | .dead::l,.row _ _ _ _::_,p,h=>non h
 | .dead::l,.dead::bs,p,h=>by
  have h:pkH l bs=some p:=h
  show OB.dead::unH l p=_
  rw[qhH l bs p h]
end
end Su
