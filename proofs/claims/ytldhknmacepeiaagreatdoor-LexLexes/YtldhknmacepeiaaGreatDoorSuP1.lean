/-
  An evaluator of the program's functions over trees of values, proved sound. No condition.
-/
import Derived.Test.YtldhknmacepeiaaGreatDoorSuP0
set_option linter.unusedVariables false
set_option linter.unusedSimpArgs false
namespace Su
open Go Fly
noncomputable section
theorem osm{α β:Type}{o:Option α}{f:α→Option β}{r:β}(h:o.bind f=some r):∃a,o=some a∧f a=some r:=by
 cases o with
 | none=>simp at h
 | some a=>exact⟨a,rfl,by simpa using h⟩
theorem qi{α:Type}{b:Bool}{x:Option α}{r:α}(h:(bif b then x else none)=some r):b=true∧x=some r:=by
 cases b with
 | true=>exact⟨rfl,h⟩
 | false=>simp at h
theorem qd8:∀(ys:List T) (xs:List SV),Yy ys.length (mpT ys++xs)=ys
 | [],_=>rfl
 | y::ys,xs=>by simp[Yy,mpT,tOf,qd8 ys xs]
theorem qd9:∀(ys:List T) (xs:List SV),jI ys.length (mpT ys++xs)=xs
 | [],xs=>by cases xs <;> rfl
 | y::ys,xs=>by simp[jI,mpT,qd9 ys xs]
theorem ZA:∀(ys:List SV) (xs:List SV),Jh ys.length (ys++xs)=ys
 | [],_=>rfl
 | y::ys,xs=>by simp[Jh,ZA ys xs]
theorem ZB:∀(ys:List SV) (xs:List SV),jI ys.length (ys++xs)=xs
 | [],xs=>by cases xs <;> rfl
 | y::ys,xs=>by simp[jI,ZB ys xs]
theorem qwV{κ:IntKind}{sv:SV}{n:Int}(h:asI κ sv=some n):sv = .t (.s (.int κ n)):=by
 unfold asI at h;split at h
 · rename_i κ' m
   by_cases hk:κ'=κ
   · subst hk;simp at h;subst h;rfl
   · simp[hk]at h
 · simp at h
theorem qwW{sv:SV}{n:Bool}(h:asB sv=some n):sv = .t (.s (.bool n)):=by
 unfold asB at h;split at h <;> simp at h;subst h;rfl
theorem qwX{sv:SV}{n:ByteArray}(h:asS sv=some n):sv = .t (.s (.string n)):=by
 unfold asS at h;split at h <;> simp at h;subst h;rfl
theorem qjU{u k:Nat}{sv:SV}{l:List (U u)}(h:qeZ u k sv=some l):sv = .t (.ql u k l):=by
 unfold qeZ at h;split at h
 · rename_i u' k' m
   split at h
   · rename_i hu
     subst hu;obtain⟨h1,h2⟩:=qi h;have:=zh h1;subst this
     simp only[zb]at h2;subst h2;rfl
   · simp at h
 · simp at h
theorem qt3{v:Value}{x:SV}(h:qkK v x=true):x = .t (.s v):=by
 unfold qkK at h;split at h <;> first | rfl | simp at h
theorem qBg{y:T}{xs:List SV}:tOf ((SV.t y::xs).headD .bad)=y:=rfl
theorem qmN{y:SV}{xs:List SV}:jI 1 (y::xs)=xs:=by cases xs <;> rfl
theorem non{α:Type}{p:α}{C:Prop}(h:(none:Option α)=some p):C:=by cases h
theorem soi{α:Type}{a b:α}(h:some a=some b):a=b:=Ke h
theorem qBh{κ:IntKind}{xs:List SV}{R A:Type}{k:List SV→Option R}{p:jS (.i κ) R}{u:R→List SV×A}{a:A}(h:pk1 (.i κ) xs k=some p)(hu:∀xs' q,k xs'=some q→u q=(xs',a)):un1 (.i κ) p u=(xs,a):=by
 cases xs with
 | nil=>exact non h
 | cons x xs=>
  have h:((asI κ x).bind fun n=>(k xs).bind fun p=>some (n,p))=some p:=h
  obtain⟨n,h1,h⟩:=osm h;obtain⟨q,h2,h⟩:=osm h;have:=soi h;subst this
  have:=qwV h1;subst this
  show(SV.t (.s (.int κ n))::(u q).1,(u q).2)=_
  rw[hu _ _ h2]
theorem qBi{xs:List SV}{R A:Type}{k:List SV→Option R}{p:jS (.b) R}{u:R→List SV×A}{a:A}(h:pk1 (.b) xs k=some p)(hu:∀xs' q,k xs'=some q→u q=(xs',a)):un1 (.b) p u=(xs,a):=by
 cases xs with
 | nil=>exact non h
 | cons x xs=>
  have h:((asB x).bind fun n=>(k xs).bind fun p=>some (n,p))=some p:=h
  obtain⟨n,h1,h⟩:=osm h;obtain⟨q,h2,h⟩:=osm h;have:=soi h;subst this
  have:=qwW h1;subst this
  show(SV.t (.s (.bool n))::(u q).1,(u q).2)=_
  rw[hu _ _ h2]
theorem qBj{xs:List SV}{R A:Type}{k:List SV→Option R}{p:jS (.s) R}{u:R→List SV×A}{a:A}(h:pk1 (.s) xs k=some p)(hu:∀xs' q,k xs'=some q→u q=(xs',a)):un1 (.s) p u=(xs,a):=by
 cases xs with
 | nil=>exact non h
 | cons x xs=>
  have h:((asS x).bind fun n=>(k xs).bind fun p=>some (n,p))=some p:=h
  obtain⟨n,h1,h⟩:=osm h;obtain⟨q,h2,h⟩:=osm h;have:=soi h;subst this
  have:=qwX h1;subst this
  show(SV.t (.s (.string n))::(u q).1,(u q).2)=_
  rw[hu _ _ h2]
theorem qyd{v w:Nat}{xs:List SV}{R A:Type}{k:List SV→Option R}{p:jS (.ql v w) R}{u:R→List SV×A}{a:A}(h:pk1 (.ql v w) xs k=some p)(hu:∀xs' q,k xs'=some q→u q=(xs',a)):un1 (.ql v w) p u=(xs,a):=by
 cases xs with
 | nil=>exact non h
 | cons x xs=>
  have h:((qeZ v w x).bind fun n=>(k xs).bind fun p=>some (n,p))=some p:=h
  obtain⟨n,h1,h⟩:=osm h;obtain⟨q,h2,h⟩:=osm h;have:=soi h;subst this
  have:=qjU h1;subst this
  show(SV.t (.ql v w n)::(u q).1,(u q).2)=_
  rw[hu _ _ h2]
theorem qBk{x:Value}{xs:List SV}{R A:Type}{k:List SV→Option R}{p:jS (.v x) R}{u:R→List SV×A}{a:A}(h:pk1 (.v x) xs k=some p)(hu:∀xs' q,k xs'=some q→u q=(xs',a)):un1 (.v x) p u=(xs,a):=by
 cases xs with
 | nil=>exact non h
 | cons y xs=>
  have h:(bif qkK x y then k xs else none)=some p:=h
  obtain⟨h1,g⟩:=qi h;clear h;have:=qt3 h1;subst this
  show(SV.t (.s x)::(u p).1,(u p).2)=_
  rw[hu _ _ g]
theorem qt4{n:Nat}{xs:List SV}{R A:Type}{k:List SV→Option R}{p:jS (.agg n) R}{u:R→List SV×A}{a:A}(h:pk1 (.agg n) xs k=some p)(hu:∀xs' q,k xs'=some q→u q=(xs',a)):un1 (.agg n) p u=(xs,a):=by
 match xs,h with
 | .t (.agg ys)::xs,h=>
  have h:(bif Nat.beq ys.length n then k (mpT ys++xs)else none)=some p:=h
  obtain⟨h1,h⟩:=qi h;have:=zh h1;subst this
  show(SV.t (.agg (Yy ys.length (u p).1))::jI ys.length (u p).1,(u p).2)=_
  rw[hu _ _ h];simp only[qd8,qd9]
theorem qye{w:Nat}{xs:List SV}{R A:Type}{k:List SV→Option R}{p:jS (.sl w) R}{u:R→List SV×A}{a:A}(h:pk1 (.sl w) xs k=some p)(hu:∀xs' q,k xs'=some q→u q=(xs',a)):un1 (.sl w) p u=(xs,a):=by
 match xs,h with
 | .t (.sl w' ys)::xs,h=>
  have h:(bif Nat.beq w' w then(k xs).bind fun p=>some (ys,p)else none)=some p:=h
  obtain⟨h1,h⟩:=qi h;obtain⟨q,h2,h⟩:=osm h;have:=soi h;subst this
  have:=zh h1;subst this
  show(SV.t (.sl w' ys)::(u q).1,(u q).2)=_
  rw[hu _ _ h2]
theorem qyf{off:Nat}{xs:List SV}{R A:Type}{k:List SV→Option R}{p:jS (.pt off) R}{u:R→List SV×A}{a:A}(h:pk1 (.pt off) xs k=some p)(hu:∀xs' q,k xs'=some q→u q=(xs',a)):un1 (.pt off) p u=(xs,a):=by
 match xs,h with
 | .t (.pt y o)::xs,h=>
  have h:(bif Nat.beq o off then k (.t y::xs)else none)=some p:=h
  obtain⟨h1,h⟩:=qi h;have:=zh h1;subst this
  show(SV.t (.pt (tOf ((u p).1.headD .bad)) o)::jI 1 (u p).1,(u p).2)=_
  rw[hu _ _ h];simp only[qmN,qBg]
theorem qyg{f x y:Nat}{xs:List SV}{R A:Type}{k:List SV→Option R}{p:jS (.fn f x y) R}{u:R→List SV×A}{a:A}(h:pk1 (.fn f x y) xs k=some p)(hu:∀xs' q,k xs'=some q→u q=(xs',a)):un1 (.fn f x y) p u=(xs,a):=by
 match xs,h with
 | .t (.fn f' ya yb)::xs,h=>
  have h:(bif Nat.beq f' f&&Nat.beq ya.length x&&Nat.beq yb.length y then k (mpT ya++(mpT yb++xs))else none)=some p:=h
  obtain⟨h1,h⟩:=qi h;simp only[zk]at h1;obtain⟨⟨h3,h4⟩,h5⟩:=h1;have:=zh h3;subst this
  have:=zh h4;subst this
  have:=zh h5;subst this
  show(SV.t (.fn f' (Yy ya.length (u p).1) (Yy yb.length (jI ya.length (u p).1)))::jI yb.length (jI ya.length (u p).1),(u p).2)=_
  rw[hu _ _ h];simp only[qd8,qd9]
theorem qt5{n off:Nat}{xs:List SV}{R A:Type}{k:List SV→Option R}{p:jS (.ref n off) R}{u:R→List SV×A}{a:A}(h:pk1 (.ref n off) xs k=some p)(hu:∀xs' q,k xs'=some q→u q=(xs',a)):un1 (.ref n off) p u=(xs,a):=by
 match xs,h with
 | .ref n' o::xs,h=>
  have h:(bif Nat.beq n' n&&Nat.beq o off then k xs else none)=some p:=h
  obtain⟨h1,h⟩:=qi h;simp only[zk]at h1;obtain⟨h3,h4⟩:=h1;have:=zh h3;subst this
  have:=zh h4;subst this
  show(SV.ref n' o::(u p).1,(u p).2)=_
  rw[hu _ _ h]
theorem qt6{n:Nat}{xs:List SV}{R A:Type}{k:List SV→Option R}{p:jS (.osl n) R}{u:R→List SV×A}{a:A}(h:pk1 (.osl n) xs k=some p)(hu:∀xs' q,k xs'=some q→u q=(xs',a)):un1 (.osl n) p u=(xs,a):=by
 match xs,h with
 | .osl n' o len::xs,h=>
  have h:(bif Nat.beq n' n then(k xs).bind fun p=>some (o,len,p)else none)=some p:=h
  obtain⟨h1,h⟩:=qi h;obtain⟨q,h2,h⟩:=osm h;have:=soi h;subst this
  have:=zh h1;subst this
  show(SV.osl n' o len::(u q).1,(u q).2)=_
  rw[hu _ _ h2]
theorem qoP{n:Nat}{xs:List SV}{R A:Type}{k:List SV→Option R}{p:jS (.oslz n) R}{u:R→List SV×A}{a:A}(h:pk1 (.oslz n) xs k=some p)(hu:∀xs' q,k xs'=some q→u q=(xs',a)):un1 (.oslz n) p u=(xs,a):=by
 match xs,h with
 | .osl n' o len::xs,h=>
  have h:(bif Nat.beq n' n&&Nat.beq o 0 then(k xs).bind fun p=>some (len,p)else none)=some p:=h
  obtain⟨h1,h⟩:=qi h;obtain⟨q,h2,h⟩:=osm h;have:=soi h;subst this
  simp only[zk]at h1;obtain⟨h3,h4⟩:=h1;have:=zh h3;subst this
  have:=zh h4;subst this
  show(SV.osl n' 0 len::(u q).1,(u q).2)=_
  rw[hu _ _ h2]
theorem qyh{n:Nat}{xs:List SV}{R A:Type}{k:List SV→Option R}{p:jS (.ep n) R}{u:R→List SV×A}{a:A}(h:pk1 (.ep n) xs k=some p)(hu:∀xs' q,k xs'=some q→u q=(xs',a)):un1 (.ep n) p u=(xs,a):=by
 match xs,h with
 | .ep n' o len::xs,h=>
  have h:(bif Nat.beq n' n then(k xs).bind fun p=>some (o,len,p)else none)=some p:=h
  obtain⟨h1,h⟩:=qi h;obtain⟨q,h2,h⟩:=osm h;have:=soi h;subst this
  have:=zh h1;subst this
  show(SV.ep n' o len::(u q).1,(u q).2)=_
  rw[hu _ _ h2]
theorem qt7{f x y:Nat}{xs:List SV}{R A:Type}{k:List SV→Option R}{p:jS (.clo f x y) R}{u:R→List SV×A}{a:A}(h:pk1 (.clo f x y) xs k=some p)(hu:∀xs' q,k xs'=some q→u q=(xs',a)):un1 (.clo f x y) p u=(xs,a):=by
 match xs,h with
 | .clo f' ya yb::xs,h=>
  have h:(bif Nat.beq f' f&&Nat.beq ya.length x&&Nat.beq yb.length y then k (ya++(yb++xs))else none)=some p:=h
  obtain⟨h1,h⟩:=qi h;simp only[zk]at h1;obtain⟨⟨h3,h4⟩,h5⟩:=h1;have:=zh h3;subst this
  have:=zh h4;subst this
  have:=zh h5;subst this
  show(SV.clo f' (Jh ya.length (u p).1) (Jh yb.length (jI ya.length (u p).1))::jI yb.length (jI ya.length (u p).1),(u p).2)=_
  rw[hu _ _ h];simp only[ZA,ZB]
theorem qt8{n:Nat}{xs:List SV}{R A:Type}{k:List SV→Option R}{p:jS (.tup n) R}{u:R→List SV×A}{a:A}(h:pk1 (.tup n) xs k=some p)(hu:∀xs' q,k xs'=some q→u q=(xs',a)):un1 (.tup n) p u=(xs,a):=by
 match xs,h with
 | .tup ys::xs,h=>
  have h:(bif Nat.beq ys.length n then k (ys++xs)else none)=some p:=h
  obtain⟨h1,h⟩:=qi h;have:=zh h1;subst this
  show(SV.tup (Jh ys.length (u p).1)::jI ys.length (u p).1,(u p).2)=_
  rw[hu _ _ h];simp only[ZA,ZB]
theorem qyi{n:Nat}{xs:List SV}{R A:Type}{k:List SV→Option R}{p:jS (.st n) R}{u:R→List SV×A}{a:A}(h:pk1 (.st n) xs k=some p)(hu:∀xs' q,k xs'=some q→u q=(xs',a)):un1 (.st n) p u=(xs,a):=by
 match xs,h with
 | .st ys::xs,h=>
  have h:(bif Nat.beq ys.length n then k (ys++xs)else none)=some p:=h
  obtain⟨h1,h⟩:=qi h;have:=zh h1;subst this
  show(SV.st (Jh ys.length (u p).1)::jI ys.length (u p).1,(u p).2)=_
  rw[hu _ _ h];simp only[ZA,ZB]
theorem qt9{xs:List SV}{R A:Type}{k:List SV→Option R}{p:jS (.un) R}{u:R→List SV×A}{a:A}(h:pk1 (.un) xs k=some p)(hu:∀xs' q,k xs'=some q→u q=(xs',a)):un1 (.un) p u=(xs,a):=by
 match xs,h with
 | .un::xs,h=>
  have h:k xs=some p:=h
  show(SV.un::(u p).1,(u p).2)=_
  rw[hu _ _ h]
theorem qua{xs:List SV}{R A:Type}{k:List SV→Option R}{p:jS (.bad) R}{u:R→List SV×A}{a:A}(h:pk1 (.bad) xs k=some p)(hu:∀xs' q,k xs'=some q→u q=(xs',a)):un1 (.bad) p u=(xs,a):=by
 match xs,h with
 | .bad::xs,h=>
  have h:k xs=some p:=h
  show(SV.bad::(u p).1,(u p).2)=_
  rw[hu _ _ h]
theorem qyj:∀(t:Tok) {xs:List SV} {R A:Type} {k:List SV→Option R} {p:jS t R} {u:R→List SV×A} {a:A} (_:pk1 t xs k=some p) (_:∀xs' q,k xs'=some q→u q=(xs',a)),un1 t p u=(xs,a)
 | .i _,_,_,_,_,_,_,_,h,hu=>qBh h hu
 | .b,_,_,_,_,_,_,_,h,hu=>qBi h hu
 | .s,_,_,_,_,_,_,_,h,hu=>qBj h hu
 | .v _,_,_,_,_,_,_,_,h,hu=>qBk h hu
 | .agg _,_,_,_,_,_,_,_,h,hu=>qt4 h hu
 | .sl _,_,_,_,_,_,_,_,h,hu=>qye h hu
 | .ql _ _,_,_,_,_,_,_,_,h,hu=>qyd h hu
 | .pt _,_,_,_,_,_,_,_,h,hu=>qyf h hu
 | .fn _ _ _,_,_,_,_,_,_,_,h,hu=>qyg h hu
 | .ref _ _,_,_,_,_,_,_,_,h,hu=>qt5 h hu
 | .osl _,_,_,_,_,_,_,_,h,hu=>qt6 h hu
 | .oslz _,_,_,_,_,_,_,_,h,hu=>qoP h hu
 | .ep _,_,_,_,_,_,_,_,h,hu=>qyh h hu
 | .clo _ _ _,_,_,_,_,_,_,_,h,hu=>qt7 h hu
 | .tup _,_,_,_,_,_,_,_,h,hu=>qt8 h hu
 | .st _,_,_,_,_,_,_,_,h,hu=>qyi h hu
 | .un,_,_,_,_,_,_,_,h,hu=>qt9 h hu
 | .bad,_,_,_,_,_,_,_,h,hu=>qua h hu
theorem qoQ:∀(l:List Tok) (xs:List SV) {R:Type} (r:R) (p:qjz l R),pkT l xs r=some p→unT l p=(xs,r)
 | [],xs,R,r,p,h=>by
  cases xs with
  | nil=>have:=soi (show some r=some p from h);subst this;rfl
  | cons x xs=>exact non h
 | t::l,xs,R,r,p,h=>qyj t (u:=fun q=>unT l q) (h:pk1 t xs (fun xs'=>pkT l xs' r)=some p) fun xs' q hq=>qoQ l xs' r q hq
theorem qgP:∀(l:List TokB) (bs:List OB) (p:qjA l),pkH l bs=some p→unH l p=bs
 | [],[],p,h=>rfl
 | [],_::_,p,h=>non h
 | .cells c::l,[],p,h=>non h
 | .cells c::l,.row _ _ _ _::_,p,h=>non h
 | .cells c::l,.dead::_,p,h=>non h
 | .cells c::l,.cells xs::bs,p,h=>by
  have h:((pkH l bs).bind fun r=>pkT c xs r)=some p:=h
  obtain⟨r,h1,h⟩:=osm h;have h2:=qoQ _ _ _ _ h;exact(congrArg (fun q:List SV×qjA l=>OB.cells q.1::unH l q.2) h2).trans (by rw[qgP l bs r h1])
 | .row fx e k::l,[],p,h=>non h
 | .row fx e k::l,.cells _::_,p,h=>non h
 | .row fx e k::l,.dead::_,p,h=>non h
 | .row fx e k::l,.row fx' e' k' xs::bs,p,h=>by
  have h:(bif(fx' == fx)&&Nat.beq e' e&&Nat.beq k' k then(pkH l bs).bind fun r=>some (xs,r)else none)=some p:=h
  obtain⟨h1,h⟩:=qi h;obtain⟨r,h2,h⟩:=osm h;have:=soi h;subst this
  simp only[zk,beq_iff_eq]at h1;obtain⟨⟨rfl,h3⟩,h4⟩:=h1;have:=zh h3;subst this
  have:=zh h4;subst this
  show OB.row _ _ _ _::unH l r=_
  rw[qgP l bs r h2]
 | .dead::l,[],p,h=>non h
 | .dead::l,.cells _::_,p,h=>non h
 | .dead::l,.row _ _ _ _::_,p,h=>non h
 | .dead::l,.dead::bs,p,h=>by
  have h:pkH l bs=some p:=h
  show OB.dead::unH l p=_
  rw[qgP l bs p h]
end
end Su
