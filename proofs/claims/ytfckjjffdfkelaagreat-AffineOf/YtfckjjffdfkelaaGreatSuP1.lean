/-
  An evaluator of the program's functions over trees of values, proved sound. No condition.
-/
import Derived.Test.YtfckjjffdfkelaaGreatSuP0
set_option linter.unusedVariables false
set_option linter.unusedSimpArgs false
namespace Su
open Go Fly
noncomputable section
theorem osm{α β:Type}{o:Option α}{f:α→Option β}{r:β}(h:o.bind f=some r):∃a,o=some a∧f a=some r:=by
 cases o with
 | none=>simp at h
 | some a=>exact⟨a,rfl,by simpa using h⟩
theorem qi{α:Type}{b:Bool}{x:Option α}{r:α}(h:(bif b then x else none)=some r):b=true∧x=some r:=by
 cases b with
 | true=>exact⟨rfl,h⟩
 | false=>simp at h
theorem qf2:∀(ys:List T) (xs:List SV),qah ys.length (mpT ys++xs)=ys
 | [],_=>rfl
 | y::ys,xs=>by simp[qah,mpT,tOf,qf2 ys xs]
theorem qf3:∀(ys:List T) (xs:List SV),ji ys.length (mpT ys++xs)=xs
 | [],xs=>by cases xs <;> rfl
 | y::ys,xs=>by simp[ji,mpT,qf3 ys xs]
theorem qbc:∀(ys:List SV) (xs:List SV),Yk ys.length (ys++xs)=ys
 | [],_=>rfl
 | y::ys,xs=>by simp[Yk,qbc ys xs]
theorem qbd:∀(ys:List SV) (xs:List SV),ji ys.length (ys++xs)=xs
 | [],xs=>by cases xs <;> rfl
 | y::ys,xs=>by simp[ji,qbd ys xs]
theorem qcu{κ:IntKind}{sv:SV}{n:Int}(h:asI κ sv=some n):sv = .t (.s (.int κ n)):=by
 unfold asI at h;split at h
 · rename_i κ' m
   by_cases hk:κ'=κ
   · subst hk;simp at h;subst h;rfl
   · simp[hk]at h
 · simp at h
theorem qpr{sv:SV}{n:Bool}(h:asB sv=some n):sv = .t (.s (.bool n)):=by
 unfold asB at h;split at h <;> simp at h;subst h;rfl
theorem qtJ{sv:SV}{n:ByteArray}(h:asS sv=some n):sv = .t (.s (.string n)):=by
 unfold asS at h;split at h <;> simp at h;subst h;rfl
theorem qjm{u k:Nat}{sv:SV}{l:List (U u)}(h:qdl u k sv=some l):sv = .t (.ql u k l):=by
 unfold qdl at h;split at h
 · rename_i u' k' m
   split at h
   · rename_i hu
     subst hu;obtain⟨h1,h2⟩:=qi h;have:=zj h1;subst this
     simp only[zg]at h2;subst h2;rfl
   · simp at h
 · simp at h
theorem qyI{v:Value}{x:SV}(h:qpe v x=true):x = .t (.s v):=by
 unfold qpe at h;split at h <;> first | rfl | simp at h
theorem qGJ{y:T}{xs:List SV}:tOf ((SV.t y::xs).headD .bad)=y:=rfl
theorem qrB{y:SV}{xs:List SV}:ji 1 (y::xs)=xs:=by cases xs <;> rfl
theorem non{α:Type}{p:α}{C:Prop}(h:(none:Option α)=some p):C:=by cases h
theorem soi{α:Type}{a b:α}(h:some a=some b):a=b:=X4 h
theorem qGK{κ:IntKind}{xs:List SV}{R A:Type}{k:List SV→Option R}{p:jA (.i κ) R}{u:R→List SV×A}{a:A}(h:pk1 (.i κ) xs k=some p)(hu:∀xs' q,k xs'=some q→u q=(xs',a)):un1 (.i κ) p u=(xs,a):=by
 cases xs with
 | nil=>exact non h
 | cons x xs=>
  have h:((asI κ x).bind fun n=>(k xs).bind fun p=>some (n,p))=some p:=h
  obtain⟨n,h1,h⟩:=osm h;obtain⟨q,h2,h⟩:=osm h;have:=soi h;subst this
  have:=qcu h1;subst this
  show(SV.t (.s (.int κ n))::(u q).1,(u q).2)=_
  rw[hu _ _ h2]
theorem qGL{xs:List SV}{R A:Type}{k:List SV→Option R}{p:jA (.b) R}{u:R→List SV×A}{a:A}(h:pk1 (.b) xs k=some p)(hu:∀xs' q,k xs'=some q→u q=(xs',a)):un1 (.b) p u=(xs,a):=by
 cases xs with
 | nil=>exact non h
 | cons x xs=>
  have h:((asB x).bind fun n=>(k xs).bind fun p=>some (n,p))=some p:=h
  obtain⟨n,h1,h⟩:=osm h;obtain⟨q,h2,h⟩:=osm h;have:=soi h;subst this
  have:=qpr h1;subst this
  show(SV.t (.s (.bool n))::(u q).1,(u q).2)=_
  rw[hu _ _ h2]
theorem qGM{xs:List SV}{R A:Type}{k:List SV→Option R}{p:jA (.s) R}{u:R→List SV×A}{a:A}(h:pk1 (.s) xs k=some p)(hu:∀xs' q,k xs'=some q→u q=(xs',a)):un1 (.s) p u=(xs,a):=by
 cases xs with
 | nil=>exact non h
 | cons x xs=>
  have h:((asS x).bind fun n=>(k xs).bind fun p=>some (n,p))=some p:=h
  obtain⟨n,h1,h⟩:=osm h;obtain⟨q,h2,h⟩:=osm h;have:=soi h;subst this
  have:=qtJ h1;subst this
  show(SV.t (.s (.string n))::(u q).1,(u q).2)=_
  rw[hu _ _ h2]
theorem qDu{v w:Nat}{xs:List SV}{R A:Type}{k:List SV→Option R}{p:jA (.ql v w) R}{u:R→List SV×A}{a:A}(h:pk1 (.ql v w) xs k=some p)(hu:∀xs' q,k xs'=some q→u q=(xs',a)):un1 (.ql v w) p u=(xs,a):=by
 cases xs with
 | nil=>exact non h
 | cons x xs=>
  have h:((qdl v w x).bind fun n=>(k xs).bind fun p=>some (n,p))=some p:=h
  obtain⟨n,h1,h⟩:=osm h;obtain⟨q,h2,h⟩:=osm h;have:=soi h;subst this
  have:=qjm h1;subst this
  show(SV.t (.ql v w n)::(u q).1,(u q).2)=_
  rw[hu _ _ h2]
theorem qGN{x:Value}{xs:List SV}{R A:Type}{k:List SV→Option R}{p:jA (.v x) R}{u:R→List SV×A}{a:A}(h:pk1 (.v x) xs k=some p)(hu:∀xs' q,k xs'=some q→u q=(xs',a)):un1 (.v x) p u=(xs,a):=by
 cases xs with
 | nil=>exact non h
 | cons y xs=>
  have h:(bif qpe x y then k xs else none)=some p:=h
  obtain⟨h1,g⟩:=qi h;clear h;have:=qyI h1;subst this
  show(SV.t (.s x)::(u p).1,(u p).2)=_
  rw[hu _ _ g]
theorem qyJ{n:Nat}{xs:List SV}{R A:Type}{k:List SV→Option R}{p:jA (.agg n) R}{u:R→List SV×A}{a:A}(h:pk1 (.agg n) xs k=some p)(hu:∀xs' q,k xs'=some q→u q=(xs',a)):un1 (.agg n) p u=(xs,a):=by
 match xs,h with
 | .t (.agg ys)::xs,h=>
  have h:(bif Nat.beq ys.length n then k (mpT ys++xs)else none)=some p:=h
  obtain⟨h1,h⟩:=qi h;have:=zj h1;subst this
  show(SV.t (.agg (qah ys.length (u p).1))::ji ys.length (u p).1,(u p).2)=_
  rw[hu _ _ h];simp only[qf2,qf3]
theorem qDv{w:Nat}{xs:List SV}{R A:Type}{k:List SV→Option R}{p:jA (.sl w) R}{u:R→List SV×A}{a:A}(h:pk1 (.sl w) xs k=some p)(hu:∀xs' q,k xs'=some q→u q=(xs',a)):un1 (.sl w) p u=(xs,a):=by
 match xs,h with
 | .t (.sl w' ys)::xs,h=>
  have h:(bif Nat.beq w' w then(k xs).bind fun p=>some (ys,p)else none)=some p:=h
  obtain⟨h1,h⟩:=qi h;obtain⟨q,h2,h⟩:=osm h;have:=soi h;subst this
  have:=zj h1;subst this
  show(SV.t (.sl w' ys)::(u q).1,(u q).2)=_
  rw[hu _ _ h2]
theorem qDw{off:Nat}{xs:List SV}{R A:Type}{k:List SV→Option R}{p:jA (.pt off) R}{u:R→List SV×A}{a:A}(h:pk1 (.pt off) xs k=some p)(hu:∀xs' q,k xs'=some q→u q=(xs',a)):un1 (.pt off) p u=(xs,a):=by
 match xs,h with
 | .t (.pt y o)::xs,h=>
  have h:(bif Nat.beq o off then k (.t y::xs)else none)=some p:=h
  obtain⟨h1,h⟩:=qi h;have:=zj h1;subst this
  show(SV.t (.pt (tOf ((u p).1.headD .bad)) o)::ji 1 (u p).1,(u p).2)=_
  rw[hu _ _ h];simp only[qrB,qGJ]
theorem qDx{f x y:Nat}{xs:List SV}{R A:Type}{k:List SV→Option R}{p:jA (.fn f x y) R}{u:R→List SV×A}{a:A}(h:pk1 (.fn f x y) xs k=some p)(hu:∀xs' q,k xs'=some q→u q=(xs',a)):un1 (.fn f x y) p u=(xs,a):=by
 match xs,h with
 | .t (.fn f' ya yb)::xs,h=>
  have h:(bif Nat.beq f' f&&Nat.beq ya.length x&&Nat.beq yb.length y then k (mpT ya++(mpT yb++xs))else none)=some p:=h
  obtain⟨h1,h⟩:=qi h;simp only[zm]at h1;obtain⟨⟨h3,h4⟩,h5⟩:=h1;have:=zj h3;subst this
  have:=zj h4;subst this
  have:=zj h5;subst this
  show(SV.t (.fn f' (qah ya.length (u p).1) (qah yb.length (ji ya.length (u p).1)))::ji yb.length (ji ya.length (u p).1),(u p).2)=_
  rw[hu _ _ h];simp only[qf2,qf3]
theorem qyK{n off:Nat}{xs:List SV}{R A:Type}{k:List SV→Option R}{p:jA (.ref n off) R}{u:R→List SV×A}{a:A}(h:pk1 (.ref n off) xs k=some p)(hu:∀xs' q,k xs'=some q→u q=(xs',a)):un1 (.ref n off) p u=(xs,a):=by
 match xs,h with
 | .ref n' o::xs,h=>
  have h:(bif Nat.beq n' n&&Nat.beq o off then k xs else none)=some p:=h
  obtain⟨h1,h⟩:=qi h;simp only[zm]at h1;obtain⟨h3,h4⟩:=h1;have:=zj h3;subst this
  have:=zj h4;subst this
  show(SV.ref n' o::(u p).1,(u p).2)=_
  rw[hu _ _ h]
theorem qyL{n:Nat}{xs:List SV}{R A:Type}{k:List SV→Option R}{p:jA (.osl n) R}{u:R→List SV×A}{a:A}(h:pk1 (.osl n) xs k=some p)(hu:∀xs' q,k xs'=some q→u q=(xs',a)):un1 (.osl n) p u=(xs,a):=by
 match xs,h with
 | .osl n' o len::xs,h=>
  have h:(bif Nat.beq n' n then(k xs).bind fun p=>some (o,len,p)else none)=some p:=h
  obtain⟨h1,h⟩:=qi h;obtain⟨q,h2,h⟩:=osm h;have:=soi h;subst this
  have:=zj h1;subst this
  show(SV.osl n' o len::(u q).1,(u q).2)=_
  rw[hu _ _ h2]
theorem qtK{n:Nat}{xs:List SV}{R A:Type}{k:List SV→Option R}{p:jA (.oslz n) R}{u:R→List SV×A}{a:A}(h:pk1 (.oslz n) xs k=some p)(hu:∀xs' q,k xs'=some q→u q=(xs',a)):un1 (.oslz n) p u=(xs,a):=by
 match xs,h with
 | .osl n' o len::xs,h=>
  have h:(bif Nat.beq n' n&&Nat.beq o 0 then(k xs).bind fun p=>some (len,p)else none)=some p:=h
  obtain⟨h1,h⟩:=qi h;obtain⟨q,h2,h⟩:=osm h;have:=soi h;subst this
  simp only[zm]at h1;obtain⟨h3,h4⟩:=h1;have:=zj h3;subst this
  have:=zj h4;subst this
  show(SV.osl n' 0 len::(u q).1,(u q).2)=_
  rw[hu _ _ h2]
theorem qDy{n:Nat}{xs:List SV}{R A:Type}{k:List SV→Option R}{p:jA (.ep n) R}{u:R→List SV×A}{a:A}(h:pk1 (.ep n) xs k=some p)(hu:∀xs' q,k xs'=some q→u q=(xs',a)):un1 (.ep n) p u=(xs,a):=by
 match xs,h with
 | .ep n' o len::xs,h=>
  have h:(bif Nat.beq n' n then(k xs).bind fun p=>some (o,len,p)else none)=some p:=h
  obtain⟨h1,h⟩:=qi h;obtain⟨q,h2,h⟩:=osm h;have:=soi h;subst this
  have:=zj h1;subst this
  show(SV.ep n' o len::(u q).1,(u q).2)=_
  rw[hu _ _ h2]
theorem qyM{f x y:Nat}{xs:List SV}{R A:Type}{k:List SV→Option R}{p:jA (.clo f x y) R}{u:R→List SV×A}{a:A}(h:pk1 (.clo f x y) xs k=some p)(hu:∀xs' q,k xs'=some q→u q=(xs',a)):un1 (.clo f x y) p u=(xs,a):=by
 match xs,h with
 | .clo f' ya yb::xs,h=>
  have h:(bif Nat.beq f' f&&Nat.beq ya.length x&&Nat.beq yb.length y then k (ya++(yb++xs))else none)=some p:=h
  obtain⟨h1,h⟩:=qi h;simp only[zm]at h1;obtain⟨⟨h3,h4⟩,h5⟩:=h1;have:=zj h3;subst this
  have:=zj h4;subst this
  have:=zj h5;subst this
  show(SV.clo f' (Yk ya.length (u p).1) (Yk yb.length (ji ya.length (u p).1))::ji yb.length (ji ya.length (u p).1),(u p).2)=_
  rw[hu _ _ h];simp only[qbc,qbd]
theorem qyN{n:Nat}{xs:List SV}{R A:Type}{k:List SV→Option R}{p:jA (.tup n) R}{u:R→List SV×A}{a:A}(h:pk1 (.tup n) xs k=some p)(hu:∀xs' q,k xs'=some q→u q=(xs',a)):un1 (.tup n) p u=(xs,a):=by
 match xs,h with
 | .tup ys::xs,h=>
  have h:(bif Nat.beq ys.length n then k (ys++xs)else none)=some p:=h
  obtain⟨h1,h⟩:=qi h;have:=zj h1;subst this
  show(SV.tup (Yk ys.length (u p).1)::ji ys.length (u p).1,(u p).2)=_
  rw[hu _ _ h];simp only[qbc,qbd]
theorem qDz{n:Nat}{xs:List SV}{R A:Type}{k:List SV→Option R}{p:jA (.st n) R}{u:R→List SV×A}{a:A}(h:pk1 (.st n) xs k=some p)(hu:∀xs' q,k xs'=some q→u q=(xs',a)):un1 (.st n) p u=(xs,a):=by
 match xs,h with
 | .st ys::xs,h=>
  have h:(bif Nat.beq ys.length n then k (ys++xs)else none)=some p:=h
  obtain⟨h1,h⟩:=qi h;have:=zj h1;subst this
  show(SV.st (Yk ys.length (u p).1)::ji ys.length (u p).1,(u p).2)=_
  rw[hu _ _ h];simp only[qbc,qbd]
theorem qyO{xs:List SV}{R A:Type}{k:List SV→Option R}{p:jA (.un) R}{u:R→List SV×A}{a:A}(h:pk1 (.un) xs k=some p)(hu:∀xs' q,k xs'=some q→u q=(xs',a)):un1 (.un) p u=(xs,a):=by
 match xs,h with
 | .un::xs,h=>
  have h:k xs=some p:=h
  show(SV.un::(u p).1,(u p).2)=_
  rw[hu _ _ h]
theorem qyP{xs:List SV}{R A:Type}{k:List SV→Option R}{p:jA (.bad) R}{u:R→List SV×A}{a:A}(h:pk1 (.bad) xs k=some p)(hu:∀xs' q,k xs'=some q→u q=(xs',a)):un1 (.bad) p u=(xs,a):=by
 match xs,h with
 | .bad::xs,h=>
  have h:k xs=some p:=h
  show(SV.bad::(u p).1,(u p).2)=_
  rw[hu _ _ h]
theorem qDA:∀(t:Tok) {xs:List SV} {R A:Type} {k:List SV→Option R} {p:jA t R} {u:R→List SV×A} {a:A} (_:pk1 t xs k=some p) (_:∀xs' q,k xs'=some q→u q=(xs',a)),un1 t p u=(xs,a)
 | .i _,_,_,_,_,_,_,_,h,hu=>qGK h hu
 | .b,_,_,_,_,_,_,_,h,hu=>qGL h hu
 | .s,_,_,_,_,_,_,_,h,hu=>qGM h hu
 | .v _,_,_,_,_,_,_,_,h,hu=>qGN h hu
 | .agg _,_,_,_,_,_,_,_,h,hu=>qyJ h hu
 | .sl _,_,_,_,_,_,_,_,h,hu=>qDv h hu
 | .ql _ _,_,_,_,_,_,_,_,h,hu=>qDu h hu
 | .pt _,_,_,_,_,_,_,_,h,hu=>qDw h hu
 | .fn _ _ _,_,_,_,_,_,_,_,h,hu=>qDx h hu
 | .ref _ _,_,_,_,_,_,_,_,h,hu=>qyK h hu
 | .osl _,_,_,_,_,_,_,_,h,hu=>qyL h hu
 | .oslz _,_,_,_,_,_,_,_,h,hu=>qtK h hu
 | .ep _,_,_,_,_,_,_,_,h,hu=>qDy h hu
 | .clo _ _ _,_,_,_,_,_,_,_,h,hu=>qyM h hu
 | .tup _,_,_,_,_,_,_,_,h,hu=>qyN h hu
 | .st _,_,_,_,_,_,_,_,h,hu=>qDz h hu
 | .un,_,_,_,_,_,_,_,h,hu=>qyO h hu
 | .bad,_,_,_,_,_,_,_,h,hu=>qyP h hu
theorem qtL:∀(l:List Tok) (xs:List SV) {R:Type} (r:R) (p:qnC l R),pkT l xs r=some p→unT l p=(xs,r)
 | [],xs,R,r,p,h=>by
  cases xs with
  | nil=>have:=soi (show some r=some p from h);subst this;rfl
  | cons x xs=>exact non h
 | t::l,xs,R,r,p,h=>qDA t (u:=fun q=>unT l q) (h:pk1 t xs (fun xs'=>pkT l xs' r)=some p) fun xs' q hq=>qtL l xs' r q hq
theorem qjn:∀(l:List TokB) (bs:List OB) (p:qnD l),pkH l bs=some p→unH l p=bs
 | [],[],p,h=>rfl
 | [],_::_,p,h=>non h
 | .cells c::l,[],p,h=>non h
 | .cells c::l,.row _ _ _ _::_,p,h=>non h
 | .cells c::l,.dead::_,p,h=>non h
 | .cells c::l,.cells xs::bs,p,h=>by
  have h:((pkH l bs).bind fun r=>pkT c xs r)=some p:=h
  obtain⟨r,h1,h⟩:=osm h;have h2:=qtL _ _ _ _ h;exact(congrArg (fun q:List SV×qnD l=>OB.cells q.1::unH l q.2) h2).trans (by rw[qjn l bs r h1])
 | .row fx e k::l,[],p,h=>non h
 | .row fx e k::l,.cells _::_,p,h=>non h
 | .row fx e k::l,.dead::_,p,h=>non h
 | .row fx e k::l,.row fx' e' k' xs::bs,p,h=>by
  have h:(bif(fx' == fx)&&Nat.beq e' e&&Nat.beq k' k then(pkH l bs).bind fun r=>some (xs,r)else none)=some p:=h
  obtain⟨h1,h⟩:=qi h;obtain⟨r,h2,h⟩:=osm h;have:=soi h;subst this
  simp only[zm,qHK]at h1;obtain⟨⟨rfl,h3⟩,h4⟩:=h1;have:=zj h3;subst this
  have:=zj h4;subst this
  show OB.row _ _ _ _::unH l r=_
  rw[qjn l bs r h2]
 | .dead::l,[],p,h=>non h
 | .dead::l,.cells _::_,p,h=>non h
 | .dead::l,.row _ _ _ _::_,p,h=>non h
 | .dead::l,.dead::bs,p,h=>by
  have h:pkH l bs=some p:=h
  show OB.dead::unH l p=_
  rw[qjn l bs p h]
end
end Su
