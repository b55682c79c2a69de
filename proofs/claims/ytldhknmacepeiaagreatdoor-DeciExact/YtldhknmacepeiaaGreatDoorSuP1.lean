/-
  An evaluator of the program's functions over trees of values, proved sound. No condition.
-/
import Derived.Test.YtldhknmacepeiaaGreatDoorSuP0
set_option linter.unusedVariables false
set_option linter.unusedSimpArgs false
namespace Su
open Go Fly
noncomputable section
theorem osm{α β:Type}{o:Option α}{f:α→Option β}{r:β}(h:o.bind f=some r):∃a,o=some a∧f a=some r:=by
 cases o with
 | none=>simp at h
 | some a=>exact⟨a,rfl,by simpa using h⟩
theorem bif_some{α:Type}{b:Bool}{x:Option α}{r:α}(h:(bif b then x else none)=some r):b=true∧x=some r:=by
 cases b with
 | true=>exact⟨rfl,h⟩
 | false=>simp at h
theorem takeT_mp:∀(ys:List T) (xs:List SV),takeT ys.length (mpT ys++xs)=ys
 | [],_=>rfl
 | y::ys,xs=>by simp[takeT,mpT,tOf,takeT_mp ys xs]
theorem dropS_mp:∀(ys:List T) (xs:List SV),dropS ys.length (mpT ys++xs)=xs
 | [],xs=>by cases xs <;> rfl
 | y::ys,xs=>by simp[dropS,mpT,dropS_mp ys xs]
theorem takeS_app:∀(ys:List SV) (xs:List SV),takeS ys.length (ys++xs)=ys
 | [],_=>rfl
 | y::ys,xs=>by simp[takeS,takeS_app ys xs]
theorem dropS_app:∀(ys:List SV) (xs:List SV),dropS ys.length (ys++xs)=xs
 | [],xs=>by cases xs <;> rfl
 | y::ys,xs=>by simp[dropS,dropS_app ys xs]
theorem asI_t{κ:IntKind}{sv:SV}{n:Int}(h:asI κ sv=some n):sv = .t (.s (.int κ n)):=by
 unfold asI at h;split at h
 · rename_i κ' m
   by_cases hk:κ'=κ
   · subst hk;simp at h;subst h;rfl
   · simp[hk]at h
 · simp at h
theorem asB_t{sv:SV}{n:Bool}(h:asB sv=some n):sv = .t (.s (.bool n)):=by
 unfold asB at h;split at h <;> simp at h;subst h;rfl
theorem asS_t{sv:SV}{n:ByteArray}(h:asS sv=some n):sv = .t (.s (.string n)):=by
 unfold asS at h;split at h <;> simp at h;subst h;rfl
theorem isSl_t{u k:Nat}{sv:SV}{l:List (U u)}(h:isSl u k sv=some l):sv = .t (.ql u k l):=by
 unfold isSl at h;split at h
 · rename_i u' k' m
   split at h
   · rename_i hu
     subst hu;obtain⟨h1,h2⟩:=bif_some h;have:=qd h1;subst this
     simp only[qa]at h2;subst h2;rfl
   · simp at h
 · simp at h
theorem sameV_t{v:Value}{x:SV}(h:sameV v x=true):x = .t (.s v):=by
 unfold sameV at h;split at h <;> first | rfl | simp at h
theorem hd_mp{y:T}{xs:List SV}:tOf ((SV.t y::xs).headD .bad)=y:=rfl
theorem dropS_one{y:SV}{xs:List SV}:dropS 1 (y::xs)=xs:=by cases xs <;> rfl
theorem non{α:Type}{p:α}{C:Prop}(h:(none:Option α)=some p):C:=by cases h
theorem soi{α:Type}{a b:α}(h:some a=some b):a=b:=yO h
theorem pk1_i{κ:IntKind}{xs:List SV}{R A:Type}{k:List SV→Option R}{p:tokPay (.i κ) R}{u:R→List SV×A}{a:A}(h:pk1 (.i κ) xs k=some p)(hu:∀xs' q,k xs'=some q→u q=(xs',a)):un1 (.i κ) p u=(xs,a):=by
 cases xs with
 | nil=>exact non h
 | cons x xs=>
  have h:((asI κ x).bind fun n=>(k xs).bind fun p=>some (n,p))=some p:=h
  obtain⟨n,h1,h⟩:=osm h;obtain⟨q,h2,h⟩:=osm h;have:=soi h;subst this
  have:=asI_t h1;subst this
  show(SV.t (.s (.int κ n))::(u q).1,(u q).2)=_
  rw[hu _ _ h2]
theorem pk1_b{xs:List SV}{R A:Type}{k:List SV→Option R}{p:tokPay (.b) R}{u:R→List SV×A}{a:A}(h:pk1 (.b) xs k=some p)(hu:∀xs' q,k xs'=some q→u q=(xs',a)):un1 (.b) p u=(xs,a):=by
 cases xs with
 | nil=>exact non h
 | cons x xs=>
  have h:((asB x).bind fun n=>(k xs).bind fun p=>some (n,p))=some p:=h
  obtain⟨n,h1,h⟩:=osm h;obtain⟨q,h2,h⟩:=osm h;have:=soi h;subst this
  have:=asB_t h1;subst this
  show(SV.t (.s (.bool n))::(u q).1,(u q).2)=_
  rw[hu _ _ h2]
theorem pk1_s{xs:List SV}{R A:Type}{k:List SV→Option R}{p:tokPay (.s) R}{u:R→List SV×A}{a:A}(h:pk1 (.s) xs k=some p)(hu:∀xs' q,k xs'=some q→u q=(xs',a)):un1 (.s) p u=(xs,a):=by
 cases xs with
 | nil=>exact non h
 | cons x xs=>
  have h:((asS x).bind fun n=>(k xs).bind fun p=>some (n,p))=some p:=h
  obtain⟨n,h1,h⟩:=osm h;obtain⟨q,h2,h⟩:=osm h;have:=soi h;subst this
  have:=asS_t h1;subst this
  show(SV.t (.s (.string n))::(u q).1,(u q).2)=_
  rw[hu _ _ h2]
theorem pk1_ql{v w:Nat}{xs:List SV}{R A:Type}{k:List SV→Option R}{p:tokPay (.ql v w) R}{u:R→List SV×A}{a:A}(h:pk1 (.ql v w) xs k=some p)(hu:∀xs' q,k xs'=some q→u q=(xs',a)):un1 (.ql v w) p u=(xs,a):=by
 cases xs with
 | nil=>exact non h
 | cons x xs=>
  have h:((isSl v w x).bind fun n=>(k xs).bind fun p=>some (n,p))=some p:=h
  obtain⟨n,h1,h⟩:=osm h;obtain⟨q,h2,h⟩:=osm h;have:=soi h;subst this
  have:=isSl_t h1;subst this
  show(SV.t (.ql v w n)::(u q).1,(u q).2)=_
  rw[hu _ _ h2]
theorem pk1_v{x:Value}{xs:List SV}{R A:Type}{k:List SV→Option R}{p:tokPay (.v x) R}{u:R→List SV×A}{a:A}(h:pk1 (.v x) xs k=some p)(hu:∀xs' q,k xs'=some q→u q=(xs',a)):un1 (.v x) p u=(xs,a):=by
 cases xs with
 | nil=>exact non h
 | cons y xs=>
  have h:(bif sameV x y then k xs else none)=some p:=h
  obtain⟨h1,g⟩:=bif_some h;clear h;have:=sameV_t h1;subst this
  show(SV.t (.s x)::(u p).1,(u p).2)=_
  rw[hu _ _ g]
theorem pk1_agg{n:Nat}{xs:List SV}{R A:Type}{k:List SV→Option R}{p:tokPay (.agg n) R}{u:R→List SV×A}{a:A}(h:pk1 (.agg n) xs k=some p)(hu:∀xs' q,k xs'=some q→u q=(xs',a)):un1 (.agg n) p u=(xs,a):=by
 match xs,h with
 | .t (.agg ys)::xs,h=>
  have h:(bif Nat.beq ys.length n then k (mpT ys++xs)else none)=some p:=h
  obtain⟨h1,h⟩:=bif_some h;have:=qd h1;subst this
  show(SV.t (.agg (takeT ys.length (u p).1))::dropS ys.length (u p).1,(u p).2)=_
  rw[hu _ _ h];simp only[takeT_mp,dropS_mp]
theorem pk1_sl{w:Nat}{xs:List SV}{R A:Type}{k:List SV→Option R}{p:tokPay (.sl w) R}{u:R→List SV×A}{a:A}(h:pk1 (.sl w) xs k=some p)(hu:∀xs' q,k xs'=some q→u q=(xs',a)):un1 (.sl w) p u=(xs,a):=by
 match xs,h with
 | .t (.sl w' ys)::xs,h=>
  have h:(bif Nat.beq w' w then(k xs).bind fun p=>some (ys,p)else none)=some p:=h
  obtain⟨h1,h⟩:=bif_some h;obtain⟨q,h2,h⟩:=osm h;have:=soi h;subst this
  have:=qd h1;subst this
  show(SV.t (.sl w' ys)::(u q).1,(u q).2)=_
  rw[hu _ _ h2]
theorem pk1_pt{off:Nat}{xs:List SV}{R A:Type}{k:List SV→Option R}{p:tokPay (.pt off) R}{u:R→List SV×A}{a:A}(h:pk1 (.pt off) xs k=some p)(hu:∀xs' q,k xs'=some q→u q=(xs',a)):un1 (.pt off) p u=(xs,a):=by
 match xs,h with
 | .t (.pt y o)::xs,h=>
  have h:(bif Nat.beq o off then k (.t y::xs)else none)=some p:=h
  obtain⟨h1,h⟩:=bif_some h;have:=qd h1;subst this
  show(SV.t (.pt (tOf ((u p).1.headD .bad)) o)::dropS 1 (u p).1,(u p).2)=_
  rw[hu _ _ h];simp only[dropS_one,hd_mp]
theorem pk1_fn{f x y:Nat}{xs:List SV}{R A:Type}{k:List SV→Option R}{p:tokPay (.fn f x y) R}{u:R→List SV×A}{a:A}(h:pk1 (.fn f x y) xs k=some p)(hu:∀xs' q,k xs'=some q→u q=(xs',a)):un1 (.fn f x y) p u=(xs,a):=by
 match xs,h with
 | .t (.fn f' ya yb)::xs,h=>
  have h:(bif Nat.beq f' f&&Nat.beq ya.length x&&Nat.beq yb.length y then k (mpT ya++(mpT yb++xs))else none)=some p:=h
  obtain⟨h1,h⟩:=bif_some h;simp only[qk]at h1;obtain⟨⟨h3,h4⟩,h5⟩:=h1;have:=qd h3;subst this
  have:=qd h4;subst this
  have:=qd h5;subst this
  show(SV.t (.fn f' (takeT ya.length (u p).1) (takeT yb.length (dropS ya.length (u p).1)))::dropS yb.length (dropS ya.length (u p).1),(u p).2)=_
  rw[hu _ _ h];simp only[takeT_mp,dropS_mp]
theorem pk1_ref{n off:Nat}{xs:List SV}{R A:Type}{k:List SV→Option R}{p:tokPay (.ref n off) R}{u:R→List SV×A}{a:A}(h:pk1 (.ref n off) xs k=some p)(hu:∀xs' q,k xs'=some q→u q=(xs',a)):un1 (.ref n off) p u=(xs,a):=by
 match xs,h with
 | .ref n' o::xs,h=>
  have h:(bif Nat.beq n' n&&Nat.beq o off then k xs else none)=some p:=h
  obtain⟨h1,h⟩:=bif_some h;simp only[qk]at h1;obtain⟨h3,h4⟩:=h1;have:=qd h3;subst this
  have:=qd h4;subst this
  show(SV.ref n' o::(u p).1,(u p).2)=_
  rw[hu _ _ h]
theorem pk1_osl{n:Nat}{xs:List SV}{R A:Type}{k:List SV→Option R}{p:tokPay (.osl n) R}{u:R→List SV×A}{a:A}(h:pk1 (.osl n) xs k=some p)(hu:∀xs' q,k xs'=some q→u q=(xs',a)):un1 (.osl n) p u=(xs,a):=by
 match xs,h with
 | .osl n' o len::xs,h=>
  have h:(bif Nat.beq n' n then(k xs).bind fun p=>some (o,len,p)else none)=some p:=h
  obtain⟨h1,h⟩:=bif_some h;obtain⟨q,h2,h⟩:=osm h;have:=soi h;subst this
  have:=qd h1;subst this
  show(SV.osl n' o len::(u q).1,(u q).2)=_
  rw[hu _ _ h2]
theorem pk1_oslz{n:Nat}{xs:List SV}{R A:Type}{k:List SV→Option R}{p:tokPay (.oslz n) R}{u:R→List SV×A}{a:A}(h:pk1 (.oslz n) xs k=some p)(hu:∀xs' q,k xs'=some q→u q=(xs',a)):un1 (.oslz n) p u=(xs,a):=by
 match xs,h with
 | .osl n' o len::xs,h=>
  have h:(bif Nat.beq n' n&&Nat.beq o 0 then(k xs).bind fun p=>some (len,p)else none)=some p:=h
  obtain⟨h1,h⟩:=bif_some h;obtain⟨q,h2,h⟩:=osm h;have:=soi h;subst this
  simp only[qk]at h1;obtain⟨h3,h4⟩:=h1;have:=qd h3;subst this
  have:=qd h4;subst this
  show(SV.osl n' 0 len::(u q).1,(u q).2)=_
  rw[hu _ _ h2]
theorem pk1_ep{n:Nat}{xs:List SV}{R A:Type}{k:List SV→Option R}{p:tokPay (.ep n) R}{u:R→List SV×A}{a:A}(h:pk1 (.ep n) xs k=some p)(hu:∀xs' q,k xs'=some q→u q=(xs',a)):un1 (.ep n) p u=(xs,a):=by
 match xs,h with
 | .ep n' o len::xs,h=>
  have h:(bif Nat.beq n' n then(k xs).bind fun p=>some (o,len,p)else none)=some p:=h
  obtain⟨h1,h⟩:=bif_some h;obtain⟨q,h2,h⟩:=osm h;have:=soi h;subst this
  have:=qd h1;subst this
  show(SV.ep n' o len::(u q).1,(u q).2)=_
  rw[hu _ _ h2]
theorem pk1_clo{f x y:Nat}{xs:List SV}{R A:Type}{k:List SV→Option R}{p:tokPay (.clo f x y) R}{u:R→List SV×A}{a:A}(h:pk1 (.clo f x y) xs k=some p)(hu:∀xs' q,k xs'=some q→u q=(xs',a)):un1 (.clo f x y) p u=(xs,a):=by
 match xs,h with
 | .clo f' ya yb::xs,h=>
  have h:(bif Nat.beq f' f&&Nat.beq ya.length x&&Nat.beq yb.length y then k (ya++(yb++xs))else none)=some p:=h
  obtain⟨h1,h⟩:=bif_some h;simp only[qk]at h1;obtain⟨⟨h3,h4⟩,h5⟩:=h1;have:=qd h3;subst this
  have:=qd h4;subst this
  have:=qd h5;subst this
  show(SV.clo f' (takeS ya.length (u p).1) (takeS yb.length (dropS ya.length (u p).1))::dropS yb.length (dropS ya.length (u p).1),(u p).2)=_
  rw[hu _ _ h];simp only[takeS_app,dropS_app]
theorem pk1_tup{n:Nat}{xs:List SV}{R A:Type}{k:List SV→Option R}{p:tokPay (.tup n) R}{u:R→List SV×A}{a:A}(h:pk1 (.tup n) xs k=some p)(hu:∀xs' q,k xs'=some q→u q=(xs',a)):un1 (.tup n) p u=(xs,a):=by
 match xs,h with
 | .tup ys::xs,h=>
  have h:(bif Nat.beq ys.length n then k (ys++xs)else none)=some p:=h
  obtain⟨h1,h⟩:=bif_some h;have:=qd h1;subst this
  show(SV.tup (takeS ys.length (u p).1)::dropS ys.length (u p).1,(u p).2)=_
  rw[hu _ _ h];simp only[takeS_app,dropS_app]
theorem pk1_st{n:Nat}{xs:List SV}{R A:Type}{k:List SV→Option R}{p:tokPay (.st n) R}{u:R→List SV×A}{a:A}(h:pk1 (.st n) xs k=some p)(hu:∀xs' q,k xs'=some q→u q=(xs',a)):un1 (.st n) p u=(xs,a):=by
 match xs,h with
 | .st ys::xs,h=>
  have h:(bif Nat.beq ys.length n then k (ys++xs)else none)=some p:=h
  obtain⟨h1,h⟩:=bif_some h;have:=qd h1;subst this
  show(SV.st (takeS ys.length (u p).1)::dropS ys.length (u p).1,(u p).2)=_
  rw[hu _ _ h];simp only[takeS_app,dropS_app]
theorem pk1_un'{xs:List SV}{R A:Type}{k:List SV→Option R}{p:tokPay (.un) R}{u:R→List SV×A}{a:A}(h:pk1 (.un) xs k=some p)(hu:∀xs' q,k xs'=some q→u q=(xs',a)):un1 (.un) p u=(xs,a):=by
 match xs,h with
 | .un::xs,h=>
  have h:k xs=some p:=h
  show(SV.un::(u p).1,(u p).2)=_
  rw[hu _ _ h]
theorem pk1_bad{xs:List SV}{R A:Type}{k:List SV→Option R}{p:tokPay (.bad) R}{u:R→List SV×A}{a:A}(h:pk1 (.bad) xs k=some p)(hu:∀xs' q,k xs'=some q→u q=(xs',a)):un1 (.bad) p u=(xs,a):=by
 match xs,h with
 | .bad::xs,h=>
  have h:k xs=some p:=h
  show(SV.bad::(u p).1,(u p).2)=_
  rw[hu _ _ h]
theorem pk1_un:∀(t:Tok) {xs:List SV} {R A:Type} {k:List SV→Option R} {p:tokPay t R} {u:R→List SV×A} {a:A} (_:pk1 t xs k=some p) (_:∀xs' q,k xs'=some q→u q=(xs',a)),un1 t p u=(xs,a)
 | .i _,_,_,_,_,_,_,_,h,hu=>pk1_i h hu
 | .b,_,_,_,_,_,_,_,h,hu=>pk1_b h hu
 | .s,_,_,_,_,_,_,_,h,hu=>pk1_s h hu
 | .v _,_,_,_,_,_,_,_,h,hu=>pk1_v h hu
 | .agg _,_,_,_,_,_,_,_,h,hu=>pk1_agg h hu
 | .sl _,_,_,_,_,_,_,_,h,hu=>pk1_sl h hu
 | .ql _ _,_,_,_,_,_,_,_,h,hu=>pk1_ql h hu
 | .pt _,_,_,_,_,_,_,_,h,hu=>pk1_pt h hu
 | .fn _ _ _,_,_,_,_,_,_,_,h,hu=>pk1_fn h hu
 | .ref _ _,_,_,_,_,_,_,_,h,hu=>pk1_ref h hu
 | .osl _,_,_,_,_,_,_,_,h,hu=>pk1_osl h hu
 | .oslz _,_,_,_,_,_,_,_,h,hu=>pk1_oslz h hu
 | .ep _,_,_,_,_,_,_,_,h,hu=>pk1_ep h hu
 | .clo _ _ _,_,_,_,_,_,_,_,h,hu=>pk1_clo h hu
 | .tup _,_,_,_,_,_,_,_,h,hu=>pk1_tup h hu
 | .st _,_,_,_,_,_,_,_,h,hu=>pk1_st h hu
 | .un,_,_,_,_,_,_,_,h,hu=>pk1_un' h hu
 | .bad,_,_,_,_,_,_,_,h,hu=>pk1_bad h hu
theorem pk_un:∀(l:List Tok) (xs:List SV) {R:Type} (r:R) (p:payT l R),pkT l xs r=some p→unT l p=(xs,r)
 | [],xs,R,r,p,h=>by
  cases xs with
  | nil=>have:=soi (show some r=some p from h);subst this;rfl
  | cons x xs=>exact non h
 | t::l,xs,R,r,p,h=>pk1_un t (u:=fun q=>unT l q) (h:pk1 t xs (fun xs'=>pkT l xs' r)=some p) fun xs' q hq=>pk_un l xs' r q hq
theorem pkH_un:∀(l:List TokB) (bs:List OB) (p:payH l),pkH l bs=some p→unH l p=bs
 | [],[],p,h=>rfl
 | [],_::_,p,h=>non h
 | .cells c::l,[],p,h=>non h
 | .cells c::l,.row _ _ _ _::_,p,h=>non h
 | .cells c::l,.dead::_,p,h=>non h
 | .cells c::l,.cells xs::bs,p,h=>by
  have h:((pkH l bs).bind fun r=>pkT c xs r)=some p:=h
  obtain⟨r,h1,h⟩:=osm h;have h2:=pk_un _ _ _ _ h;exact(congrArg (fun q:List SV×payH l=>OB.cells q.1::unH l q.2) h2).trans (by rw[pkH_un l bs r h1])
 | .row fx e k::l,[],p,h=>non h
 | .row fx e k::l,.cells _::_,p,h=>non h
 | .row fx e k::l,.dead::_,p,h=>non h
 | .row fx e k::l,.row fx' e' k' xs::bs,p,h=>by
  have h:(bif(fx' == fx)&&Nat.beq e' e&&Nat.beq k' k then(pkH l bs).bind fun r=>some (xs,r)else none)=some p:=h
  obtain⟨h1,h⟩:=bif_some h;obtain⟨r,h2,h⟩:=osm h;have:=soi h;subst this
  simp only[qk,beq_iff_eq]at h1;obtain⟨⟨rfl,h3⟩,h4⟩:=h1;have:=qd h3;subst this
  have:=qd h4;subst this
  show OB.row _ _ _ _::unH l r=_
  rw[pkH_un l bs r h2]
 | .dead::l,[],p,h=>non h
 | .dead::l,.cells _::_,p,h=>non h
 | .dead::l,.row _ _ _ _::_,p,h=>non h
 | .dead::l,.dead::bs,p,h=>by
  have h:pkH l bs=some p:=h
  show OB.dead::unH l p=_
  rw[pkH_un l bs p h]
end
end Su
