/-
  An evaluator, proved sound. No condition.
-/
import Derived.Test.YtldhknmacepeiaaGreatDoorSuT
set_option linter.unusedVariables false
set_option linter.unusedSimpArgs false
section
namespace Su
open Go Fly
noncomputable section
inductive Tok where
 | i (κ:IntKind)
 | b
 | s
 | v (x:Value)
 | agg (n:Nat)
 | sl (k:Nat)
 | ql (u k:Nat)
 | pt (off:Nat)
 | fn (f a b:Nat)
 | ref (n off:Nat)
 | osl (n:Nat)
 | oslz (n:Nat)
 | ep (n:Nat)
 | clo (f a b:Nat)
 | tup (n:Nat)
 | st (n:Nat)
 | un
 | bad
mutual
def qwg:T→List Tok
 | .s (.int κ _)=>[.i κ]
 | .s (.bool _)=>[.b]
 | .s (.string _)=>[.s]
 | .s v=>[.v v]
 | .agg l=>.agg l.length::tokTs l
 | .sl k _=>[.sl k]
 | .ql u k _=>[.ql u k]
 | .pt x off=>.pt off::qwg x
 | .fn f a b=>.fn f a.length b.length::(tokTs a++tokTs b)
def tokTs:List T→List Tok
 | []=>[]
 | x::l=>qwg x++tokTs l
end
mutual
def tokS(z:Bool):SV→List Tok
 | .t x=>qwg x
 | .ref n off=>[.ref n off]
 | .osl n _ _=>bif z then[.oslz n]else[.osl n]
 | .ep n _ _=>[.ep n]
 | .clo f a b=>.clo f a.length b.length::(tokSs z a++tokSs z b)
 | .tup l=>.tup l.length::tokSs z l
 | .st l=>.st l.length::tokSs z l
 | .un=>[.un]
 | .bad=>[.bad]
def tokSs(z:Bool):List SV→List Tok
 | []=>[]
 | x::l=>tokS z x++tokSs z l
end
def yc(t:Tok)(R:Type):Type:=match t with
 | .i _=>Int×R
 | .b=>Bool×R
 | .s=>ByteArray×R
 | .sl _=>List T×R
 | .ql u _=>List (U u)×R
 | .osl _=>Nat×Nat×R
 | .oslz _=>Nat×R
 | .ep _=>Nat×Nat×R
 | _=>R
def qkv(l:List Tok)(R:Type):Type:=List.rec R (fun t _ ih=>yc t ih) l
def tOf:SV→T
 | .t x=>x
 | _=>.s .nilIface
def ZA:Nat→List SV→List T
 | 0,_=>[]
 | _,[]=>[]
 | n+1,x::l=>tOf x::ZA n l
def J1:Nat→List SV→List SV
 | 0,_=>[]
 | _,[]=>[]
 | n+1,x::l=>x::J1 n l
def jT:Nat→List SV→List SV
 | 0,l=>l
 | _,[]=>[]
 | n+1,_::l=>jT n l
def un1(t:Tok){R A:Type}(p:yc t R)(k:R→List SV×A):List SV×A:=match t,p with
 | .i κ,p=>let q:=k p.2;(.t (.s (.int κ p.1))::q.1,q.2)
 | .b,p=>let q:=k p.2;(.t (.s (.bool p.1))::q.1,q.2)
 | .s,p=>let q:=k p.2;(.t (.s (.string p.1))::q.1,q.2)
 | .v x,p=>let q:=k p;(.t (.s x)::q.1,q.2)
 | .agg n,p=>let q:=k p;(.t (.agg (ZA n q.1))::jT n q.1,q.2)
 | .sl w,p=>let q:=k p.2;(.t (.sl w p.1)::q.1,q.2)
 | .ql u w,p=>let q:=k p.2;(.t (.ql u w p.1)::q.1,q.2)
 | .pt off,p=>let q:=k p;(.t (.pt (tOf (q.1.headD .bad)) off)::jT 1 q.1,q.2)
 | .fn f a b,p=>let q:=k p;(.t (.fn f (ZA a q.1) (ZA b (jT a q.1)))::jT b (jT a q.1),q.2)
 | .ref n off,p=>let q:=k p;(.ref n off::q.1,q.2)
 | .osl n,p=>let q:=k p.2.2;(.osl n p.1 p.2.1::q.1,q.2)
 | .oslz n,p=>let q:=k p.2;(.osl n 0 p.1::q.1,q.2)
 | .ep n,p=>let q:=k p.2.2;(.ep n p.1 p.2.1::q.1,q.2)
 | .clo f a b,p=>let q:=k p;(.clo f (J1 a q.1) (J1 b (jT a q.1))::jT b (jT a q.1),q.2)
 | .tup n,p=>let q:=k p;(.tup (J1 n q.1)::jT n q.1,q.2)
 | .st n,p=>let q:=k p;(.st (J1 n q.1)::jT n q.1,q.2)
 | .un,p=>let q:=k p;(.un::q.1,q.2)
 | .bad,p=>let q:=k p;(.bad::q.1,q.2)
def unT:(l:List Tok)→{R:Type}→qkv l R→List SV×R
 | [],_,r=>([],r)
 | t::l,_,p=>un1 t p fun q=>unT l q
def un1K(t:Tok){R A O:Type}(p:yc t R)(k:R→(List SV→A→O)→O)(ff:List SV→A→O):O:=match t,p with
 | .i κ,p=>k p.2 fun q aa=>ff (.t (.s (.int κ p.1))::q) aa
 | .b,p=>k p.2 fun q aa=>ff (.t (.s (.bool p.1))::q) aa
 | .s,p=>k p.2 fun q aa=>ff (.t (.s (.string p.1))::q) aa
 | .v x,p=>k p fun q aa=>ff (.t (.s x)::q) aa
 | .agg n,p=>k p fun q aa=>ff (.t (.agg (ZA n q))::jT n q) aa
 | .sl w,p=>k p.2 fun q aa=>ff (.t (.sl w p.1)::q) aa
 | .ql u w,p=>k p.2 fun q aa=>ff (.t (.ql u w p.1)::q) aa
 | .pt off,p=>k p fun q aa=>ff (.t (.pt (tOf (q.headD .bad)) off)::jT 1 q) aa
 | .fn f a b,p=>k p fun q aa=>ff (.t (.fn f (ZA a q) (ZA b (jT a q)))::jT b (jT a q)) aa
 | .ref n off,p=>k p fun q aa=>ff (.ref n off::q) aa
 | .osl n,p=>k p.2.2 fun q aa=>ff (.osl n p.1 p.2.1::q) aa
 | .oslz n,p=>k p.2 fun q aa=>ff (.osl n 0 p.1::q) aa
 | .ep n,p=>k p.2.2 fun q aa=>ff (.ep n p.1 p.2.1::q) aa
 | .clo f a b,p=>k p fun q aa=>ff (.clo f (J1 a q) (J1 b (jT a q))::jT b (jT a q)) aa
 | .tup n,p=>k p fun q aa=>ff (.tup (J1 n q)::jT n q) aa
 | .st n,p=>k p fun q aa=>ff (.st (J1 n q)::jT n q) aa
 | .un,p=>k p fun q aa=>ff (.un::q) aa
 | .bad,p=>k p fun q aa=>ff (.bad::q) aa
def qs0:(l:List Tok)→{R O:Type}→qkv l R→(List SV→R→O)→O
 | [],_,_,r,f=>f [] r
 | t::l,_,_,p,f=>un1K t p (fun q g=>qs0 l q g) f
theorem qs1(t:Tok){R A O:Type}(p:yc t R)(k:R→(List SV→A→O)→O)(k':R→List SV×A)(h:∀r g,k r g=g (k' r).1 (k' r).2)(f:List SV→A→O):un1K t p k f=f (un1 t p k').1 (un1 t p k').2:=by
 cases t <;> exact h _ _
theorem qhq:∀(l:List Tok) {R O:Type} (p:qkv l R) (f:List SV→R→O),qs0 l p f=f (unT l p).1 (unT l p).2
 | [],_,_,_,_=>rfl
 | t::l,_,_,p,f=>qs1 t p _ _ (fun r g=>qhq l r g) f
def qkw(u k:Nat):SV→Option (List (U u))
 | .t (.ql u' k' l)=>if h:u'=u then bif Nat.beq k' k then some (h ▸ l)else none else none
 | _=>none
def qlL:Value→SV→Bool
 | .pointer none,.t (.s (.pointer none))=>true
 | .map none,.t (.s (.map none))=>true
 | .chan none,.t (.s (.chan none))=>true
 | .nilFunc,.t (.s .nilFunc)=>true
 | .nilIface,.t (.s .nilIface)=>true
 | _,_=>false
def pk1(t:Tok)(xs:List SV){R:Type}(k:List SV→Option R):Option (yc t R):=match t with
 | .i κ=>match xs with|x::xs=>(asI κ x).bind fun n=>(k xs).bind fun p=>some (n,p)|[]=>none
 | .b=>match xs with|x::xs=>(asB x).bind fun n=>(k xs).bind fun p=>some (n,p)|[]=>none
 | .s=>match xs with|x::xs=>(asS x).bind fun n=>(k xs).bind fun p=>some (n,p)|[]=>none
 | .v v=>match xs with|x::xs=>bif qlL v x then k xs else none|[]=>none
 | .agg n=>match xs with|.t (.agg ys)::xs=>bif Nat.beq ys.length n then k (mpT ys++xs)else none|_=>none
 | .sl w=>match xs with|.t (.sl w' ys)::xs=>bif Nat.beq w' w then(k xs).bind fun p=>some (ys,p)else none|_=>none
 | .ql u w=>match xs with|x::xs=>(qkw u w x).bind fun n=>(k xs).bind fun p=>some (n,p)|[]=>none
 | .pt off=>match xs with|.t (.pt y o)::xs=>bif Nat.beq o off then k (.t y::xs)else none|_=>none
 | .fn f a b=>match xs with|.t (.fn f' ya yb)::xs=>bif Nat.beq f' f&&Nat.beq ya.length a&&Nat.beq yb.length b then k (mpT ya++(mpT yb++xs))else none|_=>none
 | .ref n off=>match xs with|.ref n' o::xs=>bif Nat.beq n' n&&Nat.beq o off then k xs else none|_=>none
 | .osl n=>match xs with|.osl n' o len::xs=>bif Nat.beq n' n then(k xs).bind fun p=>some (o,len,p)else none|_=>none
 | .oslz n=>match xs with|.osl n' o len::xs=>bif Nat.beq n' n&&Nat.beq o 0 then(k xs).bind fun p=>some (len,p)else none|_=>none
 | .ep n=>match xs with|.ep n' o len::xs=>bif Nat.beq n' n then(k xs).bind fun p=>some (o,len,p)else none|_=>none
 | .clo f a b=>match xs with|.clo f' ya yb::xs=>bif Nat.beq f' f&&Nat.beq ya.length a&&Nat.beq yb.length b then k (ya++(yb++xs))else none|_=>none
 | .tup n=>match xs with|.tup ys::xs=>bif Nat.beq ys.length n then k (ys++xs)else none|_=>none
 | .st n=>match xs with|.st ys::xs=>bif Nat.beq ys.length n then k (ys++xs)else none|_=>none
 | .un=>match xs with|.un::xs=>k xs|_=>none
 | .bad=>match xs with|.bad::xs=>k xs|_=>none
def pkT:(l:List Tok)→List SV→{R:Type}→R→Option (qkv l R)
 | [],xs,_,r=>match xs with|[]=>some r|_=>none
 | t::l,xs,_,r=>pk1 t xs fun xs'=>pkT l xs' r
inductive TokB where
 | cells (l:List Tok)
 | row (fx:Bool) (e k:Nat)
 | dead
def tokB(z:Bool):OB→TokB
 | .cells l=>.cells (tokSs z l)
 | .row fx e k _=>.row fx e k
 | .dead=>.dead
def qkx(l:List TokB):Type :=
 List.rec Unit (fun t _ ih=>match t with
  | .cells l=>qkv l ih
  | .row _ _ _=>List T×ih
  | .dead=>ih) l
def unH:(l:List TokB)→qkx l→List OB
 | [],_=>[]
 | .cells c::l,p=>let q:=unT c p;.cells q.1::unH l q.2
 | .row fx e k::l,p=>.row fx e k p.1::unH l p.2
 | .dead::l,p=>.dead::unH l p
def qo4{O:Type}:(l:List TokB)→qkx l→(List OB→O)→O
 | [],_,f=>f []
 | .cells c::l,p,f=>qs0 c p fun q r=>qo4 l r fun H=>f (.cells q::H)
 | .row fx e k::l,p,f=>qo4 l p.2 fun H=>f (.row fx e k p.1::H)
 | .dead::l,p,f=>qo4 l p fun H=>f (.dead::H)
theorem qdx{O:Type}:∀(l:List TokB) (p:qkx l) (f:List OB→O),qo4 l p f=f (unH l p)
 | [],_,_=>rfl
 | .cells c::l,p,f=>(qhq c p _).trans (qdx l _ _)
 | .row _ _ _::l,p,f=>qdx l p.2 _
 | .dead::l,p,f=>qdx l p _
def pkH:(l:List TokB)→List OB→Option (qkx l)
 | [],[]=>some ()
 | .cells c::l,.cells xs::bs=>(pkH l bs).bind fun r=>pkT c xs r
 | .row fx e k::l,.row fx' e' k' xs::bs=>bif(fx' == fx)&&Nat.beq e' e&&Nat.beq k' k then(pkH l bs).bind fun r=>some (xs,r)else none
 | .dead::l,.dead::bs=>pkH l bs
 | _,_=>none
structure Frm where
 keys:List Nat
 bads:List Bool
 ks:List Tok
 hs:List TokB
def qyc:SV→Bool
 | .bad=>true
 | _=>false
def weak:List Bool→List SV→List SV
 | b::bs,x::xs=>(bif b then .bad else x)::weak bs xs
 | _,xs=>xs
abbrev Frm.pay(s:Frm):Type:=qkv s.ks (qkx s.hs)
def pkS(s:Frm)(vs:List SV)(H:List OB):Option s.pay:=(pkH s.hs H).bind fun r=>pkT s.ks (weak s.bads vs) r
end
end Su
end
section
namespace Su
open Go Fly
noncomputable section
def qky:List (Nat×SV)→List Nat
 | []=>[]
 | (_,v)::l=>qaZ v++qky l
def Qz(live:List Nat)(base:Nat):Nat→List OB→List OB
 | _,[]=>[]
 | i,b::l=>(bif Nat.blt i base||Yo live i then b else .dead)::Qz live base (i+1) l
def qfY:List OB→List OB
 | []=>[]
 | b::l=>match qfY l,b with
  | [],.dead=>[]
  | r,b=>b::r
def qs2(h:Nat):SV→SV:=JJ fun n=>bif Nat.blt n h then some n else none
def Qd(base:Nat)(st:St):St :=
 match st.H with
 | []=>⟨st.K,[],[]⟩
 | b0::H0=>
  let H:=b0::H0
  let H1:=Qz (qeh 99 H (List.range base++qky st.K) []) base 0 H
  let H2:=H1.take base++qfY (H1.drop base)
  let h:=H2.length
  bif Nat.beq h H.length then⟨st.K,[],H2⟩else⟨mpK (qs2 h) st.K,[],H2.map (OB.mp (qs2 h))⟩
def Jq:Op→Bool
 | .alloc _|.box _ _=>true
 | _=>false
def QR(E:Env)(st:St):Op→Option (List SV)
 | .alloc e=>(E.T.ze e).bind fun z=>some (mpT (zCs z (E.T.zs e)))
 | .box _ x=>(opd E st x).bind Zd
 | _=>none
inductive NE where
 | new (d:Option Nat) (c:List SV)
 | old (n:Nat) (c:List SV)
def QC(E:Env):St→List NE→St
 | st,[]=>st
 | st,.new d c::l=>QC E { putD E st d (.ref st.H.length 0)with H:=st.H++[.cells c] } l
 | st,.old n c::l=>QC E { st with H:=st.H.set n (.cells c) } l
def qU:Op→Option (Nat×Nat×Operand)
 | .store t (.tmp d) x=>some (d,t,x)
 | _=>none
def j7(d:Nat):List Oper→Bool
 | []=>false
 | o::l=>(match o.dst with|some d'=>Nat.beq d' d|none=>false)||j7 d l
def QS(d:Option Nat):List Oper→Option Nat
 | []=>none
 | o::l=>match d,qU o.op with
  | some d',some (d'',t,_)=>bif Nat.beq d'' d' then some t else QS d l
  | _,_=>QS d l
def qaN{O:Type}(E:Env)(all:List Oper):List Oper→St→(St→Option O)→Option O
 | [],st,k=>k st
 | o::l,st,k=>match qU o.op with
  | none=>qaN E all l st k
  | some (d,t,_)=>bif j7 d all then qaN E all l st k else
   (match st.look d with
    | some (.ref n 0)=>(E.T.ty t).bind fun p=>(match st.H[n]? with
     | some (.cells c)=>bif Nat.beq c.length p.2 then qaN E all l { st with H:=st.H.set n .dead } k else none
     | _=>none)
    | _=>none)
def ZO(T:Tbl):Op→Bool
 | .alloc _|.box _ _|.buildSlice ..|.store ..|.makeSlice ..=>false
 | .move (.const (.slice ..))|.assign (.const (.slice ..))=>false
 | .call c=>match c.callee with
  | .builtin b=>(match b with|.append=>false|.copy=>false|_=>true)
  | .value (.func f)=>Nat.ble (T.mode f) 1
  | _=>false
 | _=>true
def qel{O:Type}(E:Env)(m:Nat)(st:St)(nw:List NE)(k:St→List NE→Option O):Option O :=
 match m with
 | 0=>k (QC E st nw) []
 | _+1=>k st nw
def strO{O:Type}(E:Env)(all:List Oper)(m:Nat)(nw:List NE)(st:St)(d t:Nat)(x:Operand)(k:St→List NE→Option O):Option O :=
 (opd E st x).bind fun sv=>(E.T.ty t).bind fun p=>(cellsOf false st p.1 p.2 sv).bind fun c=>
   bif j7 d all then qel E m st (nw++[.new (some d) c.1]) k else(match st.look d with
    | some (.ref n 0)=>qel E m st (nw++[.old n c.1]) k
    | _=>none)
def newO{O:Type}(E:Env)(m:Nat)(nw:List NE)(st:St)(o:Oper)(r:List Oper)(k:St→List NE→Option O):Option O :=
 (QR E st o.op).bind fun c=>match QS o.dst (r.take m)with
   | some t=>(E.T.ty t).bind fun p=>bif Nat.beq c.length p.2 then qel E m (putD E st o.dst .bad) nw k else none
   | none=>qel E m (putD E st o.dst .bad) (nw++[.new o.dst c]) k
def qwh{O:Type}(E:Env)(all r:List Oper)(q:Bool)(m:Nat)(nw:List NE)(st:St)(o:Oper)(k:St→List NE→Option O):Option O :=
 match m with
 | 0=>Zf E (!q) st o fun sv st'=>k (putD E st' o.dst sv) nw
 | m+1=>
  bif Jq o.op then newO E m nw st o r k
  else match qU o.op with
   | some (d,t,x)=>strO E all m nw st d t x k
   | none=>Zf E false st o fun sv _=>qel E m (putD E st o.dst sv) nw k
def qo5{O:Type}(E:Env)(m:Nat)(nw:List NE)(st:St)(o:Oper)(k:St→List NE→Option O):Option O :=
 match m with
 | 0=>k (putD E st o.dst (.un)) nw
 | m+1=>qel E m (putD E st o.dst (.un)) nw k
def qby:SV→Bool
 | .un=>true
 | _=>false
def QI:List (Nat×SV)→List Nat
 | []=>[]
 | (k,_)::l=>k::QI l
def ZB:List (Nat×SV)→List SV
 | []=>[]
 | (_,v)::l=>v::ZB l
def hdV:List SV→SV
 | []=>.bad
 | x::_=>x
def tlV:List SV→List SV
 | []=>[]
 | _::l=>l
def qcy(ks:List Nat):List SV→List (Nat×SV):=List.rec (fun _=>[]) (fun k _ ih vs=>(k,hdV vs)::ih (tlV vs)) ks
abbrev qo6:=∀ {O:Type},Bool→Nat→List NE→List Nat→St→(St→Option O)→Option O
section
variable (E:Env)
def doO{O:Type}(all r:List Oper)(q:Bool)(m:Nat)(nw:List NE)(D:List Nat)(st:St)(o:Oper)(yes:Bool)(rest:qo6)(k:St→Option O):Option O :=
 bif yes then qwh E all r q m nw st o fun st' nw'=>rest q (m-1) nw' D st' k
 else qo5 E m nw st o fun st' nw'=>rest q (m-1) nw' D st' k
def qkz{O:Type}(all:List Oper)(q:Bool)(m:Nat)(nw:List NE)(D:List Nat)(st:St)(o:Oper)(r:List Oper)(j g:Nat)(b:Bool)(v:SV)(rest:qo6)(k:St→Option O):Option O :=
 bif qby v then doO E all r q m nw D st o false rest k
 else(asB v).bind fun c=>bif Yo D j then doO E all r q m nw D st o (c == b) rest k
 else bif c then doO E all r q m nw (j::D) (st.put E.keep g (mkB true)) o (true == b) rest k else doO E all r q m nw (j::D) (st.put E.keep g (mkB false)) o (false == b) rest k
def Q7(all:Array Oper):List Oper→qo6
 | [],_,_,_,_,_,st,k=>k st
 | o::r,_,q,m,nw,D,st,k=>match o.guard with
  | none=>doO E all.toList r q m nw D st o true (Q7 all r) k
  | some p=>match(all[p.1]?).bind (·.dst)with
   | none=>none
   | some g=>(st.look g).bind fun v=>qkz E all.toList q m nw D st o r p.1 g p.2 v (Q7 all r) k
end
def exN(i:Nat):Code→Nat
 | .exit j=>bif Nat.beq i j then 1 else 0
 | .seq a b=>exN i a+exN i b
 | .cond _ x y=>exN i x+exN i y
 | .block _ b=>exN i b
 | .loop b=>min 1 (exN i b)
 | _=>0
def qwi:Op→Bool
 | .panic _=>true
 | _=>false
def ZP:Code→Bool
 | .skip=>true
 | .label _=>true
 | .region _ ops _=>!(ops.toList.any fun o=>qwi o.op)
 | .seq a b=>ZP a&&ZP b
 | .cond _ x y=>ZP x||ZP y
 | .block i b=>ZP b||Nat.blt 0 (exN i b)
 | _=>false
def qem(E:Env):St→List ResultVar→Option (List SV×St)
 | st,[]=>some ([],st)
 | st,.tmp t::l=>((st.look t).bind nb).bind fun v=>(qem E st l).bind fun p=>some (v::p.1,p.2)
 | st,.cell b t::l=>((st.look b).bind nb).bind fun a=>ldO E true st a t fun v st'=>(qem E st' l).bind fun p=>some (v::p.1,p.2)
def ZH:Nat→List SV→List (Nat×SV)
 | _,[]=>[]
 | i,v::l=>(i,v)::ZH (i+1) l
def qdl{O:Type}(E:Env)(rs:List ResultVar)(st:St)(kr:List SV→List OB→Option O):Option O :=
 (qem E st rs).bind fun p=>let st':=Qd E.base ⟨ZH 0 p.1,[],p.2.H⟩;kr (ZB st'.K) st'.H
def qcZ(keys:List Nat)(st:St):List (Nat×SV):=keys.map fun d=>(d,(st.look d).getD .bad)
def qfF(E:Env)(keys:List Nat)(st:St):St:=Qd E.base ⟨qcZ keys st,[],st.H⟩
def qvc(l:List Nat)(K:List (Nat×SV)):List (Nat×SV):=List.rec [] (fun p _ ih=>Prod.rec (fun k v=>Bool.rec ih ((k,v)::ih) (Yo l k)) p) K
def shape(E:Env)(st:St):Frm:=let z:=E.T.oz E.f;⟨QI st.K,(ZB st.K).map qyc,tokSs z (ZB st.K),st.H.map (tokB z)⟩
def qaO(E:Env)(st:St):St:=match E.T.lv E.f with
 | some l=>qfF E (QI (qvc l st.K)) st
 | none=>st
def unS(s:Frm)(p:s.pay):St:=let q:=unT s.ks p;⟨qcy s.keys q.1,[],unH s.hs q.2⟩
def qhr{O:Type}(s:Frm)(p:s.pay)(f:St→O):O:=qs0 s.ks p fun vs r=>qo4 s.hs r fun H=>f ⟨qcy s.keys vs,[],H⟩
theorem qdy{O:Type}(s:Frm)(p:s.pay)(f:St→O):qhr s p f=f (unS s p):=by
 unfold qhr;rw[qhq,qdx];rfl
def ZI{O:Type}(E:Env)(s:Frm)(st:St)(k:s.pay→Option O):Option O:=let c:=qfF E s.keys st;(pkS s (ZB c.K) c.H).bind k
def qbz:Code→List Nat
 | .exit j=>[j]
 | .seq a b=>qbz a++qbz b
 | .cond _ x y=>qbz x++qbz y
 | .block i b=>(qbz b).filter fun j=>!Nat.beq j i
 | .loop b=>qbz b
 | _=>[]
def qbA:Code→Bool
 | .ret=>true
 | .seq a b=>qbA a||qbA b
 | .cond _ x y=>qbA x||qbA y
 | .block _ b=>qbA b
 | .loop b=>qbA b
 | _=>false
def fN{O:Type}(n:Nat)(k:Nat→O):O :=
 bif Nat.beq n 0 then k 0 else bif Nat.beq n 1 then k 1 else bif Nat.beq n 2 then k 2 else bif Nat.beq n 3 then k 3 else bif Nat.beq n 4 then k 4 else bif Nat.beq n 5 then k 5 else bif Nat.beq n 6 then k 6
 else bif Nat.beq n 7 then k 7 else bif Nat.beq n 8 then k 8 else bif Nat.beq n 9 then k 9 else bif Nat.beq n 10 then k 10 else bif Nat.beq n 11 then k 11 else bif Nat.beq n 12 then k 12 else bif Nat.beq n 13 then k 13 else bif Nat.beq n 14 then k 14 else bif Nat.beq n 15 then k 15 else bif Nat.beq n 16 then k 16 else bif Nat.beq n 17 then k 17 else bif Nat.beq n 18 then k 18 else bif Nat.beq n 19 then k 19 else k n
def fT1{O:Type}(x:T)(k:T→O):O:=match x with
 | .s v=>k (.s v)
 | .agg l=>k (.agg l)
 | .sl w l=>k (.sl w l)
 | .ql u w l=>k (.ql u w l)
 | .pt x o=>k (.pt x o)
 | .fn f a b=>k (.fn f a b)
def fTs{O:Type}(l:List T):(List T→O)→O:=List.rec (fun k=>k []) (fun x _ ih k=>fT1 x fun x=>ih fun l=>k (x::l)) l
def fT{O:Type}(x:T)(k:T→O):O:=match x with
 | .s v=>k (.s v)
 | .agg l=>fTs l fun l=>k (.agg l)
 | .sl w l=>k (.sl w l)
 | .ql u w l=>k (.ql u w l)
 | .pt x o=>fT1 x fun x=>(match x with|.agg l=>fTs l fun l=>k (.pt (.agg l) o)|x=>k (.pt x o))
 | .fn f a b=>fTs a fun a=>fTs b fun b=>k (.fn f a b)
def fS1{O:Type}(x:SV)(k:SV→O):O:=match x with
 | .t x=>fT x fun x=>k (.t x)
 | .ref n o=>fN n fun n=>fN o fun o=>k (.ref n o)
 | .osl n o len=>fN n fun n=>k (.osl n o len)
 | .ep n i o=>fN n fun n=>k (.ep n i o)
 | .clo f a b=>k (.clo f a b)
 | .tup l=>k (.tup l)
 | .st l=>k (.st l)
 | .un=>k .un
 | .bad=>k .bad
def fSs{O:Type}(l:List SV):(List SV→O)→O:=List.rec (fun k=>k []) (fun x _ ih k=>fS1 x fun x=>ih fun l=>k (x::l)) l
def fS{O:Type}(x:SV)(k:SV→O):O:=match x with
 | .clo f a b=>fSs a fun a=>fSs b fun b=>k (.clo f a b)
 | .tup l=>fSs l fun l=>k (.tup l)
 | .st l=>fSs l fun l=>k (.st l)
 | x=>fS1 x k
def fK{O:Type}(l:List (Nat×SV)):(List (Nat×SV)→O)→O:=List.rec (fun k=>k []) (fun p _ ih k=>Prod.rec (fun d x=>fS x fun x=>ih fun l=>k ((d,x)::l)) p) l
def fH{O:Type}(l:List OB):(List OB→O)→O:=List.rec (fun k=>k []) (fun b _ ih k=>match b with
 | .cells c=>fSs c fun c=>ih fun l=>k (.cells c::l)
 | .row fx e w x=>ih fun l=>k (.row fx e w x::l)
 | .dead=>ih fun l=>k (.dead::l)) l
def fSt{O:Type}(st:St)(k:St→O):O:=match st with
 | ⟨K,Tm,H⟩=>fK K fun K=>fK Tm fun Tm=>fH H fun H=>k ⟨K,Tm,H⟩
theorem qyd{O:Type}(n:Nat)(k:Nat→O):fN n k=k n:=by
 have h:∀m (x:O),(n=m→x=k n)→∀y,y=k n→(bif Nat.beq n m then x else y)=k n:=by
  intro m x hx y hy;cases hb:Nat.beq n m with
  | true=>exact hx (zd hb)
  | false=>exact hy
 unfold fN
 repeat (refine h _ _ (fun e=>by rw[e]) _ ?_)
 rfl
theorem qo7{O:Type}(x:T)(k:T→O):fT1 x k=k x:=by cases x <;> rfl
theorem qkA{O:Type}:∀(l:List T) (k:List T→O),fTs l k=k l
 | [],_=>rfl
 | x::l,k=>by
  show fT1 x (fun x=>fTs l fun l=>k (x::l))=_
  rw[qo7,qkA l]
theorem qye{O:Type}(x:T)(k:T→O):fT x k=k x:=by
 cases x <;> simp only[fT,qkA,qo7]
 split <;> simp only[qkA]
theorem qo8{O:Type}(x:SV)(k:SV→O):fS1 x k=k x:=by cases x <;> simp only[fS1,qye,qyd]
theorem qkB{O:Type}:∀(l:List SV) (k:List SV→O),fSs l k=k l
 | [],_=>rfl
 | x::l,k=>by
  show fS1 x (fun x=>fSs l fun l=>k (x::l))=_
  rw[qo8,qkB l]
theorem qyf{O:Type}(x:SV)(k:SV→O):fS x k=k x:=by cases x <;> simp only[fS,qkB,qo8]
theorem qo9{O:Type}:∀(l:List (Nat×SV)) (k:List (Nat×SV)→O),fK l k=k l
 | [],_=>rfl
 | (d,x)::l,k=>by
  show fS x (fun x=>fK l fun l=>k ((d,x)::l))=_
  rw[qyf,qo9 l]
theorem qlM{O:Type}:∀(l:List OB) (k:List OB→O),fH l k=k l
 | [],_=>rfl
 | .cells c::l,k=>by
  show fSs c (fun c=>fH l fun l=>k (.cells c::l))=_
  rw[qkB,qlM l]
 | .row fx e w x::l,k=>by
  show(fH l fun l=>k (.row fx e w x::l))=_
  rw[qlM l]
 | .dead::l,k=>by
  show(fH l fun l=>k (.dead::l))=_
  rw[qlM l]
theorem qen{O:Type}(st:St)(k:St→O):fSt st k=k st:=by
 obtain⟨K,Tm,H⟩:=st;show fK K (fun K=>fK Tm fun Tm=>fH H fun H=>k ⟨K,Tm,H⟩)=_
 rw[qo9,qo9,qlM]
inductive Lp (S O:Type) where
 | exit (i:Nat) (p:S)
 | ret (o:O)
def itP{S R:Type}:Nat→(S→Option (S ⊕ R))→S→Option R
 | 0,_,_=>none
 | n+1,F,s=>(F s).bind fun r=>match r with
  | .inl s'=>itP n F s'
  | .inr r=>some r
abbrev Run:=∀ {O:Type},(St→Option O)→(Nat→St→Option O)→(List SV→List OB→Option O)→St→Option O
def noE{O:Type}:Nat→St→Option O:=fun _ _=>none
def noR{O:Type}:List SV→List OB→Option O:=fun _ _=>none
def qvd{O:Type}(E:Env)(t j:Bool)(x y:Run)(kn:St→Option O)(ke:Nat→St→Option O)(kr:List SV→List OB→Option O)(st:St):Option O :=
 bif j then(fSt (qaO E st) fun su=>let s:=shape E su;(bif t then x (O:=s.pay) (fun st'=>ZI E s st' some) noE noR st else y (O:=s.pay) (fun st'=>ZI E s st' some) noE noR st).bind fun p=>qhr s p kn)
 else bif t then x kn ke kr st else y kn ke kr st
def qpa{O:Type}(E:Env)(i:Nat)(j:Bool)(x:Run)(kn:St→Option O)(ke:Nat→St→Option O)(kr:List SV→List OB→Option O)(st:St):Option O :=
 bif j then(fSt (qaO E st) fun su=>let s:=shape E su;(x (O:=s.pay) (fun st'=>ZI E s st' some) (fun j st'=>bif Nat.beq j i then ZI E s st' some else none) noR st).bind fun p=>qhr s p kn)
 else x kn (fun j st'=>bif Nat.beq j i then kn st' else ke j st') kr st
def qve{O:Type}(E:Env)(b:Code)(x:Run)(ke:Nat→St→Option O)(kr:List SV→List OB→Option O)(st:St):Option O :=
 fSt (qaO E st) fun st=>
 let s:=shape E st
 ZI E s st fun p0=>
 match bif qbA b then[]else qbz b with
 | i::l=>bif l.all fun j=>Nat.beq j i then
  (itP E.n (fun p=>qhr s p fun st=>x (O:=s.pay ⊕ s.pay) (fun st'=>ZI E s st' fun q=>some (.inl q)) (fun j st'=>bif Nat.beq j i then ZI E s st' fun q=>some (.inr q)else none) noR st) p0).bind fun p=>qhr s p (ke i)
  else none
 | []=>(itP E.n (fun p=>qhr s p fun st=>x (O:=s.pay ⊕ Lp s.pay O) (fun st'=>ZI E s st' fun q=>some (.inl q)) (fun j st'=>ZI E s st' fun q=>some (.inr (.exit j q))) (fun r H=>(kr r H).bind fun o=>some (.inr (.ret o))) st) p0).bind fun r=>match r with
  | .exit i p=>qhr s p (ke i)
  | .ret o=>some o
def swP{O:Type}(E:Env):List Oper→Nat→St→(St→Option O)→Option O
 | [],_,st,k=>k st
 | o::l,0,st,k=>swP E l l.length st k
 | o::l,s+1,st,k=>Zf E false st o fun sv _=>swP E l s (putD E st o.dst sv) k
def elS{O:Type}(E:Env)(st:St)(t:Nat)(v u:SV)(k:St→Option O):Option O :=
 (E.T.ty t).bind fun p=>match v with
 | .ep n i off=>match u with
  | .t c=>match st.H[n]? with
   | some (.row fx e w l)=>(l[i]?).bind fun z=>qsV E t off w z fun z=>bif(bif p.1 then c.isAgg else !c.isAgg)&&Nat.beq c.cells.length p.2 then(qoX w z off c).bind fun y=>k { st with H:=st.H.set n (.row fx e w (l.set i y)) }else none
   | _=>none
  | _=>none
 | _=>none
def swS{O:Type}(E:Env)(st:St)(o:Oper)(k:St→Option O):Option O:=match qU o.op with
 | some (d,t,x)=>(st.look d).bind fun v=>(opd E st x).bind fun u=>elS E st t v u k
 | none=>none
def swC{O:Type}(E:Env)(ops:Array Oper)(s m:Nat)(st:St)(k:St→Option O):Option O :=
 swP E (ops.toList.take m) s st fun st1=>match ops.toList[s]? with
  | some o=>swS E st1 o fun st2=>Q7 E ops (ops.toList.drop m) false 0 [] [] st2 k
  | none=>none
def dmS(v:Nat):Nat:=(v-6000) / 64
def dmM(v:Nat):Nat:=(v-6000) % 64
def qpb{O:Type}(E:Env)(id:Nat)(ops:Array Oper)(draw:Bool)(kn:St→Option O)(st:St):Option O :=
 bif draw&&Nat.blt 5000 (E.T.dm E.f id)then(bif Nat.beq (E.T.dm E.f id) 9999 then none else swC E ops (dmS (E.T.dm E.f id)) (dmM (E.T.dm E.f id)) st fun st'=>fSt (Qd E.base st') kn)else(let m:=bif draw then E.T.dm E.f id else 0;qaN E ops.toList (ops.toList.take m) st fun st0=>Q7 E ops ops.toList false m [] [] st0 fun st'=>fSt (Qd E.base st') kn)
def rjSt(E:Env)(ops:List Oper)(l:List Nat)(st:St):St :=
 qfF E l (List.rec st (fun o _ s=>match o.dst with
  | some d=>bif Yo l d then(match E.T.kd o.type with
   | some (.int κ)=>s.put E.keep d (mkI κ 0)
   | some .bool=>s.put E.keep d (mkB false)
   | _=>s)else s
  | none=>s) ops)
def shC(E:Env)(rs:List ResultVar):Code→Run
 | .skip,_,kn,_,_,st=>kn st
 | .region id ops draw,_,kn,_,_,st=>match(bif draw then none else E.T.rj E.f id)with
  | some l=>fSt (rjSt E ops.toList l st) fun su=>let s:=shape E su;(qpb E id ops draw (O:=s.pay) (fun st'=>ZI E s st' some) st).bind fun p=>qhr s p kn
  | none=>qpb E id ops draw kn st
 | .seq a b,_,kn,ke,kr,st=>shC E rs a (shC E rs b kn ke kr) ke kr st
 | .cond c x y,_,kn,ke,kr,st=>(opd E st c).bind fun v=>(asB v).bind fun t=>qvd E t (E.T.jn E.f&&(ZP x&&ZP y&&((qbz x).isEmpty&&(qbz y).isEmpty&&!(qbA x||qbA y)))) (shC E rs x) (shC E rs y) kn ke kr st
 | .block i b,_,kn,ke,kr,st=>qpa E i (E.T.jn E.f&&(qbz b).all (fun j=>Nat.beq j i)&&!qbA b&&Nat.blt 1 ((bif ZP b then 1 else 0)+exN i b)) (shC E rs b) kn ke kr st
 | .loop b,_,_,ke,kr,st=>qve E b (shC E rs b) ke kr st
 | .exit i,_,_,ke,_,st=>ke i st
 | .ret,_,_,_,kr,st=>qdl E rs st kr
 | _,_,_,_,_,_=>none
abbrev jl:=Nat→Option PrimD
def qkC(T:Tbl)(pr:jl)(call:Zy)(n:Nat):Zy:=fun _ f args H k=>
 (T.fns f).bind fun fn=>match fn.body with
   | none=>none
   | some c=>bif Nat.ble args.length fn.ntmps then
    let E:Env:=⟨T,f,T.keep f,H.length,call,n,pr⟩
    shC E fn.results.toList c (fun st=>qdl E fn.results.toList st k) (fun _ _=>none) k ⟨ZH 0 args,[],H⟩else none
def shN(T:Tbl)(pr:jl)(lf:Nat):Nat→Zy
 | 0=>fun _ _ _ _ _=>none
 | n+1=>qkC T pr (shN T pr lf n) lf
def qiE{O:Type}(T0:Tbl)(pr:jl)(call:Zy)(n:Nat)(f:Nat)(args:List T)(dec:List T→Option O):Option O :=
 (T0.fns f).bind fun fn=>match fn.body with
   | none=>none
   | some c=>bif Nat.ble (mpT args).length fn.ntmps then
    let E:Env:=⟨T0,f,T0.keep f,0,call,n,pr⟩
    let fin:List SV→List OB→Option O:=fun r H=>toTsK 64 ⟨[],[],H⟩ r fun ts _=>dec ts
    shC E fn.results.toList c (fun st=>qdl E fn.results.toList st fin) (fun _ _=>none) fin ⟨ZH 0 (mpT args),[],[]⟩else none
end
end Su
end
section
namespace Su
inductive Bt (α:Type) where
 | nil
 | node (l:Bt α) (k:Nat) (v:α) (r:Bt α)
noncomputable def Bt.get{α:Type}(b:Bt α)(t:Nat):Option α :=
 Bt.rec none (fun _ k v _ il ir=>Bool.rec (Bool.rec ir il (Nat.blt t k)) (some v) (Nat.beq t k)) b
def Bt.all{α:Type}(p:Nat→α→Bool):Bt α→Bool
 | .nil=>true
 | .node l k v r=>p k v&&(l.all p&&r.all p)
end Su
end
section
namespace Su
open Go Fly
mutual
inductive Rep (V:qc):T→Value→Prop
 | s {v:Value} (h:qhf v=true):Rep V (.s v) v
 | agg {l:List T} {vs:List Value} (h:RepA V l vs) (hc:∀x∈l,x.isAgg=false):Rep V (.agg l) (.agg vs.toArray)
 | sl {k:Nat} {l:List T} {vs:List Value} {a:Option Addr} {cap:Nat} (h:RepA V (l.flatMap T.cells) vs) (hc:∀x∈l.flatMap T.cells,x.isAgg=false) (hw:∀x∈l,x.cells.length=k)
  (h1:l.length≤cap) (h2:cap≤maxLen) (h3:l=[]∨∃b off,a=some ⟨b,off,none⟩∧∀j c,vs[j]?=some c→rd V b (off+j) c):Rep V (.sl k l) (.slice a l.length cap)
 | ql {u k:Nat} {l:List (U u)} {v:Value} (h:Rep V (.sl k (l.map (view u))) v):Rep V (.ql u k l) v
 | pt {x:T} {off b o:Nat} {vs:List Value} (h:RepA V x.cells vs) (hc:∀y∈x.cells,y.isAgg=false) (h1:∀j c,vs[j]?=some c→rd V b (o+j) c):Rep V (.pt x off) (.pointer (some ⟨b,o+off,none⟩))
 | fn {f:Nat} {a b:List T} {va vb:List Value} (h:RepA V a va) (h':RepA V b vb):Rep V (.fn f a b) (.func (.func f) va.toArray vb.toArray)
inductive RepA (V:qc):List T→List Value→Prop
 | nil:RepA V [] []
 | cons {x:T} {v:Value} {l:List T} {vs:List Value} (h:Rep V x v) (h':RepA V l vs):RepA V (x::l) (v::vs)
end
mutual
theorem Rep.mono{V V':qc}(hs:Sub V V'):∀ {x:T} {v:Value},Rep V x v→Rep V' x v
 | _,_,.s h=>.s h
 | _,_,.agg h hc=>.agg (RepA.mono hs h) hc
 | _,_,.sl h hc hw h1 h2 h3=>.sl (RepA.mono hs h) hc hw h1 h2 (h3.imp id fun⟨b,off,e,h⟩=>⟨b,off,e,fun j c hj=>(h j c hj).mono hs⟩)
 | _,_,.ql h=>.ql (Rep.mono hs h)
 | _,_,.pt h hc h1=>.pt (RepA.mono hs h) hc fun j c hj=>(h1 j c hj).mono hs
 | _,_,.fn h h'=>.fn (RepA.mono hs h) (RepA.mono hs h')
theorem RepA.mono{V V':qc}(hs:Sub V V'):∀ {l:List T} {vs:List Value},RepA V l vs→RepA V' l vs
 | _,_,.nil=>.nil
 | _,_,.cons h h'=>.cons (Rep.mono hs h) (RepA.mono hs h')
end
theorem RepA.length{V:qc}:∀ {l:List T} {vs:List Value},RepA V l vs→l.length=vs.length
 | _,_,.nil=>rfl
 | _,_,.cons _ h=>by simp[h.length]
theorem RepA.append{V:qc}:∀ {l:List T} {vs:List Value} {l':List T} {vs':List Value},RepA V l vs→RepA V l' vs'→RepA V (l++l') (vs++vs')
 | _,_,_,_,.nil,h=>h
 | _,_,_,_,.cons h h',h2=>.cons h (h'.append h2)
theorem RepA.get{V:qc}:∀ {l:List T} {vs:List Value},RepA V l vs→∀ {i:Nat} {x:T},l[i]?=some x→∃v,vs[i]?=some v∧Rep V x v
 | _,_,.nil,i,x,h=>by simp at h
 | _,_,.cons (v:=v) h h',0,x,e=>by simp at e;subst e;exact⟨v,by simp,h⟩
 | _,_,.cons h h',i+1,x,e=>by simp at e ⊢;exact h'.get e
theorem RepA.drop{V:qc}:∀(n:Nat) {l:List T} {vs:List Value},RepA V l vs→RepA V (l.drop n) (vs.drop n)
 | 0,_,_,h=>h
 | n+1,_,_,.nil=>.nil
 | n+1,_,_,.cons _ h=>by simpa using h.drop n
theorem RepA.take{V:qc}:∀(n:Nat) {l:List T} {vs:List Value},RepA V l vs→RepA V (l.take n) (vs.take n)
 | 0,_,_,_=>.nil
 | n+1,_,_,.nil=>.nil
 | n+1,_,_,.cons h h'=>.cons h (h'.take n)
theorem RepA.split{V:qc}{l l':List T}{vs:List Value}(h:RepA V (l++l') vs):∃v1 v2,vs=v1++v2∧RepA V l v1∧RepA V l' v2:=by
 refine⟨vs.take l.length,vs.drop l.length,(Kw _ _).symm,?_,?_⟩
 · simpa using h.take l.length
 · simpa using h.drop l.length
theorem Rep.cells{V:qc}{x:T}{v:Value}(h:Rep V x v):∃vs:List Value,v.cells=vs.toArray∧RepA V x.cells vs∧∀y∈x.cells,y.isAgg=false:=by
 cases h with
 | s h=>exact⟨[v],by cases v <;> simp[qhf]at h <;> rfl,.cons (.s h) .nil,by simp[T.cells,T.isAgg]⟩
 | agg h hc=>exact⟨_,by simp[Value.cells],h,hc⟩
 | sl h hc hw h1 h2 h3=>exact⟨[_],rfl,.cons (.sl h hc hw h1 h2 h3) .nil,by simp[T.cells,T.isAgg]⟩
 | ql h=>cases h with|sl h hc hw h1 h2 h3=>exact⟨[_],rfl,.cons (.ql (.sl h hc hw h1 h2 h3)) .nil,by simp[T.cells,T.isAgg]⟩
 | pt h hc h1=>exact⟨[_],rfl,.cons (.pt h hc h1) .nil,by simp[T.cells,T.isAgg]⟩
 | fn h h'=>exact⟨[_],rfl,.cons (.fn h h') .nil,by simp[T.cells,T.isAgg]⟩
theorem Rep.one{V:qc}{x:T}{v:Value}(h:Rep V x v)(hx:x.isAgg=false):v.oneCell'=true∧v.cells = #[v]:=by
 cases h with
 | s h=>cases v <;> simp[qhf]at h <;> exact⟨rfl,rfl⟩
 | agg h hc=>simp[T.isAgg]at hx
 | sl h hc hw h1 h2 h3=>exact⟨rfl,rfl⟩
 | ql h=>cases h;exact⟨rfl,rfl⟩
 | pt h hc h1=>exact⟨rfl,rfl⟩
 | fn h h'=>exact⟨rfl,rfl⟩
inductive IE where
 | blk (b:Nat)
 | row (b k ct:Nat)
 | vrow
mutual
inductive RepS (V:qc) (I:List IE):SV→Value→Prop
 | t {x:T} {v:Value} (h:Rep V x v):RepS V I (.t x) v
 | un:RepS V I .un undef
 | bad {v:Value}:RepS V I .bad v
 | ref {n off b:Nat} (h:I[n]?=some (.blk b)):RepS V I (.ref n off) (.pointer (some ⟨b,off,none⟩))
 | osl {n off len b k ct cap:Nat} (h:I[n]?=some (.row b k ct)) (h1:off+len≤ct) (h2:ct≤maxLen) (h3:len≤cap∧off+cap≤ct):RepS V I (.osl n off len) (.slice (some ⟨b,off*k,none⟩) len cap)
 | osl0 {n off cap:Nat} {a:Option Addr} (h0:off≠0) (h:cap≤maxLen):RepS V I (.osl n off 0) (.slice a 0 cap)
 | oslv {n:Nat} (h:I[n]?=some .vrow):RepS V I (.osl n 0 0) (.slice none 0 0)
 | oslp {n len b:Nat} (h:I[n]?=some (.blk b)) (h1:len≤maxLen):RepS V I (.osl n 0 len) (.slice (some ⟨b,0,none⟩) len len)
 | ep {n i off b k ct:Nat} (h:I[n]?=some (.row b k ct)):RepS V I (.ep n i off) (.pointer (some ⟨b,i*k+off,none⟩))
 | clo {f:Nat} {a b:List SV} {va vb:List Value} (h:RepSs V I a va) (h':RepSs V I b vb):RepS V I (.clo f a b) (.func (.func f) va.toArray vb.toArray)
 | tup {l:List SV} {vs:List Value} (h:RepSs V I l vs):RepS V I (.tup l) (.tuple vs.toArray)
 | st {l:List SV} {vs:List Value} (h:RepSs V I l vs):RepS V I (.st l) (.agg vs.toArray)
inductive RepSs (V:qc) (I:List IE):List SV→List Value→Prop
 | nil:RepSs V I [] []
 | cons {x:SV} {v:Value} {l:List SV} {vs:List Value} (h:RepS V I x v) (h':RepSs V I l vs):RepSs V I (x::l) (v::vs)
end
def qV(V V':qc)(I I':List IE)(g:SV→SV):Prop:=∀x v,RepS V I x v→(∀f a b,x≠.clo f a b)→(∀l,x≠.tup l)→(∀l,x≠.st l)→RepS V' I' (g x) v
mutual
theorem RepS.map{V V':qc}{I I':List IE}{g:SV→SV}(hg:qV V V' I I' g):∀ {x:SV} {v:Value},RepS V I x v→RepS V' I' (x.mp g) v
 | _,_,.t h=>hg _ _ (.t h) (by intros;simp) (by intros;simp) (by intros;simp)
 | _,_,.un=>hg _ _ .un (by intros;simp) (by intros;simp) (by intros;simp)
 | _,_,.bad=>hg _ _ .bad (by intros;simp) (by intros;simp) (by intros;simp)
 | _,_,.ref h=>hg _ _ (.ref h) (by intros;simp) (by intros;simp) (by intros;simp)
 | _,_,.osl h h1 h2 h3=>hg _ _ (.osl h h1 h2 h3) (by intros;simp) (by intros;simp) (by intros;simp)
 | _,_,.osl0 h0 h=>hg _ _ (.osl0 h0 h) (by intros;simp) (by intros;simp) (by intros;simp)
 | _,_,.oslv h=>hg _ _ (.oslv h) (by intros;simp) (by intros;simp) (by intros;simp)
 | _,_,.oslp h h1=>hg _ _ (.oslp h h1) (by intros;simp) (by intros;simp) (by intros;simp)
 | _,_,.ep h=>hg _ _ (.ep h) (by intros;simp) (by intros;simp) (by intros;simp)
 | _,_,.clo h h'=>.clo (RepSs.map hg h) (RepSs.map hg h')
 | _,_,.tup h=>.tup (RepSs.map hg h)
 | _,_,.st h=>.st (RepSs.map hg h)
theorem RepSs.map{V V':qc}{I I':List IE}{g:SV→SV}(hg:qV V V' I I' g):∀ {l:List SV} {vs:List Value},RepSs V I l vs→RepSs V' I' (mpL g l) vs
 | _,_,.nil=>.nil
 | _,_,.cons h h'=>.cons (RepS.map hg h) (RepSs.map hg h')
end
def Ile(I I':List IE):Prop:=∀(n:Nat) (ie:IE),I[n]?=some ie→I'[n]?=some ie
mutual
theorem RepS.mono{V V':qc}{I I':List IE}(hs:Sub V V')(hI:Ile I I'):∀ {x:SV} {v:Value},RepS V I x v→RepS V' I' x v
 | _,_,.t h=>.t (h.mono hs)
 | _,_,.un=>.un
 | _,_,.bad=>.bad
 | _,_,.ref h=>.ref (hI _ _ h)
 | _,_,.osl h h1 h2 h3=>.osl (hI _ _ h) h1 h2 h3
 | _,_,.osl0 h0 h=>.osl0 h0 h
 | _,_,.oslv h=>.oslv (hI _ _ h)
 | _,_,.oslp h h1=>.oslp (hI _ _ h) h1
 | _,_,.ep h=>.ep (hI _ _ h)
 | _,_,.clo h h'=>.clo (RepSs.mono hs hI h) (RepSs.mono hs hI h')
 | _,_,.tup h=>.tup (RepSs.mono hs hI h)
 | _,_,.st h=>.st (RepSs.mono hs hI h)
theorem RepSs.mono{V V':qc}{I I':List IE}(hs:Sub V V')(hI:Ile I I'):∀ {l:List SV} {vs:List Value},RepSs V I l vs→RepSs V' I' l vs
 | _,_,.nil=>.nil
 | _,_,.cons h h'=>.cons (RepS.mono hs hI h) (RepSs.mono hs hI h')
end
theorem Ile.refl(I:List IE):Ile I I:=fun _ _ h=>h
theorem Ile.app(I I':List IE):Ile I (I++I'):=fun n ie h=>by
 have:n<I.length:=(zu.1 h).1
 rw[Ki this];exact h
theorem RepSs.length{V:qc}{I:List IE}:∀ {l:List SV} {vs:List Value},RepSs V I l vs→l.length=vs.length
 | _,_,.nil=>rfl
 | _,_,.cons _ h=>by simp[h.length]
theorem RepSs.append{V:qc}{I:List IE}:∀ {l:List SV} {vs:List Value} {l':List SV} {vs':List Value},RepSs V I l vs→RepSs V I l' vs'→RepSs V I (l++l') (vs++vs')
 | _,_,_,_,.nil,h=>h
 | _,_,_,_,.cons h h',h2=>.cons h (h'.append h2)
theorem RepSs.get{V:qc}{I:List IE}:∀ {l:List SV} {vs:List Value},RepSs V I l vs→∀ {i:Nat} {x:SV},l[i]?=some x→∃v,vs[i]?=some v∧RepS V I x v
 | _,_,.nil,i,x,h=>by simp at h
 | _,_,.cons (v:=v) h h',0,x,e=>by simp at e;subst e;exact⟨v,by simp,h⟩
 | _,_,.cons h h',i+1,x,e=>by simp at e ⊢;exact h'.get e
theorem RepSs.drop{V:qc}{I:List IE}:∀(n:Nat) {l:List SV} {vs:List Value},RepSs V I l vs→RepSs V I (l.drop n) (vs.drop n)
 | 0,_,_,h=>h
 | n+1,_,_,.nil=>.nil
 | n+1,_,_,.cons _ h=>by simpa using h.drop n
theorem RepSs.take{V:qc}{I:List IE}:∀(n:Nat) {l:List SV} {vs:List Value},RepSs V I l vs→RepSs V I (l.take n) (vs.take n)
 | 0,_,_,_=>.nil
 | n+1,_,_,.nil=>.nil
 | n+1,_,_,.cons h h'=>.cons h (h'.take n)
theorem RepSs.ofT{V:qc}{I:List IE}:∀ {l:List T} {vs:List Value},RepA V l vs→RepSs V I (mpT l) vs
 | _,_,.nil=>.nil
 | _,_,.cons h h'=>.cons (.t h) (RepSs.ofT h')
theorem RepSs.asTs{V:qc}{I:List IE}:∀ {l:List SV} {vs:List Value} {xs:List T},RepSs V I l vs→asTs l=some xs→RepA V xs vs
 | _,_,xs,.nil,e=>by simp only[Su.asTs,za]at e;subst e;exact .nil
 | .t x::l,_,xs,.cons h h',e=>by
  simp only[Su.asTs]at e;cases hq:Su.asTs l with
  | none=>rw[hq]at e;simp at e
  | some r=>
   rw[hq]at e;simp only[zm,za]at e;subst e;cases h with|t h=>exact .cons h (RepSs.asTs h' hq)
 | .un::_,_,_,_,e|.bad::_,_,_,_,e|.ref _ _::_,_,_,_,e|.osl _ _ _::_,_,_,_,e|.ep _ _ _::_,_,_,_,e|.clo _ _ _::_,_,_,_,e|.tup _::_,_,_,_,e|.st _::_,_,_,_,e=>by simp[Su.asTs]at e
def jG:SV→Bool
 | .t x=>!x.isAgg
 | .tup _=>false
 | .st _=>false
 | .un=>false
 | _=>true
inductive RepOB (V:qc) (I:List IE):OB→IE→Own→Prop
 | cells {l:List SV} {vs:List Value} {b e:Nat} (h:RepSs V I l vs) (hc:∀x∈l,jG x=true):RepOB V I (.cells l) (.blk b) [(b,.cells vs.toArray e (0,0))]
 | row {fx:Bool} {e k b ct:Nat} {l:List T} {cur:Array Value} (h1:cur.size=ct*k) (h2:ct≤maxLen) (h3:l.length≤ct) (h:RepA V (l.flatMap T.cells) (cur.toList.take (l.length*k)))
  (hc:∀x∈l.flatMap T.cells,x.isAgg=false) (hw:∀x∈l,x.cells.length=k):RepOB V I (.row fx e k l) (.row b k ct) [(b,.cells cur e (0,0))]
 | vrow {fx:Bool} {e k:Nat}:RepOB V I (.row fx e k []) .vrow []
 | dead {ie:IE}:RepOB V I .dead ie []
inductive GRel (V:qc) (I:List IE):List IE→List OB→Own→Prop
 | nil:GRel V I [] [] []
 | cons {ie:IE} {ob:OB} {g:Own} {Is:List IE} {H:List OB} {G:Own} (h:RepOB V I ob ie g) (h':GRel V I Is H G):GRel V I (ie::Is) (ob::H) (g++G)
def GR(V:qc)(I:List IE)(H:List OB)(G:Own):Prop:=∃G0,GRel V I I H G0∧G.Perm G0
theorem GRel.length{V:qc}{I:List IE}:∀ {Is:List IE} {H:List OB} {G:Own},GRel V I Is H G→Is.length=H.length
 | _,_,_,.nil=>rfl
 | _,_,_,.cons _ h=>by simp[h.length]
theorem RepOB.map{V V':qc}{I I':List IE}{g:SV→SV}(hs:Sub V V')(hg:qV V V' I I' g)(hc':∀x,jG x=true→jG (g x)=true){ob:OB}{ie:IE}{G:Own}(h:RepOB V I ob ie G):RepOB V' I' (ob.mp g) ie G:=by
 cases h with
 | cells h hc=>
  refine .cells (h.map hg) ?_
  rename_i l _ _ _;clear h;induction l with
  | nil=>intro x hx;simp[mpL]at hx
  | cons y l ih=>
   intro x hx;simp only[mpL,zK]at hx;rcases hx with rfl|hx
   · have:=hc y (by simp)
     cases y <;> simp only[SV.mp] <;> first|exact hc' _ this|(simp[jG]at this ⊢)
   · exact ih (fun z hz=>hc z (by simp[hz])) x hx
 | row h1 h2 h3 h hc hw=>exact .row h1 h2 h3 (h.mono hs) hc hw
 | vrow=>exact .vrow
 | dead=>exact .dead
theorem GRel.map{V V':qc}{I I':List IE}{g:SV→SV}(hs:Sub V V')(hg:qV V V' I I' g)(hc':∀x,jG x=true→jG (g x)=true):∀ {Is:List IE} {H:List OB} {G:Own},GRel V I Is H G→GRel V' I' Is (H.map (OB.mp g)) G
 | _,_,_,.nil=>.nil
 | _,_,_,.cons h h'=>.cons (h.map hs hg hc') (h'.map hs hg hc')
theorem RepOB.mono{V V':qc}{I I':List IE}(hs:Sub V V')(hI:Ile I I'){ob:OB}{ie:IE}{G:Own}(h:RepOB V I ob ie G):RepOB V' I' ob ie G:=by
 cases h with
 | cells h hc=>exact .cells (h.mono hs hI) hc
 | row h1 h2 h3 h hc hw=>exact .row h1 h2 h3 (h.mono hs) hc hw
 | vrow=>exact .vrow
 | dead=>exact .dead
theorem GRel.mono{V V':qc}{I I':List IE}(hs:Sub V V')(hI:Ile I I'):∀ {Is:List IE} {H:List OB} {G:Own},GRel V I Is H G→GRel V' I' Is H G
 | _,_,_,.nil=>.nil
 | _,_,_,.cons h h'=>.cons (h.mono hs hI) (h'.mono hs hI)
theorem GRel.append{V:qc}{I:List IE}:∀ {Is:List IE} {H:List OB} {G:Own} {Is':List IE} {H':List OB} {G':Own},GRel V I Is H G→GRel V I Is' H' G'→GRel V I (Is++Is') (H++H') (G++G')
 | _,_,_,_,_,_,.nil,h=>h
 | _,_,_,_,_,_,.cons h h',h2=>by
  rw[zw];exact .cons h (h'.append h2)
theorem GRel.focus{V:qc}{I:List IE}:∀ {Is:List IE} {H:List OB} {G:Own},GRel V I Is H G→∀ {n:Nat} {ob:OB},H[n]?=some ob →
 ∃ie g G1,Is[n]?=some ie∧RepOB V I ob ie g∧G.Perm (g++G1)∧∀ob' ie' g',RepOB V I ob' ie' g'→∃G',GRel V I (Is.set n ie') (H.set n ob') G'∧G'.Perm (g'++G1)
 | _,_,_,.nil,n,ob,h=>by simp at h
 | _,_,_,.cons (ie:=ie) (g:=g) (G:=G) h h',0,ob,e=>by
  simp at e;subst e;exact⟨ie,g,G,by simp,h,zr _,fun ob' ie' g' h2=>⟨g'++G,.cons h2 h',zr _⟩⟩
 | _,_,_,.cons (g:=g0) (G:=G0) h h',n+1,ob,e=>by
  simp at e;obtain⟨ie,g,G1,h1,h2,h3,h4⟩:=h'.focus e;refine⟨ie,g,g0++G1,by simpa using h1,h2,?_,fun ob' ie' g' hr=>?_⟩
  · refine(h3.append_left g0).trans ?_
    rw[← zw,← zw];exact List.perm_append_comm.append_right _
  · obtain⟨G',k1,k2⟩:=h4 ob' ie' g' hr
    refine⟨g0++G',by simpa using GRel.cons h k1,(k2.append_left g0).trans ?_⟩
    rw[← zw,← zw];exact List.perm_append_comm.append_right _
end Su
end
