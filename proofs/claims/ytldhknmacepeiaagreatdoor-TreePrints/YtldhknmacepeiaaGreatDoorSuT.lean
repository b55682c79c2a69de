/-
  An evaluator, proved sound. No condition.
-/
import Derived.Test.YtldhknmacepeiaaGreatDoorFlyM
set_option linter.unusedVariables false
set_option linter.unusedSimpArgs false
section
namespace Su
open Go Fly
inductive Ex where
 | mk (op pos:Int) (b:Bool) (i f:Int) (name:ByteArray) (args:List Ex)
def Ex.op:Ex→Int|.mk o _ _ _ _ _ _=>o
def Ex.pos:Ex→Int|.mk _ a _ _ _ _ _=>a
def Ex.b:Ex→Bool|.mk _ _ b _ _ _ _=>b
def Ex.i:Ex→Int|.mk _ _ _ i _ _ _=>i
def Ex.f:Ex→Int|.mk _ _ _ _ f _ _=>f
def Ex.name:Ex→ByteArray|.mk _ _ _ _ _ n _=>n
def Ex.args:Ex→List Ex|.mk _ _ _ _ _ _ l=>l
inductive Sm where
 | mk (kind pos:Int) (name:ByteArray) (index:List Ex) (expr:Ex) (lo hi:Int) (thn els:List Sm)
def Sm.kind:Sm→Int|.mk x _ _ _ _ _ _ _ _=>x
def Sm.pos:Sm→Int|.mk _ x _ _ _ _ _ _ _=>x
def Sm.name:Sm→ByteArray|.mk _ _ x _ _ _ _ _ _=>x
def Sm.index:Sm→List Ex|.mk _ _ _ x _ _ _ _ _=>x
def Sm.expr:Sm→Ex|.mk _ _ _ _ x _ _ _ _=>x
def Sm.lo:Sm→Int|.mk _ _ _ _ _ x _ _ _=>x
def Sm.hi:Sm→Int|.mk _ _ _ _ _ _ x _ _=>x
def Sm.thn:Sm→List Sm|.mk _ _ _ _ _ _ _ x _=>x
def Sm.els:Sm→List Sm|.mk _ _ _ _ _ _ _ _ x=>x
structure Dc where
 pos:Int
 input:Bool
 name:ByteArray
 type:Int
 len:Int
 range:Bool
 lo:Ex
 hi:Ex
structure Tm where
 id:Int
 c:Int
structure Ce where
 f:Bool
 t:Bool
 i:Bool×Int×Int
 d:Bool×Int×Int
 p:Bool×Int×Int
 s:Bool×Int×Int
 sl:Int
 fm:Bool×Int×List Tm×Int
structure Cc where
 name:ByteArray
 pos:Int
 len:Int
 type:Int
 input:Bool
 lo:Int
 hi:Int
 fr:Int
 to:Int
structure Vl where
 type:Int
 b:Bool
 i:Int
 f:Int
structure Pr where
 v:Vl
 neg:Bool
 num:List Int
 den:List Int
 known:Bool
def U:Nat→Type
 | 0=>Int
 | 1=>Int
 | 2=>Int
 | 3=>Int
 | 4=>Bool
 | 5=>ByteArray
 | 6=>Ex
 | 7=>Sm
 | 8=>Dc
 | 9=>Int×Int
 | 10=>Tm
 | 11=>Bool×Int×List Tm×Int
 | 12=>Bool×Int×Int
 | 13=>Bool×Int×Int
 | 14=>Ce
 | 15=>Cc
 | 16=>Vl
 | 17=>Pr
 | 18=>Bool×Bool×Int×Int×List Ce
 | 19=>Int×Int×ByteArray×Int×Int
 | _=>Unit
end Su
end
section
namespace Su
open Go Fly
noncomputable section
inductive T where
 | s (v:Value)
 | agg (l:List T)
 | sl (k:Nat) (l:List T)
 | ql (u k:Nat) (l:List (U u))
 | pt (x:T) (off:Nat)
 | fn (f:Nat) (fst cap:List T)
def Ex.cells(e:Ex):List T:=[.s (.int .u8 e.op),.s (.int .i64 e.pos),.s (.bool e.b),.s (.int .i32 e.i),.s (.int .u64 e.f),.s (.string e.name),.ql 6 7 e.args]
def view:(u:Nat)→U u→T
 | 0,n=>.s (.int .u8 n)
 | 1,n=>.s (.int .u32 n)
 | 2,n=>.s (.int .u64 n)
 | 3,n=>.s (.int .i64 n)
 | 4,b=>.s (.bool b)
 | 5,s=>.s (.string s)
 | 6,e=>.agg (Ex.cells e)
 | 7,(s:Sm)=>.agg ([.s (.int .u8 s.kind),.s (.int .i64 s.pos),.s (.string s.name),.ql 6 7 s.index]++Ex.cells s.expr++[.s (.int .i32 s.lo),.s (.int .i32 s.hi),.ql 7 15 s.thn,.ql 7 15 s.els])
 | 8,(d:Dc)=>.agg ([.s (.int .i64 d.pos),.s (.bool d.input),.s (.string d.name),.s (.int .u8 d.type),.s (.int .i64 d.len),.s (.bool d.range)]++Ex.cells d.lo++Ex.cells d.hi)
 | 9,(p:Int×Int)=>.agg [.s (.int .u64 p.1),.s (.int .u64 p.2)]
 | 10,(t:Tm)=>.agg [.s (.int .i64 t.id),.s (.int .u64 t.c)]
 | 11,(p:Bool×Int×List Tm×Int)=>.agg [.s (.bool p.1),.s (.int .u64 p.2.1),.ql 10 2 p.2.2.1,.s (.int .u64 p.2.2.2)]
 | 12,(p:Bool×Int×Int)=>.agg [.s (.bool p.1),.s (.int .u64 p.2.1),.s (.int .u64 p.2.2)]
 | 13,(p:Bool×Int×Int)=>.agg [.s (.bool p.1),.s (.int .i64 p.2.1),.s (.int .i64 p.2.2)]
 | 14,(c:Ce)=>.agg [.s (.bool c.f),.s (.bool c.t),.s (.bool c.i.1),.s (.int .i64 c.i.2.1),.s (.int .i64 c.i.2.2),.s (.bool c.d.1),.s (.int .i64 c.d.2.1),.s (.int .i64 c.d.2.2),
  .s (.bool c.p.1),.s (.int .i64 c.p.2.1),.s (.int .i64 c.p.2.2),.s (.bool c.s.1),.s (.int .u64 c.s.2.1),.s (.int .u64 c.s.2.2),.s (.int .u64 c.sl),.s (.bool c.fm.1),.s (.int .u64 c.fm.2.1),.ql 10 2 c.fm.2.2.1,.s (.int .u64 c.fm.2.2.2)]
 | 15,(c:Cc)=>.agg [.s (.string c.name),.s (.int .i64 c.pos),.s (.int .i64 c.len),.s (.int .u8 c.type),.s (.bool c.input),.s (.int .u64 c.lo),.s (.int .u64 c.hi),.s (.int .i32 c.fr),.s (.int .i32 c.to)]
 | 16,(c:Vl)=>.agg [.s (.int .u8 c.type),.s (.bool c.b),.s (.int .i32 c.i),.s (.int .u64 c.f)]
 | 17,(c:Pr)=>.agg [.s (.int .u8 c.v.type),.s (.bool c.v.b),.s (.int .i32 c.v.i),.s (.int .u64 c.v.f),.s (.bool c.neg),.ql 1 1 c.num,.ql 1 1 c.den,.s (.bool c.known)]
 | 18,(c:Bool×Bool×Int×Int×List Ce)=>.agg [.s (.bool c.1),.s (.bool c.2.1),.s (.int .i64 c.2.2.1),.s (.int .i64 c.2.2.2.1),.ql 14 19 c.2.2.2.2]
 | 19,(c:Int×Int×ByteArray×Int×Int)=>.agg [.s (.int .u8 c.1),.s (.int .i64 c.2.1),.s (.string c.2.2.1),.s (.int .i32 c.2.2.2.1),.s (.int .u64 c.2.2.2.2)]
 | _,_=>.s .nilIface
inductive SV where
 | t (x:T)
 | ref (n off:Nat)
 | osl (n off len:Nat)
 | ep (n i off:Nat)
 | clo (f:Nat) (fst cap:List SV)
 | tup (l:List SV)
 | st (l:List SV)
 | un
 | bad
inductive OB where
 | cells (l:List SV)
 | row (fx:Bool) (e k:Nat) (l:List T)
 | dead
structure St where
 K:List (Nat×SV)
 Tm:List (Nat×SV)
 H:List OB
inductive Kd where
 | int (κ:IntKind)
 | bool
 | str
 | flat (us:List TypeDesc)
 | arr (m:Nat) (g:Bool) (w:Nat)
structure Tbl where
 ty:Nat→Option (Bool×Nat)
 kd:Nat→Option Kd
 fo:Nat→Nat→Option (Nat×Bool×Nat)
 el:Nat→Option (Nat×Nat)
 ze:Nat→Option (List Value)
 zs:Nat→List (Option (Nat×Nat))
 sml:Nat→Bool
 glob:Nat→Option T
 gv:Nat→Option Nat
 keep:Nat→List Nat
 dm:Nat→Nat→Nat
 mode:Nat→Nat
 jn:Nat→Bool
 oz:Nat→Bool
 bz:Nat→Bool
 fb:Nat→Nat→Bool
 nz:Nat→Option Nat
 lv:Nat→Option (List Nat)
 rj:Nat→Nat→Option (List Nat)
 fns:Nat→Option Func
 ext:Nat→Option Nat
structure PrimD where
 ρ:Type
 g:List T→Option ρ
 enc:ρ→List T
 own:Option (Nat×Nat):=none
 fresh:Option (Nat×Nat):=none
 gT:List T→Option ρ:=fun _=>none
abbrev Zy:=∀(O:Type),Nat→List SV→List OB→(List SV→List OB→Option O)→Option O
structure Env where
 T:Tbl
 f:Nat
 keep:List Nat
 base:Nat
 call:Zy
 n:Nat
 prim:Nat→Option PrimD
def lkG{α:Type}(l:List (Nat×α))(t:Nat):Option α :=
 List.rec none (fun p _ ih=>Prod.rec (fun k v=>Bool.rec ih (some v) (Nat.beq k t)) p) l
def Yo(l:List Nat)(t:Nat):Bool:=List.rec false (fun k _ ih=>Bool.rec ih true (Nat.beq k t)) l
def qko(l:List (Nat×SV))(d:Nat)(v:SV):List (Nat×SV) :=
 List.rec [(d,v)] (fun p l ih=>Prod.rec (fun k u=>Bool.rec ((k,u)::ih) ((k,v)::l) (Nat.beq k d)) p) l
@[simp] theorem lkG_nil {α:Type} (t:Nat):lkG ([]:List (Nat×α)) t=none:=rfl
theorem yM{α:Type}(k:Nat)(v:α)(l:List (Nat×α))(t:Nat):lkG ((k,v)::l) t=bif Nat.beq k t then some v else lkG l t:=by
 cases h:Nat.beq k t <;> simp[lkG,h]
@[simp] theorem hasN_nil (t:Nat):Yo [] t=false:=rfl
theorem qnr(k:Nat)(l:List Nat)(t:Nat):Yo (k::l) t=bif Nat.beq k t then true else Yo l t:=by
 cases h:Nat.beq k t <;> simp[Yo,h]
@[simp] theorem setK_nil (d:Nat) (v:SV):qko [] d v=[(d,v)]:=rfl
theorem qfR(k:Nat)(u:SV)(l:List (Nat×SV))(d:Nat)(v:SV):qko ((k,u)::l) d v=bif Nat.beq k d then(k,v)::l else(k,u)::qko l d v:=by
 cases h:Nat.beq k d <;> simp[qko,h]
def Qj{α:Type}:List α→Nat→Nat→Option (List α)
 | _,0,0=>some []
 | [],_,_=>none
 | x::l,0,k+1=>(Qj l 0 k).bind fun r=>some (x::r)
 | _::l,o+1,k=>Qj l o k
def jL{α:Type}:List α→List α→Option (List α)
 | l,[]=>some l
 | [],_::_=>none
 | _::l,v::vs=>(jL l vs).bind fun r=>some (v::r)
def yN{α:Type}:List α→Nat→List α→Option (List α)
 | l,0,vs=>jL l vs
 | [],_+1,_=>none
 | x::l,o+1,vs=>(yN l o vs).bind fun r=>some (x::r)
def T.cells:T→List T
 | .agg l=>l
 | x=>[x]
def T.isAgg:T→Bool
 | .agg _=>true
 | _=>false
def ldT(x:T)(off:Nat)(g:Bool)(k:Nat):Option T :=
 bif g then bif Nat.blt 0 k then(Qj x.cells off k).bind fun r=>some (.agg r)else none else(x.cells)[off]?
def zC:Value→T
 | .slice none 0 0=>.sl 0 []
 | v=>.s v
def qak:Value→List (Option (Nat×Nat))→Option (Nat×Nat)
 | .slice none 0 0,p::_=>p
 | _,_=>none
def zCs:List Value→List (Option (Nat×Nat))→List T
 | [],_=>[]
 | v::l,hs=>(match qak v hs with|some p=>.sl p.2 []|none=>zC v)::zCs l hs.tail
def zT:Value→T
 | .agg cs=>.agg (cs.toList.map zC)
 | v=>zC v
def sub(l:List T)(off len:Nat):Option (List T):=bif Nat.ble (off+len) l.length then some ((l.drop off).take len)else none
def idx{α:Type}(l:List α)(i:Int):Option α:=bif decide (0≤i)then l[i.toNat]? else none
mutual
def SV.mp(g:SV→SV):SV→SV
 | .clo f a b=>.clo f (mpL g a) (mpL g b)
 | .tup l=>.tup (mpL g l)
 | .st l=>.st (mpL g l)
 | x=>g x
def mpL(g:SV→SV):List SV→List SV
 | []=>[]
 | x::l=>x.mp g::mpL g l
end
def OB.mp(g:SV→SV):OB→OB
 | .cells l=>.cells (mpL g l)
 | o=>o
def mpK(g:SV→SV):List (Nat×SV)→List (Nat×SV)
 | []=>[]
 | (k,v)::l=>(k,v.mp g)::mpK g l
def St.mp(g:SV→SV)(st:St):St:=⟨mpK g st.K,mpK g st.Tm,st.H.map (OB.mp g)⟩
def j4(n:Nat):SV→SV
 | .ref m o=>bif Nat.beq m n then .bad else .ref m o
 | .osl m o l=>bif Nat.beq m n then .bad else .osl m o l
 | .ep m i o=>bif Nat.beq m n then .bad else .ep m i o
 | x=>x
def jO(n k:Nat)(l:List T):SV→SV
 | .osl m o len=>bif Nat.beq m n then(match sub l o len with|some r=>.t (.sl k r)|none=>.bad)else .osl m o len
 | .ep m i o=>bif Nat.beq m n then(match l[i]? with|some x=>.t (.pt x o)|none=>.bad)else .ep m i o
 | .ref m o=>bif Nat.beq m n then .bad else .ref m o
 | x=>x
def Ja(n:Nat)(l:List T):SV→SV
 | .ref m o=>bif Nat.beq m n then .t (.pt (.agg l) o)else .ref m o
 | .osl m o len=>bif Nat.beq m n then .bad else .osl m o len
 | .ep m i o=>bif Nat.beq m n then .bad else .ep m i o
 | x=>x
def St.frow(st:St)(n k:Nat)(l:List T):St:={ st.mp (jO n k l)with H:=(st.H.set n .dead).map (OB.mp (jO n k l)) }
def St.fcell(st:St)(n:Nat)(l:List T):St:={ st.mp (Ja n l)with H:=(st.H.set n .dead).map (OB.mp (Ja n l)) }
def St.look(st:St)(t:Nat):Option SV:=match lkG st.K t with
 | some v=>some v
 | none=>lkG st.Tm t
def JZ(l:List (Nat×SV))(t:Nat):Bool:=List.rec false (fun p _ ih=>Prod.rec (fun k _=>Bool.rec ih true (Nat.beq k t)) p) l
def St.put(st:St)(keep:List Nat)(d:Nat)(v:SV):St:=bif JZ st.K d||Yo keep d then { st with K:=qko st.K d v }else { st with Tm:=(d,v)::st.Tm }
def putD(E:Env)(st:St)(d:Option Nat)(v:SV):St:=match d with
 | none=>st
 | some d=>st.put E.keep d v
def qfA(l:List T):Bool:=List.rec true (fun x _ ih=>bif x.isAgg then false else ih) l
mutual
def toT:Nat→St→SV→Option (T×St)
 | _,st,.t x=>some (x,st)
 | _,st,.osl n o len=>match st.H[n]? with
  | some (.row false _ k l)=>(sub l o len).bind fun r=>some (.sl k r,st.frow n k l)
  | _=>none
 | _,st,.ep n i o=>match st.H[n]? with
  | some (.row false _ k l)=>(l[i]?).bind fun x=>some (.pt x o,st.frow n k l)
  | _=>none
 | d+1,st,.ref n o=>match st.H[n]? with
  | some (.cells l)=>(toTs d st l).bind fun p=>match p.2.H[n]? with
   | some (.cells _)=>some (.pt (.agg p.1) o,p.2.fcell n p.1)
   | _=>none
  | _=>none
 | d+1,st,.clo f a b=>(toTs d st a).bind fun p=>(toTs d p.2 b).bind fun q=>some (.fn f p.1 q.1,q.2)
 | d+1,st,.st l=>(toTs d st l).bind fun p=>bif qfA p.1 then some (.agg p.1,p.2)else none
 | _,_,_=>none
def toTs:Nat→St→List SV→Option (List T×St)
 | _,st,[]=>some ([],st)
 | 0,_,_::_=>none
 | d+1,st,x::l=>(toT d st x).bind fun p=>(toTs d p.2 l).bind fun q=>some (p.1::q.1,q.2)
end
section
variable {O:Type} (n w:Nat) (l:List T)
def fzS(x:SV)(c:SV→Option O):Option O:=match x with
 | .osl m o len=>bif Nat.beq m n then(sub l o len).bind fun r=>c (.t (.sl w r))else c (.osl m o len)
 | .ep m i o=>bif Nat.beq m n then(l[i]?).bind fun x=>c (.t (.pt x o))else c (.ep m i o)
 | .ref m o=>bif Nat.beq m n then c .bad else c (.ref m o)
 | .clo f a b=>c (.clo f (mpL (jO n w l) a) (mpL (jO n w l) b))
 | .tup l'=>c (.tup (mpL (jO n w l) l'))
 | .st l'=>c (.st (mpL (jO n w l) l'))
 | .t x=>c (.t x)
 | .un=>c .un
 | .bad=>c .bad
def fzK(K:List (Nat×SV)):(List (Nat×SV)→Option O)→Option O:=List.rec (fun c=>c []) (fun p _ ih c=>Prod.rec (fun d x=>fzS n w l x fun x=>ih fun K=>c ((d,x)::K)) p) K
def fzL(K:List SV):(List SV→Option O)→Option O:=List.rec (fun c=>c []) (fun x _ ih c=>fzS n w l x fun x=>ih fun K=>c (x::K)) K
def fzH(H:List OB):(List OB→Option O)→Option O:=List.rec (fun c=>c []) (fun b _ ih c=>match b with
 | .cells l'=>fzL n w l l' fun l'=>ih fun H=>c (.cells l'::H)
 | .row fx e k x=>ih fun H=>c (.row fx e k x::H)
 | .dead=>ih fun H=>c (.dead::H)) H
def qoT(st:St)(c:St→Option O):Option O:=fzK n w l st.K fun K=>fzK n w l st.Tm fun Tm=>fzH n w l (st.H.set n .dead) fun H=>c ⟨K,Tm,H⟩
theorem qlB{x:SV}{c:SV→Option O}{r:O}(h:fzS n w l x c=some r):c (x.mp (jO n w l))=some r:=by
 cases x with
 | osl m o len=>
  simp only[fzS]at h;simp only[SV.mp,jO];cases hb:Nat.beq m n with
  | true=>
   rw[hb]at h;simp only[zg]at h ⊢;cases hs:sub l o len with
   | none=>rw[hs]at h;simp at h
   | some q=>rw[hs]at h;simpa using h
  | false=>rw[hb]at h;simpa using h
 | ep m i o=>
  simp only[fzS]at h;simp only[SV.mp,jO];cases hb:Nat.beq m n with
  | true=>
   rw[hb]at h;simp only[zg]at h ⊢;cases hs:l[i]? with
   | none=>rw[hs]at h;simp at h
   | some q=>rw[hs]at h;simpa using h
  | false=>rw[hb]at h;simpa using h
 | ref m o=>
  simp only[fzS]at h;simp only[SV.mp,jO];cases hb:Nat.beq m n with
  | true=>rw[hb]at h;simpa using h
  | false=>rw[hb]at h;simpa using h
 | clo f a b=>exact h
 | tup l'=>exact h
 | st l'=>exact h
 | t x=>exact h
 | un=>exact h
 | bad=>exact h
theorem qhe:∀ {K:List (Nat×SV)} {c:List (Nat×SV)→Option O} {r:O},fzK n w l K c=some r→c (mpK (jO n w l) K)=some r
 | [],_,_,h=>h
 | (d,x)::K,c,r,h=>qhe (K:=K) (c:=fun K=>c ((d,x.mp (jO n w l))::K)) (qlB n w l (x:=x) (c:=fun x=>fzK n w l K fun K=>c ((d,x)::K)) h)
theorem qlC:∀ {K:List SV} {c:List SV→Option O} {r:O},fzL n w l K c=some r→c (mpL (jO n w l) K)=some r
 | [],_,_,h=>h
 | x::K,c,r,h=>qlC (K:=K) (c:=fun K=>c (x.mp (jO n w l)::K)) (qlB n w l (x:=x) (c:=fun x=>fzL n w l K fun K=>c (x::K)) h)
theorem qdr:∀ {H:List OB} {c:List OB→Option O} {r:O},fzH n w l H c=some r→c (H.map (OB.mp (jO n w l)))=some r
 | [],_,_,h=>h
 | .cells l'::H,c,r,h=>qdr (H:=H) (c:=fun H=>c (.cells (mpL (jO n w l) l')::H)) (qlC n w l (K:=l') (c:=fun l'=>fzH n w l H fun H=>c (.cells l'::H)) h)
 | .row fx e k x::H,c,r,h=>qdr (H:=H) (c:=fun H=>c (.row fx e k x::H)) h
 | .dead::H,c,r,h=>qdr (H:=H) (c:=fun H=>c (.dead::H)) h
theorem qfS{st:St}{c:St→Option O}{r:O}(h:qoT n w l st c=some r):c (st.frow n w l)=some r :=
 qdr n w l (c:=fun H=>c ⟨mpK (jO n w l) st.K,mpK (jO n w l) st.Tm,H⟩) (qhe n w l (c:=fun Tm=>fzH n w l (st.H.set n .dead) fun H=>c ⟨mpK (jO n w l) st.K,Tm,H⟩)
  (qhe n w l (c:=fun K=>fzK n w l st.Tm fun Tm=>fzH n w l (st.H.set n .dead) fun H=>c ⟨K,Tm,H⟩) h))
end
mutual
def qbt{O:Type}:Nat→St→SV→(T→St→Option O)→Option O
 | _,st,.t x,k=>k x st
 | _,st,.osl n o len,k=>match st.H[n]? with
  | some (.row false _ w l)=>(sub l o len).bind fun r=>qoT n w l st fun st'=>k (.sl w r) st'
  | _=>none
 | _,st,.ep n i o,k=>match st.H[n]? with
  | some (.row false _ w l)=>(l[i]?).bind fun x=>qoT n w l st fun st'=>k (.pt x o) st'
  | _=>none
 | d+1,st,.ref n o,k=>match st.H[n]? with
  | some (.cells l)=>toTsK d st l fun p st'=>match st'.H[n]? with
   | some (.cells _)=>k (.pt (.agg p) o) (st'.fcell n p)
   | _=>none
  | _=>none
 | d+1,st,.clo f a b,k=>toTsK d st a fun p st'=>toTsK d st' b fun q st''=>k (.fn f p q) st''
 | d+1,st,.st l,k=>toTsK d st l fun p st'=>bif qfA p then k (.agg p) st' else none
 | _,_,_,_=>none
def toTsK{O:Type}:Nat→St→List SV→(List T→St→Option O)→Option O
 | _,st,[],k=>k [] st
 | 0,_,_::_,_=>none
 | d+1,st,x::l,k=>qbt d st x fun a st'=>toTsK d st' l fun b st''=>k (a::b) st''
end
theorem qfB{α β:Type}{o:Option α}{f:α→Option β}{r:β}(h:o.bind f=some r):∃a,o=some a∧f a=some r:=by
 cases o with
 | none=>simp at h
 | some a=>exact⟨a,rfl,by simpa using h⟩
theorem qal{O:Type}{r:O}:∀d:Nat,(∀(st:St) (sv:SV) (k:T→St→Option O),qbt d st sv k=some r→((toT d st sv).bind fun p=>k p.1 p.2)=some r)∧(∀(st:St) (l:List SV) (k:List T→St→Option O),toTsK d st l k=some r→((toTs d st l).bind fun p=>k p.1 p.2)=some r):=by
 have osl:∀(d:Nat) (st:St) (n o len:Nat) (k:T→St→Option O),qbt d st (.osl n o len) k=some r→((toT d st (.osl n o len)).bind fun p=>k p.1 p.2)=some r:=by
  intro d st n o len k h;cases d <;> simp only[qbt]at h <;> simp only[toT]
  all_goals
   split at h
   · rename_i e w l hn
     obtain⟨q,hq,h⟩:=qfB h;have h2:=qfS n w l h;simp only[hn,hq,zm];exact h2
   · simp at h
 have ep:∀(d:Nat) (st:St) (n o len:Nat) (k:T→St→Option O),qbt d st (.ep n o len) k=some r→((toT d st (.ep n o len)).bind fun p=>k p.1 p.2)=some r:=by
  intro d st n o len k h;cases d <;> simp only[qbt]at h <;> simp only[toT]
  all_goals
   split at h
   · rename_i e w l hn
     obtain⟨q,hq,h⟩:=qfB h;have h2:=qfS n w l h;simp only[hn,hq,zm];exact h2
   · simp at h
 intro d;induction d with
 | zero=>
  refine⟨fun st sv k h=>?_,fun st l k h=>?_⟩
  · cases sv with
    | t x=>exact h
    | osl n o len=>exact osl 0 st n o len k h
    | ep n i o=>exact ep 0 st n i o k h
    | _=>simp[qbt]at h
  · cases l with
    | nil=>exact h
    | cons x l=>simp[toTsK]at h
 | succ d ih=>
  obtain⟨h1,h2⟩:=ih;refine⟨fun st sv k h=>?_,fun st l k h=>?_⟩
  · cases sv with
    | t x=>exact h
    | osl n o len=>exact osl _ st n o len k h
    | ep n i o=>exact ep _ st n i o k h
    | ref n o=>
     simp only[qbt]at h;simp only[toT];split at h
     · rename_i l hn
       have h3:=h2 _ _ _ h;obtain⟨p,hp,h3⟩:=qfB h3;simp only[hn,hp,zm];split at h3
       · rename_i l' hn'
         simp only[hn',zm];exact h3
       · simp at h3
     · simp at h
    | clo f a b=>
     simp only[qbt]at h;simp only[toT];have h3:=h2 _ _ _ h;obtain⟨p,hp,h3⟩:=qfB h3;have h4:=h2 _ _ _ h3;obtain⟨q,hq,h4⟩:=qfB h4;simp only[hp,hq,zm];exact h4
    | st l=>
     simp only[qbt]at h;simp only[toT];have h3:=h2 _ _ _ h;obtain⟨p,hp,h3⟩:=qfB h3;simp only[hp,zm];cases hn:qfA p.1 with
     | true=>rw[hn]at h3;exact h3
     | false=>rw[hn]at h3;simp at h3
    | _=>simp[qbt]at h
  · cases l with
    | nil=>exact h
    | cons x l=>
     simp only[toTsK]at h;simp only[toTs];have h3:=h1 _ _ _ h;obtain⟨p,hp,h3⟩:=qfB h3;have h4:=h2 _ _ _ h3;obtain⟨q,hq,h4⟩:=qfB h4;simp only[hp,hq,zm];exact h4
theorem qam{O:Type}{r:O}{d:Nat}{st:St}{l:List SV}{k:List T→St→Option O}(h:toTsK d st l k=some r):((toTs d st l).bind fun p=>k p.1 p.2)=some r:=(qal d).2 st l k h
def qit(H:List OB):SV→Option T
 | .t x=>some x
 | .osl n o len=>match H[n]? with
  | some (.row _ _ k l)=>(sub l o len).bind fun r=>some (.sl k r)
  | _=>none
 | _=>none
def qec{O:Type}(H:List OB)(v:SV)(k:T→Option O):Option O:=match v with
 | .t x=>k x
 | .osl n o len=>match H[n]? with
  | some (.row _ _ w l)=>(sub l o len).bind fun r=>k (.sl w r)
  | _=>none
 | _=>none
theorem YQ{O:Type}(H:List OB)(v:SV)(k:T→Option O):qec H v k=(qit H v).bind k:=by
 unfold qec qit;split
 · rfl
 · split <;> simp only[KD,Option.bind_none,zm]
 · rfl
def qaY(H:List OB):List SV→Option (List T)
 | []=>some []
 | x::l=>(qit H x).bind fun a=>(qaY H l).bind fun b=>some (a::b)
def qiu(H:List OB)(v:SV):Option T:=match v with
 | .st l=>(qaY H l).bind fun ts=>bif qfA ts then some (.agg ts)else none
 | v=>qit H v
def qbu(H:List OB):List SV→Option (List T)
 | []=>some []
 | x::l=>(qiu H x).bind fun a=>(qbu H l).bind fun b=>some (a::b)
def qds{O:Type}(H:List OB):List SV→(List T→Option O)→Option O
 | [],k=>k []
 | x::l,k=>qec H x fun a=>qds H l fun b=>k (a::b)
def qkp{O:Type}(H:List OB)(v:SV)(k:T→Option O):Option O:=match v with
 | .st l=>qds H l fun ts=>bif qfA ts then k (.agg ts)else none
 | v=>qec H v k
def qed{O:Type}(H:List OB):List SV→(List T→Option O)→Option O
 | [],k=>k []
 | x::l,k=>qkp H x fun a=>qed H l fun b=>k (a::b)
theorem qee{O:Type}(H:List OB):∀(l:List SV) (k:List T→Option O),qds H l k=(qaY H l).bind k
 | [],k=>rfl
 | x::l,k=>by
  unfold qds qaY;rw[YQ,KD]
  congr 1;funext a
  rw[qee H l,KD];rfl
theorem qns{O:Type}(H:List OB)(v:SV)(k:T→Option O):qkp H v k=(qiu H v).bind k:=by
 unfold qkp qiu;split
 · rw[qee,KD]
   congr 1;funext ts
   cases qfA ts <;> rfl
 · exact YQ H _ k
theorem qan{O:Type}(H:List OB):∀(l:List SV) (k:List T→Option O),qed H l k=(qbu H l).bind k
 | [],k=>rfl
 | x::l,k=>by
  unfold qed qbu;rw[qns,KD]
  congr 1;funext a
  rw[qan H l,KD];rfl
def inR(κ:IntKind)(n:Int):Bool:=decide (κ.min≤n)&&decide (n≤κ.max)
def qhf:Value→Bool
 | .int κ n=>inR κ n
 | .string b=>Nat.ble b.size maxLen
 | .bool _|.float _ _|.complex _ _ _|.pointer none|.map none|.chan none|.nilFunc|.nilIface=>true
 | .slice none 0 0=>true
 | _=>false
def qct:Value→Bool
 | .slice none 0 0=>true
 | v=>qhf v
def cOk:Value→Bool
 | .agg cs=>cs.toList.all qct
 | v=>qct v
def nb:SV→Option SV
 | .bad=>none
 | x=>some x
def opd(E:Env)(st:St):Operand→Option SV
 | .tmp t=>(st.look t).bind nb
 | .const v=>bif cOk v then some (.t (zT v))else none
 | .global g=>(E.T.glob g).bind fun x=>some (.t (.pt x 0))
 | .func f=>some (.t (.fn f [] []))
def qfC(E:Env)(st:St):List Operand→Option (List SV)
 | []=>some []
 | x::l=>(opd E st x).bind fun a=>(qfC E st l).bind fun b=>some (a::b)
def asB:SV→Option Bool
 | .t (.s (.bool b))=>some b
 | _=>none
def asI(κ:IntKind):SV→Option Int
 | .t (.s (.int κ' n))=>bif decide (κ'=κ)then some n else none
 | _=>none
def asN:SV→Option Int
 | .t (.s (.int _ n))=>some n
 | _=>none
def asS:SV→Option ByteArray
 | .t (.s (.string b))=>some b
 | _=>none
def qhg:(u:Nat)→T→Option (U u)
 | 0,x=>asI .u8 (.t x)
 | 1,x=>asI .u32 (.t x)
 | 2,x=>asI .u64 (.t x)
 | 3,x=>asI .i64 (.t x)
 | 4,x=>asB (.t x)
 | 5,x=>asS (.t x)
 | _,_=>none
def yC(u:Nat):List T→Option (List (U u))
 | []=>some []
 | x::l=>(qhg u x).bind fun a=>(yC u l).bind fun b=>some (a::b)
def ZM:List T→Option (List Int)
 | []=>some []
 | x::l=>(asI .u8 (.t x)).bind fun a=>(ZM l).bind fun b=>some (a::b)
def byI(l:List Int):ByteArray:=⟨(l.map fun n=>UInt8.ofNat n.toNat).toArray⟩
def qfD(k:Nat):SV→Option (List T)
 | .t (.sl k' l)=>bif Nat.beq k' k then some l else none
 | .t (.ql u k' l)=>bif Nat.beq k' k then some (l.map (view u))else none
 | _=>none
def asAgg:SV→Option (List T)
 | .t (.agg l)=>some l
 | _=>none
def mkB(b:Bool):SV:=.t (.s (.bool b))
def mkI(κ:IntKind)(n:Int):SV:=.t (.s (.int κ n))
def qiv(op:BinOp)(κ:IntKind)(p q:Int):Option SV :=
 match op with
 | .add=>some (mkI κ (κ.wrap (p+q)))
 | .sub=>some (mkI κ (κ.wrap (p-q)))
 | .mul=>some (mkI κ (κ.wrap (p*q)))
 | .quo=>bif decide (q=0)then none else some (mkI κ (κ.wrap (p.tdiv q)))
 | .rem=>bif decide (q=0)then none else some (mkI κ (p.tmod q))
 | .and=>some (mkI κ (jj .and κ p q))
 | .or=>some (mkI κ (jj .or κ p q))
 | .xor=>some (mkI κ (jj .xor κ p q))
 | .andNot=>some (mkI κ (jj .andNot κ p q))
 | .eql=>some (mkB (decide (p=q)))
 | .neq=>some (mkB (!decide (p=q)))
 | .lss=>some (mkB (decide (p<q)))
 | .leq=>some (mkB (decide (p≤q)))
 | .gtr=>some (mkB (decide (q<p)))
 | .geq=>some (mkB (decide (q≤p)))
 | _=>none
def shOp(op:BinOp)(κ:IntKind)(p q:Int):Option SV :=
 match op with
 | .shl=>some (mkI κ (κ.wrap (p*2^(min q.toNat κ.bits))))
 | .shr=>some (mkI κ (p.fdiv (2^(min q.toNat κ.bits))))
 | _=>none
def vals:List T→Option (List Value)
 | []=>some []
 | .s v::l=>(vals l).bind fun r=>some (v::r)
 | _::_=>none
def isSh:BinOp→Bool
 | .shl|.shr=>true
 | _=>false
def qv9:BinOp→Bool
 | .quo|.rem=>true
 | _=>false
def dvOp(op:BinOp)(κ:IntKind)(p q:Int):SV:=match op with
 | .quo=>mkI κ (κ.wrap (p.tdiv q))
 | _=>mkI κ (p.tmod q)
def qoU{O:Type}(E:Env)(op:BinOp)(t u:Nat)(x y:SV)(k:SV→Option O):Option O :=
 match E.T.kd t with
 | some (.int κ)=>bif isSh op then
  (match E.T.kd u with
   | some (.int κ')=>(asI κ x).bind fun p=>(asI κ' y).bind fun q=>bif decide (0≤q)then(shOp op κ p q).bind k else none
   | _=>none)
  else(asI κ x).bind fun p=>(asI κ y).bind fun q=>bif qv9 op then(bif decide (q=0)then none else k (dvOp op κ p q))else(qiv op κ p q).bind k
 | some .bool=>(asB x).bind fun p=>(asB y).bind fun q=>match op with
  | .eql=>k (mkB (decide (p=q)))
  | .neq=>k (mkB (!decide (p=q)))
  | _=>none
 | some .str=>(asS x).bind fun p=>(asS y).bind fun q=>match op with
  | .eql=>k (mkB (decide (p=q)))
  | .neq=>k (mkB (!decide (p=q)))
  | .add=>bif Nat.ble (p.size+q.size) 549755813888 then k (.t (.s (.string (p++q))))else none
  | _=>none
 | some (.flat us)=>(asAgg x).bind fun p=>(asAgg y).bind fun q=>(vals p).bind fun p=>(vals q).bind fun q=>(qaL us p q).bind fun b=>match op with
  | .eql=>k (mkB b)
  | .neq=>k (mkB (!b))
  | _=>none
 | _=>none
def unO{O:Type}(op:UnOp)(x:SV)(k:SV→Option O):Option O :=
 match op with
 | .not=>(asB x).bind fun b=>k (mkB (!b))
 | .neg=>match x with
  | .t (.s (.int κ p))=>k (mkI κ (κ.wrap (0-p)))
  | _=>none
 | _=>none
def qdk(fr:Bool)(st:St)(v:SV):Option (T×St):=bif fr then toT 64 st v else(match v with|.t x=>some (x,st)|_=>none)
def qiw{O:Type}(fr:Bool)(st:St)(v:SV)(k:T→St→Option O):Option O:=bif fr then qbt 64 st v k else(match v with|.t x=>k x st|_=>none)
theorem qnt{O:Type}{r:O}{fr:Bool}{st:St}{v:SV}{k:T→St→Option O}(h:qiw fr st v k=some r):((qdk fr st v).bind fun p=>k p.1 p.2)=some r:=by
 cases fr with
 | true=>exact(qal 64).1 st v k h
 | false=>
  unfold qiw at h;unfold qdk;simp only[zo]at h ⊢;split at h
  · exact h
  · simp at h
theorem qoV{O:Type}(st:St)(v:SV)(k:T→St→Option O):qiw false st v k=(qdk false st v).bind fun p=>k p.1 p.2:=by
 unfold qiw qdk;simp only[zo];split <;> simp only[Option.bind_none,zm]
def asTs:List SV→Option (List T)
 | []=>some []
 | .t x::l=>(asTs l).bind fun r=>some (x::r)
 | _::_=>none
def Zz(fr:Bool)(st:St)(l:List SV):Option (List T×St):=bif fr then toTs 64 st l else(asTs l).bind fun r=>some (r,st)
def ZN{O:Type}(fr:Bool)(st:St)(l:List SV)(k:List T→St→Option O):Option O:=bif fr then toTsK 64 st l k else(asTs l).bind fun r=>k r st
theorem J0{O:Type}{r:O}{fr:Bool}{st:St}{l:List SV}{k:List T→St→Option O}(h:ZN fr st l k=some r):((Zz fr st l).bind fun p=>k p.1 p.2)=some r:=by
 cases fr with
 | true=>exact qam h
 | false=>unfold ZN at h;unfold Zz;simpa only[zo,KD,zm]using h
theorem qnu{O:Type}(st:St)(l:List SV)(k:List T→St→Option O):ZN false st l k=(Zz false st l).bind fun p=>k p.1 p.2:=by
 unfold ZN Zz;simp only[zo,KD,zm]
def mpT:List T→List SV
 | []=>[]
 | x::l=>.t x::mpT l
def YR:SV→Bool
 | .t (.agg _)=>false
 | .tup _=>false
 | .st _=>false
 | .un=>false
 | .bad=>false
 | _=>true
def JF(l:List SV):Bool:=List.rec true (fun x _ ih=>bif YR x then ih else false) l
def cellsOf(fr:Bool)(st:St)(g:Bool)(k:Nat)(v:SV):Option (List SV×St) :=
 bif g then(match v with
  | .st l=>bif Nat.beq l.length k&&JF l then some (l,st)else none
  | v=>(qdk fr st v).bind fun p=>match p.1 with
   | .agg l=>bif Nat.beq l.length k then some (mpT l,p.2)else none
   | _=>none)
 else bif YR v&&Nat.beq k 1 then some ([v],st)else none
def qbv{O:Type}(r:List SV)(k:SV→Option O):Option O:=bif JF r then(match asTs r with
 | some ts=>k (.t (.agg ts))
 | none=>k (.st r))else none
def qkq{O:Type}(E:Env)(t:Nat)(y:T)(k:T→Option O):Option O :=
 match E.T.kd t with
 | some (.int κ)=>(asI κ (.t y)).bind fun n=>k (.s (.int κ n))
 | some .bool=>(asB (.t y)).bind fun b=>k (.s (.bool b))
 | some .str=>(asS (.t y)).bind fun s=>k (.s (.string s))
 | _=>k y
theorem qlD{O:Type}{E:Env}{t:Nat}{y:T}{k:T→Option O}{r:O}(h:qkq E t y k=some r):k y=some r:=by
 unfold qkq at h;split at h
 · rename_i κ _
   cases hn:asI κ (.t y)with
   | none=>rw[hn]at h;simp at h
   | some n=>
    rw[hn]at h;cases y <;> simp only[asI,reduceCtorEq]at hn
    rename_i v;cases v <;> simp only[reduceCtorEq]at hn
    rename_i κ' m;by_cases e:κ'=κ
    · subst e;simp at hn;subst hn;exact h
    · simp[e]at hn
 · cases hn:asB (.t y)with
   | none=>rw[hn]at h;simp at h
   | some n=>
    rw[hn]at h;cases y <;> simp only[asB,reduceCtorEq]at hn
    rename_i v;cases v <;> simp only[reduceCtorEq,za]at hn
    subst hn;exact h
 · cases hn:asS (.t y)with
   | none=>rw[hn]at h;simp at h
   | some n=>
    rw[hn]at h;cases y <;> simp only[asS,reduceCtorEq]at hn
    rename_i v;cases v <;> simp only[reduceCtorEq,za]at hn
    subst hn;exact h
 · exact h
def qnv{O:Type}(u:TypeDesc)(y:T)(k:T→Option O):Option O :=
 match u with
 | .int κ=>(asI κ (.t y)).bind fun n=>k (.s (.int κ n))
 | .bool=>(asB (.t y)).bind fun b=>k (.s (.bool b))
 | .string=>(asS (.t y)).bind fun s=>k (.s (.string s))
 | _=>k y
def qfE{O:Type}:List TypeDesc→List T→Nat→(List T→Option O)→Option O
 | [],_,_,k=>k []
 | u::us,cs,off,k=>(cs[off]?).bind fun y=>qnv u y fun y=>qfE us cs (off+1) fun l=>k (y::l)
theorem qsT{O:Type}{u:TypeDesc}{y:T}{k:T→Option O}{r:O}(h:qnv u y k=some r):k y=some r:=by
 unfold qnv at h;split at h
 · rename_i κ
   cases hn:asI κ (.t y)with
   | none=>rw[hn]at h;simp at h
   | some n=>
    rw[hn]at h;cases y <;> simp only[asI,reduceCtorEq]at hn
    rename_i v;cases v <;> simp only[reduceCtorEq]at hn
    rename_i κ' m;by_cases e:κ'=κ
    · subst e;simp at hn;subst hn;exact h
    · simp[e]at hn
 · cases hn:asB (.t y)with
   | none=>rw[hn]at h;simp at h
   | some n=>
    rw[hn]at h;cases y <;> simp only[asB,reduceCtorEq]at hn
    rename_i v;cases v <;> simp only[reduceCtorEq,za]at hn
    subst hn;exact h
 · cases hn:asS (.t y)with
   | none=>rw[hn]at h;simp at h
   | some n=>
    rw[hn]at h;cases y <;> simp only[asS,reduceCtorEq]at hn
    rename_i v;cases v <;> simp only[reduceCtorEq,za]at hn
    subst hn;exact h
 · exact h
theorem qix{α:Type}:∀ {l:List α} {o:Nat},o≤l.length→Qj l o 0=some []
 | _,0,_=>by simp[Qj]
 | [],o+1,h=>by simp at h
 | _::l,o+1,h=>by simp only[Qj];exact qix (by simpa using h)
theorem qiy{α:Type}:∀ {l:List α} {o n:Nat} {y:α} {r:List α},l[o]?=some y→Qj l (o+1) n=some r→Qj l o (n+1)=some (y::r)
 | [],o,n,y,r,h,_=>by simp at h
 | x::l,0,n,y,r,h,h'=>by
  simp at h;subst h;simp only[Qj]at h' ⊢;rw[h'];rfl
 | x::l,o+1,n,y,r,h,h'=>by
  simp only[K8]at h;simp only[Qj]at h' ⊢;exact qiy h h'
theorem qiz{O:Type}{r:O}:∀(us:List TypeDesc) {cs:List T} {off:Nat} {k:List T→Option O},off≤cs.length→qfE us cs off k=some r→∃l,Qj cs off us.length=some l∧k l=some r
 | [],cs,off,k,ho,h=>⟨[],qix ho,h⟩
 | u::us,cs,off,k,ho,h=>by
  simp only[qfE]at h;cases hy:cs[off]? with
  | none=>rw[hy]at h;simp at h
  | some y=>
   rw[hy,zm]at h;replace h:=qsT h
   have hlt:off<cs.length:=(zu.1 hy).1
   obtain⟨l,h1,h2⟩:=qiz us hlt h;exact⟨y::l,qiy hy h1,h2⟩
def ldE{O:Type}(E:Env)(t:Nat)(x:T)(off:Nat)(g:Bool)(w:Nat)(k:T→Option O):Option O :=
 match(bif g then E.T.kd t else none)with
 | some (.flat us)=>bif Nat.beq us.length w&&Nat.blt 0 w then qfE us x.cells off fun l=>k (.agg l)else none
 | _=>(ldT x off g w).bind fun y=>qkq E t y k
theorem qhh{O:Type}{E:Env}{t:Nat}{x:T}{off:Nat}{g:Bool}{w:Nat}{k:T→Option O}{r:O}(h:ldE E t x off g w k=some r):∃y,ldT x off g w=some y∧k y=some r:=by
 unfold ldE at h;split at h
 · rename_i us hg
   have hg:g=true:=by cases g with|true=>rfl|false=>simp at hg
   subst hg;cases hb:(Nat.beq us.length w&&Nat.blt 0 w)with
   | false=>rw[hb]at h;simp at h
   | true=>
    rw[hb,zg]at h;simp only[zp]at hb;have hw:=zd hb.1;subst hw;have ho:off≤x.cells.length:=by
     cases us with
     | nil=>simp at hb
     | cons u us=>
      simp only[qfE]at h;cases hy:x.cells[off]? with
      | none=>rw[hy]at h;simp at h
      | some y=>have:=(zu.1 hy).1;omega
    obtain⟨l,h1,h2⟩:=qiz us ho h;refine⟨.agg l,?_,h2⟩
    unfold ldT;rw[zg,hb.2,zg,h1];rfl
 · cases hy:ldT x off g w with
   | none=>rw[hy]at h;simp at h
   | some y=>rw[hy,zm]at h;exact⟨y,rfl,qlD h⟩
theorem qfT{O:Type}(u:TypeDesc)(y:T)(k:T→Option O):qnv u y k=(qnv u y some).bind k:=by
 unfold qnv;split <;> simp only[KD,zm]
theorem qao{O:Type}:∀(us:List TypeDesc) (cs:List T) (off:Nat) (k:List T→Option O),qfE us cs off k=(qfE us cs off some).bind k
 | [],_,_,_=>rfl
 | u::us,cs,off,k=>by
  simp only[qfE,KD]
  congr 1;funext y
  rw[qfT (k:=fun y=>qfE us cs (off+1) fun l=>k (y::l)),qfT (k:=fun y=>qfE us cs (off+1) fun l=>some (y::l)),KD]
  congr 1;funext y
  rw[qao us cs (off+1) (fun l=>k (y::l)),qao us cs (off+1) (fun l=>some (y::l)),KD];rfl
theorem qnw{O:Type}(E:Env)(t:Nat)(y:T)(k:T→Option O):qkq E t y k=(qkq E t y some).bind k:=by
 unfold qkq;split <;> simp only[KD,zm]
theorem qoW{O:Type}(E:Env)(t:Nat)(x:T)(off:Nat)(g:Bool)(w:Nat)(k:T→Option O):ldE E t x off g w k=(ldE E t x off g w some).bind k:=by
 unfold ldE;split
 · rename_i us _
   cases(Nat.beq us.length w&&Nat.blt 0 w)with
   | false=>rfl
   | true=>
    simp only[zg];rw[qao us x.cells off (fun l=>k (T.agg l)),qao us x.cells off (fun l=>some (T.agg l)),KD];rfl
 · rw[KD];congr 1;funext y;exact qnw E t y k
def qsU{O:Type}(l:List SV):Nat→(SV→Option O)→Option O:=List.rec (fun _ _=>none) (fun x _ ih j c=>bif Nat.beq j 0 then c x else ih (j-1) c) l
theorem qdt{O:Type}:∀(l:List SV) (j:Nat) (c:SV→Option O),qsU l j c=(l[j]?).bind c
 | [],_,_=>by simp[qsU]
 | x::l,j,c=>by
  show(bif Nat.beq j 0 then c x else qsU l (j-1) c)=_
  cases j with
  | zero=>rfl
  | succ j=>rw[qdt l,K8,Vt,show Nat.beq (j+1) 0=false from rfl];rfl
def ldO{O:Type}(E:Env)(fr:Bool)(st:St)(a:SV)(t:Nat)(k:SV→St→Option O):Option O :=
 (E.T.ty t).bind fun p=>match a with
   | .t (.pt x off)=>ldE E t x off p.1 p.2 fun y=>k (.t y) st
   | .ref n off=>match st.H[n]? with
    | some (.cells l)=>bif p.1 then(Qj l off p.2).bind fun r=>qbv r fun v=>k v st else qsU l off fun y=>k y st
    | _=>none
   | .ep n i off=>match st.H[n]? with
    | some (.row _ _ _ l)=>(l[i]?).bind fun x=>ldE E t x off p.1 p.2 fun y=>k (.t y) st
    | _=>none
   | _=>none
def qwa(x:T)(off:Nat)(cs:List T):Option T :=
 match x with
 | .agg l=>(yN l off cs).bind fun r=>some (.agg r)
 | _=>match off,cs with
  | 0,[c]=>bif c.isAgg then none else some c
  | _,_=>none
def qoX(w:Nat)(x:T)(off:Nat)(c:T):Option T:=bif Nat.beq off 0&&(Nat.beq c.cells.length w&&c.isAgg)then some c else qwa x off c.cells
def qsV{O:Type}(E:Env)(t off w:Nat)(x:T)(k:T→Option O):Option O:=bif Nat.beq off 0&&Nat.beq w 1 then qkq E t x k else k x
theorem qlE{O:Type}{E:Env}{t off w:Nat}{x:T}{k:T→Option O}{r:O}(h:qsV E t off w x k=some r):k x=some r:=by
 unfold qsV at h;revert h;generalize (Nat.beq off 0&&Nat.beq w 1)=b
 intro h;cases b with
 | true=>exact qlD h
 | false=>exact h
def Q5:Nat→List SV→List (Option (Nat×Nat))→List SV×List OB
 | _,l,[]=>(l,[])
 | _,[],_=>([],[])
 | n,x::l,none::hs=>let r:=Q5 n l hs;(x::r.1,r.2)
 | n,x::l,some p::hs=>match x with
  | .t (.s (.slice none 0 0))=>let r:=Q5 (n+1) l hs;(.osl n 0 0::r.1,.row false p.1 p.2 []::r.2)
  | x=>let r:=Q5 n l hs;(x::r.1,r.2)
def qiA(b:Bool)(c:List SV×St)(hs:List (Option (Nat×Nat))):List SV×St:=bif b then(let r:=Q5 c.2.H.length c.1 hs;(r.1,{ c.2 with H:=c.2.H++r.2 }))else c
def stC{O:Type}(c:List SV×St)(n off:Nat)(k:St→Option O):Option O:=match c.2.H[n]? with
 | some (.cells l)=>(yN l off c.1).bind fun r=>k { c.2 with H:=c.2.H.set n (.cells r) }
 | _=>none
def stO{O:Type}(E:Env)(fr:Bool)(st:St)(a:SV)(t:Nat)(v:SV)(k:St→Option O):Option O :=
 (E.T.ty t).bind fun p=>match a with
   | .ref n off=>(cellsOf fr st p.1 p.2 v).bind fun c=>stC (qiA (fr&&(p.1&&E.T.bz E.f)) c (E.T.zs t)) n off k
   | .ep n i off=>(qdk fr st v).bind fun c=>match c.2.H[n]? with
    | some (.row fx e w l)=>(l[i]?).bind fun x=>qsV E t off w x fun x=>bif(bif p.1 then c.1.isAgg else !c.1.isAgg)&&Nat.beq c.1.cells.length p.2 then
     (qoX w x off c.1).bind fun y=>k { c.2 with H:=c.2.H.set n (.row fx e w (l.set i y)) }else none
    | _=>none
   | _=>none
def zeroCells:Nat→List Value→List (Option (Nat×Nat))→List SV×List OB
 | _,[],_=>([],[])
 | n,v::l,hs=>match qak v hs with
  | some p=>(.osl n 0 0::(zeroCells (n+1) l hs.tail).1,.row false p.1 p.2 []::(zeroCells (n+1) l hs.tail).2)
  | none=>(.t (zC v)::(zeroCells n l hs.tail).1,(zeroCells n l hs.tail).2)
def Zd:SV→Option (List SV)
 | .t (.agg l)=>some (mpT l)
 | .st l=>bif JF l then some l else none
 | .tup _=>none
 | .un=>none
 | .bad=>none
 | x=>some [x]
def qlF{O:Type}(a:SV)(off:Nat)(k:SV→Option O):Option O :=
 match a with
 | .t (.pt x o)=>k (.t (.pt x (o+off)))
 | .ref n o=>k (.ref n (o+off))
 | .ep n i o=>k (.ep n i (o+off))
 | _=>none
def qsW{O:Type}(E:Env)(x:SV)(t:Nat)(k:SV→Option O):Option O :=
 match E.T.kd t with
 | some .str=>(asS x).bind fun s=>k (mkI .i64 s.size)
 | _=>match E.T.el t with
  | some p=>(match x with
   | .osl _ _ len=>k (mkI .i64 len)
   | .t (.ql _ k' l)=>bif Nat.beq k' p.2 then k (mkI .i64 l.length)else none
   | y=>(qfD p.2 y).bind fun l=>k (mkI .i64 l.length))
  | none=>none
def ixO{O:Type}(E:Env)(st:St)(x:SV)(i:SV)(t:Nat)(k:SV→Option O):Option O :=
 (E.T.el t).bind fun p=>(asN i).bind fun j=>match x with
   | .osl n off len=>match st.H[n]? with
    | some (.row _ _ w _)=>bif Nat.beq w p.2&&decide (0≤j)&&decide (j<len)then k (.ep n (off+j.toNat) 0)else none
    | some (.cells _)=>bif Nat.beq p.2 1&&(Nat.beq off 0&&(decide (0≤j)&&decide (j<len)))then k (.ref n j.toNat)else none
    | _=>none
   | .t (.ql u k' l)=>bif Nat.beq k' p.2 then(idx l j).bind fun z=>k (.t (.pt (view u z) 0))else none
   | y=>(qfD p.2 y).bind fun l=>(idx l j).bind fun z=>k (.t (.pt z 0))
def apO{O:Type}(E:Env)(st:St)(x y:SV)(t:Nat)(k:SV→St→Option O):Option O :=
 (E.T.el t).bind fun p=>(E.T.ze p.1).bind fun z=>bif E.T.sml p.1&&Nat.beq z.length p.2 then qec st.H y fun y=>(qfD p.2 (.t y)).bind fun l2=>match x with
   | .osl n 0 len=>match st.H[n]? with
    | some (.row false e w l)=>bif Nat.beq e p.1&&Nat.beq w p.2&&Nat.beq len l.length&&Nat.ble (l.length+l2.length) 549755813888 then
     (let st1:=st.mp (j4 n);k (.osl n 0 (l++l2).length) { st1 with H:=st1.H.set n (.row false e w (l++l2)) })else none
    | _=>none
   | _=>none
 else none
def qhi:Operand→Bool
 | .const (.slice none 0 0)=>true
 | _=>false
def apN{O:Type}(E:Env)(st:St)(y:SV)(t:Nat)(k:SV→St→Option O):Option O :=
 (E.T.el t).bind fun p=>(E.T.ze p.1).bind fun z=>bif E.T.sml p.1&&Nat.beq z.length p.2 then qec st.H y fun y=>(qfD p.2 (.t y)).bind fun l2=>
   bif Nat.ble l2.length 549755813888 then k (.osl st.H.length 0 l2.length) { st with H:=st.H++[.row false p.1 p.2 l2] }else none
 else none
def qcY(E:Env)(e:Nat):Option T :=
 (E.T.ty e).bind fun p=>(E.T.ze e).bind fun z=>bif p.1 then some (.agg (zCs z (E.T.zs e)))else match zCs z (E.T.zs e)with
   | [x]=>some x
   | _=>none
def mkO{O:Type}(E:Env)(st:St)(t:Nat)(x y:SV)(k:SV→St→Option O):Option O :=
 (E.T.el t).bind fun p=>(asN x).bind fun a=>(asN y).bind fun b=>bif E.T.sml p.1&&decide (0≤a)&&decide (a≤b)&&decide (b≤549755813888)then
   (qcY E p.1).bind fun z=>bif Nat.beq z.cells.length p.2 then k (.osl st.H.length 0 a.toNat) { st with H:=st.H++[.row false p.1 p.2 (List.replicate a.toNat z)] }else none else none
def uzO:(u:Nat)→Option (U u)
 | 14=>some (⟨false,false,(false,0,0),(false,0,0),(false,0,0),(false,0,0),0,(false,0,[],0)⟩:Ce)
 | _=>none
def okZ(x y:T):Bool:=match x,y with
 | .s (.bool a),.s (.bool b)=>a == b
 | .s (.int .i64 a),.s (.int .i64 b)=>decide (a=b)
 | .s (.int .u64 a),.s (.int .u64 b)=>decide (a=b)
 | .ql _ w [],.sl w' []=>Nat.beq w w'
 | _,_=>false
def qoY:List T→List T→Bool
 | [],[]=>true
 | x::l,y::m=>okZ x y&&qoY l m
 | _,_=>false
def mkF{O:Type}(E:Env)(st:St)(t:Nat)(x y:SV)(k:SV→St→Option O):Option O :=
 (E.T.el t).bind fun p=>(asN x).bind fun a=>(asN y).bind fun b=>bif E.T.sml p.1&&decide (0≤a)&&decide (a≤b)&&decide (b≤549755813888)then
   (qcY E p.1).bind fun z=>bif Nat.beq z.cells.length p.2 then(match E.T.nz E.f with
     | none=>k (.t (.sl p.2 (List.replicate a.toNat z))) st
     | some u=>(uzO u).bind fun z0=>bif qoY (view u z0).cells z.cells then k (.t (.ql u p.2 (List.replicate a.toNat z0))) st else none)else none else none
def qcu(E:Env)(st:St)(d:Int):Option Operand→Option Int
 | none=>some d
 | some x=>(opd E st x).bind asN
def slO{O:Type}(E:Env)(st:St)(t:Nat)(x:SV)(lo hi:Option Operand)(k:SV→Option O):Option O :=
 match E.T.kd t with
 | some .str=>(asS x).bind fun s=>(qcu E st 0 lo).bind fun a=>(qcu E st s.size hi).bind fun b=>
  bif decide (0≤a)&&decide (a≤b)&&decide (b≤s.size)then k (.t (.s (.string (s.extract a.toNat b.toNat))))else none
 | _=>(E.T.el t).bind fun p=>match x with
  | .osl n off len=>match st.H[n]? with
   | some (.row _ _ w _)=>(qcu E st 0 lo).bind fun a=>(qcu E st len hi).bind fun b=>
    bif Nat.beq w p.2&&decide (0≤a)&&decide (a≤b)&&decide (b≤len)then k (.osl n (off+a.toNat) (b-a).toNat)else none
   | _=>none
  | .t (.ql u k' l)=>(qcu E st 0 lo).bind fun a=>(qcu E st l.length hi).bind fun b=>
   bif Nat.beq k' p.2&&(decide (0≤a)&&decide (a≤b)&&decide (b≤l.length))then k (.t (.ql u p.2 ((l.drop a.toNat).take (b-a).toNat)))else none
  | y=>(qfD p.2 y).bind fun l=>(qcu E st 0 lo).bind fun a=>(qcu E st l.length hi).bind fun b=>
   bif decide (0≤a)&&decide (a≤b)&&decide (b≤l.length)then k (.t (.sl p.2 ((l.drop a.toNat).take (b-a).toNat)))else none
def qlG(g:Bool)(w:Nat)(v:SV):Option (List SV) :=
 bif g then(match v with
  | .t (.agg l)=>bif Nat.beq l.length w then some (mpT l)else none
  | .st l=>bif Nat.beq l.length w&&JF l then some l else none
  | _=>none)
 else bif YR v&&Nat.beq w 1 then some [v]else none
def qcv(E:Env)(t:Nat)(st:St):List SV→List (Nat×Operand)→Option (List SV)
 | z,[]=>some z
 | z,(i,x)::r=>(E.T.fo t i).bind fun q=>(opd E st x).bind fun v=>(qlG q.2.1 q.2.2 v).bind fun c=>(yN z q.1 c).bind fun z'=>qcv E t st z' r
def qef(E:Env)(m:Nat)(g:Bool)(w:Nat)(st:St):List SV→List (Nat×Operand)→Option (List SV)
 | z,[]=>some z
 | z,(i,x)::r=>bif Nat.blt i m then(opd E st x).bind fun v=>(qlG g w v).bind fun c=>(yN z (i*w) c).bind fun z'=>qef E m g w st z' r else none
def qeg(E:Env)(fr:Bool)(g:Bool)(w:Nat):St→Nat→List (Nat×Operand)→Option (List T×St)
 | st,_,[]=>some ([],st)
 | st,i,(j,x)::r=>bif Nat.beq i j then(opd E st x).bind fun v=>(qdk fr st v).bind fun c=>
  bif Nat.beq c.1.cells.length w&&(bif g then c.1.isAgg else !c.1.isAgg)then(qeg E fr g w c.2 (i+1) r).bind fun q=>some (c.1::q.1,q.2)else none else none
def qfU{O:Type}(E:Env)(fr:Bool)(g:Bool)(w:Nat):St→Nat→List (Nat×Operand)→(List T→St→Option O)→Option O
 | st,_,[],k=>k [] st
 | st,i,(j,x)::r,k=>bif Nat.beq i j then(opd E st x).bind fun v=>qiw fr st v fun c st'=>
  bif Nat.beq c.cells.length w&&(bif g then c.isAgg else !c.isAgg)then qfU E fr g w st' (i+1) r fun q st''=>k (c::q) st'' else none else none
theorem qfV{O:Type}{res:O}(E:Env)(fr:Bool)(g:Bool)(w:Nat):∀(l:List (Nat×Operand)) (st:St) (i:Nat) (k:List T→St→Option O),qfU E fr g w st i l k=some res→((qeg E fr g w st i l).bind fun p=>k p.1 p.2)=some res
 | [],st,i,k,h=>h
 | (j,x)::r,st,i,k,h=>by
  simp only[qfU]at h;simp only[qeg];revert h;cases Nat.beq i j with
  | false=>intro h;simp at h
  | true=>
   intro h;simp only[zg]at h ⊢;obtain⟨v,hv,h⟩:=qfB h;have h:=qnt h;obtain⟨c,hc,h⟩:=qfB h;simp only[hv,hc,zm];revert h;generalize (Nat.beq c.1.cells.length w&&(bif g then c.1.isAgg else !c.1.isAgg))=b
   cases b with
   | true=>
    intro h;simp only[zg,KD,zm]at h ⊢;exact qfV E fr g w r _ _ _ h
   | false=>intro h;simp at h
theorem qiB{O:Type}(E:Env)(g:Bool)(w:Nat):∀(l:List (Nat×Operand)) (st:St) (i:Nat) (k:List T→St→Option O),qfU E false g w st i l k=(qeg E false g w st i l).bind fun p=>k p.1 p.2
 | [],st,i,k=>rfl
 | (j,x)::r,st,i,k=>by
  simp only[qfU,qeg,qoV];cases Nat.beq i j with
  | false=>rfl
  | true=>
   simp only[zg,KD]
   congr 1;funext v;congr 1;funext c
   generalize (Nat.beq c.1.cells.length w&&(bif g then c.1.isAgg else !c.1.isAgg))=b
   cases b with
   | true=>simp only[zg,KD,zm];exact qiB E g w r _ _ _
   | false=>rfl
def qaZ:SV→List Nat
 | .ref n _=>[n]
 | .osl n _ _=>[n]
 | .ep n _ _=>[n]
 | .clo _ a b=>go a++go b
 | .tup l=>go l
 | .st l=>go l
 | _=>[]
where go:List SV→List Nat
 | []=>[]
 | x::l=>qaZ x++go l
def qwb:OB→List Nat
 | .cells l=>qaZ.go l
 | _=>[]
def qeh:Nat→List OB→List Nat→List Nat→List Nat
 | 0,_,_,vis=>vis
 | _,_,[],vis=>vis
 | d+1,H,n::w,vis=>bif Yo vis n then qeh d H w vis else(match H[n]? with
  | some b=>qeh d H (w++qwb b) (vis++[n])
  | none=>qeh d H w vis)
def YG:List Nat→Nat→Option Nat
 | [],_=>none
 | k::l,n=>bif Nat.beq k n then some 0 else(YG l n).bind fun i=>some (i+1)
def JJ(g:Nat→Option Nat):SV→SV
 | .ref n o=>match g n with|some m=>.ref m o|none=>.bad
 | .osl n o l=>match g n with|some m=>.osl m o l|none=>.bad
 | .ep n i o=>match g n with|some m=>.ep m i o|none=>.bad
 | x=>x
def qbw(ns:List Nat)(h:Nat)(i:Nat):Option Nat:=bif Nat.blt i ns.length then ns[i]? else some (h+(i-ns.length))
def fxB:OB→OB
 | .row _ e k l=>.row true e k l
 | o=>o
def qwc:OB→OB→OB
 | .row fx _ _ _,.row _ e k l=>.row fx e k l
 | _,o=>o
def pick(H:List OB):List Nat→Option (List OB)
 | []=>some []
 | n::r=>(H[n]?).bind fun b=>(pick H r).bind fun l=>some (b::l)
def qei:List Nat→Bool
 | []=>true
 | n::l=>!Yo l n&&qei l
def JG:List OB→List Nat→List OB
 | H,[]=>H
 | H,n::ns=>JG (H.set n .dead) ns
def Jb{α:Type}:List α→List Nat→List α→List α
 | H,n::ns,b::bs=>Jb (H.set n b) ns bs
 | H,_,bs=>H++bs
def Q6:List OB→List OB→List OB
 | o::os,b::bs=>qwc o b::Q6 os bs
 | _,bs=>bs
def jX:List Nat→List OB→List OB→SV→SV
 | n::ns,o::os,b::bs,v=>match o,b with
  | .cells _,.cells _=>jX ns os bs v
  | .row true _ _ _,_=>jX ns os bs v
  | _,_=>j4 n (jX ns os bs v)
 | _,_,_,v=>v
def yO:List SV→SV
 | [x]=>x
 | l=>.tup l
def sc1:T→Bool
 | .s _=>true
 | _=>false
def scT:T→Bool
 | .agg l=>l.all sc1
 | x=>sc1 x
def qfW(call:Zy)(f:Nat)(xs:List T):Option (List T) :=
 (call (List SV×List OB) f (mpT xs) [] fun r H=>some (r,H)).bind fun r=>(toTs 64 ⟨[],[],r.2⟩ r.1).bind fun p=>some p.1
def qcw{O:Type}(call:Zy)(f:Nat)(xs:List T)(k:List T→Option O):Option O :=
 call O f (mpT xs) [] fun r H=>toTsK 64 ⟨[],[],H⟩ r fun ts _=>k ts
def qhj(κ:Nat)(x y c:Int):Int:=match κ with
 | 1=>(((x.toNat+18446744073709551616-y.toNat-c.toNat) % 18446744073709551616:Nat):Int)
 | _=>(((x.toNat+y.toNat+c.toNat) % 18446744073709551616:Nat):Int)
def qhk(κ:Nat)(x y c:Int):Int:=match κ with
 | 1=>(bif Nat.blt x.toNat (y.toNat+c.toNat)then 1 else 0)
 | _=>(((x.toNat+y.toNat+c.toNat) / 18446744073709551616:Nat):Int)
def qsX{O:Type}(κ:Nat)(vs:List SV)(k:SV→Option O):Option O:=match vs with
 | [a,b,c]=>(asI .u64 a).bind fun x=>(asI .u64 b).bind fun y=>(asI .u64 c).bind fun z=>bif decide (z≤1)then k (.tup [mkI .u64 (qhj κ x y z),mkI .u64 (qhk κ x y z)])else none
 | _=>none
def qlH{O:Type}(st:St)(j:Nat×Nat)(vs:List SV)(k:Nat→List T→Option O):Option O:=match vs with
 | .osl n 0 len::vs'=>(match st.H[n]? with
  | some (.row false e w l)=>bif Nat.beq e j.2&&Nat.beq len l.length then(asTs vs').bind fun xs=>k n (.sl w l::xs)else none
  | _=>none)
 | .st cs::vs'=>(match cs[j.1]? with
  | some (.osl n 0 len)=>(match st.H[n]? with
   | some (.row false e w l)=>bif Nat.beq e j.2&&Nat.beq len l.length then(asTs (cs.set j.1 (.t (.sl w l)))).bind fun ts=>(asTs vs').bind fun xs=>k n (.agg ts::xs)else none
   | _=>none)
  | _=>none)
 | _=>none
def qhl(j:Nat×Nat)(xs:List T):Option (List SV×List OB):=match xs with
 | .sl w l::xs=>some (.osl 0 0 l.length::mpT xs,[.row false j.2 w l])
 | .agg cs::xs=>(match cs[j.1]? with
  | some (.sl w l)=>some (.st ((mpT cs).set j.1 (.osl 0 0 l.length))::mpT xs,[.row false j.2 w l])
  | _=>none)
 | _=>none
def St.give(st:St)(n:Nat):St:=let st1:=st.mp (j4 n);{ st1 with H:=st1.H.set n .dead }
def own4(m:Nat)(o:Option PrimD):Option ((Nat×Nat)×PrimD):=bif Nat.beq m 4 then(match o with
 | some q=>(match q.own with
  | some j=>some (j,q)
  | none=>none)
 | none=>none)else none
def qva(j:Nat×Nat)(vs:List SV):Bool:=match vs with
 | .osl _ _ _::_=>true
 | .st cs::_=>(match cs[j.1]? with
  | some (.osl _ _ _)=>true
  | _=>false)
 | _=>false
def qkr{O:Type}(j:Nat×Nat)(ts:List T)(st:St)(k:SV→St→Option O):Option O:=match ts with
 | [.sl w l]=>bif Nat.beq w j.2 then k (.osl st.H.length 0 l.length) { st with H:=st.H++[.row false j.1 j.2 l] }else none
 | _=>none
def qsY{O:Type}(b:Bool)(vs:List SV)(k:SV→St→Option O)(v:SV)(st:St):Option O:=bif b then(match vs,v with
 | .osl n _ _::_,.tup []=>qbt 64 st (.osl n 0 0) fun _ st'=>k (.tup []) st'
 | _,_=>none)else k v st
def qiC{O:Type}(E:Env)(fr:Bool)(st:St)(f:Nat)(vs:List SV)(k:SV→St→Option O):Option O :=
 match E.T.ext f with
 | some κ=>qsX κ vs fun v=>k v st
 | none=>match E.T.mode f with
 | 0=>match E.prim f with
  | some q=>bif q.own.isSome then none else(match(bif fr then q.fresh else none)with
   | none=>ZN fr st vs fun p st'=>(q.g p).bind fun y=>k (yO (mpT (q.enc y))) st'
   | some j=>ZN fr st vs fun p st'=>(q.g p).bind fun y=>qkr j (q.enc y) st' k)
  | none=>ZN fr st vs fun p st'=>bif fr then qcw E.call f p fun r=>k (yO (mpT r)) st' else(qfW E.call f p).bind fun r=>k (yO (mpT r)) st'
 | 1=>match E.prim f with
  | some q=>bif q.own.isSome then none else qed st.H vs fun xs=>(q.g xs).bind fun y=>bif(q.enc y).all scT then k (yO (mpT (q.enc y))) st else none
  | none=>qed st.H vs fun xs=>bif fr then qcw E.call f xs fun r=>bif r.all scT then k (yO (mpT r)) st else none else(qfW E.call f xs).bind fun r=>bif r.all scT then k (yO (mpT r)) st else none
 | m=>match own4 m (E.prim f)with
  | some jq=>bif qva jq.1 vs then(bif fr then qlH st jq.1 vs fun n xs=>(jq.2.g xs).bind fun y=>k (yO (mpT (jq.2.enc y))) (st.give n)else none)
   else ZN fr st vs fun p st'=>(jq.2.gT p).bind fun y=>k (yO (mpT (jq.2.enc y))) st'
  | none=>bif fr then
   let ns:=qeh 99 st.H (qaZ.go vs) []
   (pick st.H ns).bind fun os0=>bif qei ns then
     let os:=bif Nat.beq m 3||Nat.beq m 5 then os0.map fxB else os0
     E.call O f (mpL (JJ (YG ns)) vs) (os.map (OB.mp (JJ (YG ns)))) fun r1 H1=>
      let h:=st.H.length
      let bs:=H1.map (OB.mp (JJ (qbw ns h)))
      let st1:=st.mp (jX ns os bs)
      qsY (Nat.beq m 5) vs k (yO (mpL (JJ (qbw ns h)) r1)) { st1 with H:=Jb (JG st1.H ns) ns (Q6 os0 bs) }else none
  else none
def qhm:SV→Option (Nat×List SV×List SV)
 | .t (.fn f a b)=>some (f,mpT a,mpT b)
 | .clo f a b=>some (f,a,b)
 | _=>none
section
variable {O:Type} (E:Env) (fr:Bool) (st:St)
def qoZ(v:SV)(k:SV→St→Option O):Option O:=match v with
 | .osl n o len=>(match E.T.nz E.f with
  | some u=>bif fr then qbt 64 st (.osl n o len) fun t st'=>(match t with
   | .sl w l=>(yC u l).bind fun l'=>k (.t (.ql u w l')) st'
   | _=>none)else k (.osl n o len) st
  | none=>k (.osl n o len) st)
 | v=>k v st
def qcx(ty:Nat)(x:Operand)(k:SV→St→Option O):Option O :=
 match x with
 | .const (.slice none 0 0)=>(match E.T.el ty with
  | some p=>(match E.T.nz E.f with
   | some u=>k (.t (.ql u p.2 [])) st
   | none=>bif fr then k (.osl st.H.length 0 0) { st with H:=st.H++[.row false p.1 p.2 []] }else k (.t (.sl p.2 [])) st)
  | none=>k (.t (.sl 0 [])) st)
 | x=>(opd E st x).bind fun v=>qoZ E fr st v k
def qo0(c a b:Operand)(k:SV→St→Option O):Option O :=
 (opd E st c).bind fun v=>(asB v).bind fun t=>bif t then(opd E st a).bind fun v=>k v st else(opd E st b).bind fun v=>k v st
def qhn(e:Nat)(k:SV→St→Option O):Option O :=
 bif fr then(E.T.ze e).bind fun z=>let r:=zeroCells st.H.length z (E.T.zs e);k (.ref (st.H.length+r.2.length) 0) { st with H:=st.H++r.2++[.cells r.1] }else none
def qlI(x:Operand)(k:SV→St→Option O):Option O :=
 bif fr then(opd E st x).bind fun v=>(Zd v).bind fun c=>k (.ref st.H.length 0) { st with H:=st.H++[.cells c] }else none
def qks(x:Operand)(k:SV→St→Option O):Option O :=
 (opd E st x).bind fun v=>match v with
   | .t (.agg l)=>k (.t (.pt (.agg l) 0)) st
   | _=>qlI E true st x k
def fbD:Option Nat→Bool
 | some d=>E.T.fb E.f d
 | none=>false
def qkt(d:Option Nat)(x:Operand)(k:SV→St→Option O):Option O :=
 bif fr&&fbD E d then qks E st x k else qlI E fr st x k
def qlJ(ns:List Nat):Nat→List OB→List OB
 | _,[]=>[]
 | n,b::l=>(bif Yo ns n then b else .dead)::qlJ ns (n+1) l
def qej(t:Nat)(parts:Array (Nat×Operand))(k:SV→St→Option O):Option O :=
 (E.T.ze t).bind fun z=>(E.T.fo t 0).bind fun _=>bif fr&&E.T.bz E.f then
   (let z0:=zeroCells st.H.length z (E.T.zs t);(qcv E t st z0.1 parts.toList).bind fun r=>qbv r fun v=>k v { st with H:=st.H++qlJ (qaZ.go r) st.H.length z0.2 })
   else(qcv E t st (mpT (bif E.T.bz E.f then z.map T.s else zCs z (E.T.zs t))) parts.toList).bind fun r=>qbv r fun v=>k v st
def qdu(t:Nat)(parts:Array (Nat×Operand))(k:SV→St→Option O):Option O :=
 match E.T.kd t with
 | some (.arr m g w)=>(E.T.ze t).bind fun z=>(qef E m g w st (mpT (zCs z (E.T.zs t))) parts.toList).bind fun r=>qbv r fun v=>k v st
 | _=>qej E fr st t parts k
def qiD:Nat→List (Nat×Operand)→Option (List SV)
 | _,[]=>some []
 | i,(j,x)::r=>bif Nat.beq i j then(opd E st x).bind fun v=>(match v with
  | .ref n o=>(qiD (i+1) r).bind fun l=>some (.ref n o::l)
  | _=>none)else none
def qo1(parts:List (Nat×Operand)):Bool:=match parts with
 | (_,x)::_=>(match opd E st x with
  | some (.ref _ _)=>true
  | _=>false)
 | []=>false
def qek(t n:Nat)(parts:Array (Nat×Operand))(k:SV→St→Option O):Option O :=
 bif fr&&qo1 E st parts.toList then
  bif Nat.beq parts.size n then(E.T.el t).bind fun p=>(E.T.ze p.1).bind fun _=>bif Nat.beq p.2 1&&(Nat.ble n 16777216)then(qiD E st 0 parts.toList).bind fun svs=>k (.osl st.H.length 0 n) { st with H:=st.H++[.cells svs] }else none else none
 else bif Nat.beq parts.size n then(E.T.el t).bind fun p=>(E.T.ty p.1).bind fun q=>(E.T.ze p.1).bind fun _=>bif Nat.ble (n*p.2) 16777216&&Nat.ble n maxLen then qfU E fr q.1 p.2 st 0 parts.toList fun r st'=>
  bif fr then k (.osl st'.H.length 0 r.length) { st' with H:=st'.H++[.row false p.1 p.2 r] }else k (.t (.sl p.2 r)) st' else none else none
def qku(t:Nat)(a:Operand)(k:SV→St→Option O):Option O:=(opd E st a).bind fun v=>ldO E fr st v t k
def qbx(t:Nat)(a x:Operand)(k:SV→St→Option O):Option O :=
 bif fr then(opd E st a).bind fun v=>(opd E st x).bind fun u=>stO E fr st v t u fun st'=>k .un st' else none
def qwd(v:SV)(k:SV→St→Option O):Option O :=
 match v with
 | .ref n o=>k (.ref n o) st
 | .ep n i o=>k (.ep n i o) st
 | .t (.pt y o)=>k (.t (.pt y o)) st
 | _=>none
def qvb(x:Operand)(k:SV→St→Option O):Option O:=(opd E st x).bind fun v=>qwd st v k
def qo2(op:BinOp)(t:Nat)(x y:Operand)(u:Nat)(k:SV→St→Option O):Option O :=
 (opd E st x).bind fun a=>(opd E st y).bind fun b=>qoU E op t u a b fun v=>k v st
def evUn(op:UnOp)(x:Operand)(k:SV→St→Option O):Option O:=(opd E st x).bind fun a=>unO op a fun v=>k v st
def qo3(s d:Nat)(x:Operand)(k:SV→St→Option O):Option O :=
 (opd E st x).bind fun a=>match E.T.kd s,E.T.kd d with
   | some (.int κ),some (.int κ')=>(asI κ a).bind fun n=>k (mkI κ' (κ'.wrap n)) st
   | _,_=>none
def qlK(s d:Nat)(x:Operand)(k:SV→St→Option O):Option O :=
 match E.T.kd d with
 | some .str=>(opd E st x).bind fun a=>(match E.T.kd s with
  | some .str=>(asS a).bind fun b=>k (.t (.s (.string b))) st
  | _=>(E.T.el s).bind fun p=>(match E.T.kd p.1 with
   | some (.int .u8)=>bif Nat.beq p.2 1 then qec st.H a fun y=>(qfD 1 (.t y)).bind fun l=>(ZM l).bind fun m=>bif Nat.ble m.length 549755813888 then k (.t (.s (.string (byI m)))) st else none else none
   | _=>none))
 | _=>qo3 E st s d x k
def qdv(fn:Fn)(a b:Array Operand)(k:SV→St→Option O):Option O :=
 match fn with
 | .func f=>(qfC E st a.toList).bind fun x=>(qfC E st b.toList).bind fun y=>k (.clo f x y) st
 | _=>none
def qho(t:Nat)(l c:Operand)(k:SV→St→Option O):Option O :=
 (opd E st l).bind fun x=>(opd E st c).bind fun y=>bif fr then mkO E st t x y k else mkF E st t x y k
def qwe(t:Nat)(x:Operand)(lo hi:Option Operand)(m:Operand)(k:SV→Option O):Option O:=match lo,hi with
 | none,some h=>(opd E st x).bind fun a=>(opd E st h).bind fun hv=>(opd E st m).bind fun mv=>(asN hv).bind fun j=>(asN mv).bind fun i=>(E.T.el t).bind fun p=>(match a with
  | .osl n off len=>bif E.T.oz E.f then(bif decide (j=0)&&(decide (0≤i)&&decide (i≤(len:Int)))then k (.t (.sl p.2 []))else none)
   else(match st.H[n]? with
    | some (.row _ _ w _)=>bif Nat.beq w p.2&&(decide (0≤j)&&(decide (j≤i)&&decide (i≤(len:Int))))then k (.osl n off j.toNat)else none
    | _=>none)
  | _=>none)
 | _,_=>none
def qdw(t:Nat)(x:Operand)(lo hi mx:Option Operand)(k:SV→St→Option O):Option O :=
 match mx with
 | none=>(opd E st x).bind fun a=>slO E st t a lo hi fun v=>k v st
 | some m=>qwe E st t x lo hi m fun v=>k v st
def evFA(s:Nat)(x:Operand)(f:Nat)(k:SV→St→Option O):Option O :=
 (opd E st x).bind fun a=>(E.T.fo s f).bind fun q=>qlF a q.1 fun v=>k v st
def fdO(v:SV)(q:Nat×Bool×Nat)(k:SV→Option O):Option O:=match v with
 | .st l=>bif q.2.1 then bif Nat.blt 0 q.2.2 then(Qj l q.1 q.2.2).bind fun r=>qbv r k else none else(l[q.1]?).bind fun y=>(nb y).bind k
 | a=>(asAgg a).bind fun l=>(ldT (.agg l) q.1 q.2.1 q.2.2).bind fun y=>k (.t y)
def evF(s:Nat)(x:Operand)(f:Nat)(k:SV→St→Option O):Option O :=
 (opd E st x).bind fun a=>(E.T.fo s f).bind fun q=>fdO a q fun v=>k v st
def qsZ(t:Nat)(x i:Operand)(k:SV→St→Option O):Option O :=
 (opd E st x).bind fun a=>(opd E st i).bind fun j=>ixO E st a j t fun v=>k v st
def qnx{O:Type}:List T→Nat→Int→(T→Option O)→Option O
 | [],_,_,_=>none
 | c::l,i,n,k=>bif decide (n=(i:Int))then(bif c.isAgg then none else k c)else qnx l (i+1) n k
theorem qfX{O:Type}{n:Int}{k:T→Option O}{r:O}:∀ {l:List T} {i:Nat},qnx l i n k=some r→∃(j:Nat) (c:T),l[j]?=some c∧n=((i+j:Nat):Int)∧c.isAgg=false∧k c=some r
 | [],_,h=>by simp[qnx]at h
 | c::l,i,h=>by
  simp only[qnx]at h;by_cases e:n=(i:Int)
  · rw[zh e,zg]at h
    cases hg:c.isAgg with
    | true=>rw[hg]at h;simp at h
    | false=>
     rw[hg,zo]at h;exact⟨0,c,rfl,by rw[e];rfl,hg,h⟩
  · rw[zq e,zo]at h
    obtain⟨j,c',h1,h2,h3,h4⟩:=qfX h;exact⟨j+1,c',by simpa using h1,by rw[h2];congr 1;omega,h3,h4⟩
def evI(t:Nat)(x i:Operand)(k:SV→St→Option O):Option O :=
 match E.T.kd t with
 | some .str=>(opd E st x).bind fun a=>(opd E st i).bind fun j=>(asS a).bind fun s=>(asN j).bind fun n=>bif decide (0≤n)then(s[n.toNat]?).bind fun c=>k (mkI .u8 (c.toNat:Int)) st else none
 | some (.arr m false 1)=>(opd E st x).bind fun a=>(opd E st i).bind fun j=>(asAgg a).bind fun l=>(asN j).bind fun n=>bif decide (0≤n)&&decide (n<(m:Int))then qnx l 0 n fun c=>k (.t c) st else none
 | _=>none
def exO(a:SV)(i:Nat)(k:SV→St→Option O):Option O :=
 match a with
 | .tup l=>(l[i]?).bind fun v=>k v st
 | _=>none
def evEx(x:Operand)(i:Nat)(k:SV→St→Option O):Option O:=(opd E st x).bind fun a=>exO st a i k
def mmO(g:Int→Int→Int)(x y:Operand)(ts:Array Nat)(k:SV→St→Option O):Option O :=
 (opd E st x).bind fun v=>(opd E st y).bind fun u=>(ts[0]?).bind fun t=>match E.T.kd t with
   | some (.int κ)=>(asI κ v).bind fun p=>(asI κ u).bind fun q=>k (mkI κ (g p q)) st
   | _=>none
def clO(v:SV)(t:Nat)(k:St→Option O):Option O :=
 match v with
 | .osl n off len=>(E.T.el t).bind fun p=>(qcY E p.1).bind fun z=>match st.H[n]? with
  | some (.row fx e w l)=>bif Nat.beq w p.2&&Nat.beq z.cells.length w&&Nat.ble (off+len) l.length then k { st with H:=st.H.set n (.row fx e w (l.take off++(List.replicate len z++l.drop (off+len)))) }else none
  | _=>none
 | _=>none
def qwf(b:Builtin)(args:List Operand)(ts:Array Nat)(k:SV→St→Option O):Option O :=
 match args with
 | [x]=>(match b with
  | .len=>(opd E st x).bind fun v=>(ts[0]?).bind fun t=>qsW E v t fun r=>k r st
  | .clear=>bif fr then(opd E st x).bind fun v=>(ts[0]?).bind fun t=>clO E st v t fun st'=>k (.tup []) st' else none
  | _=>none)
 | [x,y]=>(match b with
  | .append=>bif fr then(opd E st x).bind fun v=>(opd E st y).bind fun u=>(ts[0]?).bind fun t=>bif decide (ts = #[t,t])then(bif qhi x then apN E st u t k else apO E st v u t k)else none else none
  | .max=>mmO E st max x y ts k
  | .min=>mmO E st min x y ts k
  | _=>none)
 | _=>none
def qhp(c:Call)(k:SV→St→Option O):Option O :=
 match c.callee with
 | .value f=>(opd E st f).bind fun g=>(qhm g).bind fun q=>(qfC E st c.args.toList).bind fun vs=>qiC E fr st q.1 (q.2.1++vs++q.2.2) k
 | .builtin b=>qwf E fr st b c.args.toList c.argTypes k
 | .invoke _ _=>none
def Zf(o:Oper)(k:SV→St→Option O):Option O :=
 match o.op with
 | .move x=>qcx E fr st o.type x k
 | .assign x=>qcx E fr st o.type x k
 | .pick c a b=>qo0 E st c a b k
 | .alloc e=>qhn E fr st e k
 | .box _ x=>qkt E fr st o.dst x k
 | .build t parts=>qdu E fr st t parts k
 | .buildSlice t n parts=>qek E fr st t n parts k
 | .load t a=>qku E fr st t a k
 | .store t a x=>qbx E fr st t a x k
 | .nilCheck x=>qvb E st x k
 | .binOp op t x y u=>qo2 E st op t x y u k
 | .unOp op _ x=>evUn E st op x k
 | .convert s d x=>qlK E st s d x k
 | .makeFunc fn a b=>qdv E st fn a b k
 | .makeSlice t l c=>qho E fr st t l c k
 | .slice t x lo hi mx=>qdw E st t x lo hi mx k
 | .fieldAddr s x f=>evFA E st s x f k
 | .field s x f=>evF E st s x f k
 | .indexAddr t x i=>qsZ E st t x i k
 | .index t x i=>evI E st t x i k
 | .extract x i=>evEx E st x i k
 | .call c=>qhp E fr st c k
 | _=>none
end
end
end Su
end
