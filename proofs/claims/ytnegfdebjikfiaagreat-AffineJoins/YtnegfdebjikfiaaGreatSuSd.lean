/-
  An evaluator of the program's functions over trees of values, proved sound. No condition.
-/
import Derived.Test.YtnegfdebjikfiaaGreatSuXd
set_option linter.unusedVariables false
set_option linter.unusedSimpArgs false
section
namespace Su
noncomputable section
open Go Fly
def Bt.mp{α β:Type}(f:Nat→α→β)(b:Bt α):Bt β:=Bt.rec .nil (fun _ k v _ il ir=>.node il k (f k v) ir) b
theorem Bt.mp_ok{α β:Type}{f g:Nat→α→β}:∀ {b:Bt α},b.mp f=b.mp g→∀ {t:Nat} {v:α},b.get t=some v→f t v=g t v
 | .nil,_,t,v,h=>by simp[Bt.get]at h
 | .node l k u r,he,t,v,h=>by
  have he':Bt.node (l.mp f) k (f k u) (r.mp f)=Bt.node (l.mp g) k (g k u) (r.mp g):=he
  simp only[Bt.node.injEq,true_and]at he';have hg:(Bt.node l k u r).get t=Bool.rec (Bool.rec (r.get t) (l.get t) (Nat.blt t k)) (some u) (Nat.beq t k):=rfl
  rw[hg]at h;cases hb:Nat.beq t k with
  | true=>
   rw[hb]at h;have:=zk hb;subst this
   simp at h;subst h;exact he'.2.1
  | false=>
   rw[hb]at h;cases hc:Nat.blt t k with
   | true=>rw[hc]at h;exact Bt.mp_ok he'.1 h
   | false=>rw[hc]at h;exact Bt.mp_ok he'.2.2 h
def qph(P:Program)(k:Nat):Kd→Option Kd
 | .int _=>(Ik P k).map .int
 | .bool=>match P.underlying k with
  | some .bool=>some .bool
  | _=>none
 | .str=>match P.underlying k with
  | some .string=>some .str
  | _=>none
 | .flat _=>(qcv P k).map .flat
def qaR:Array Value→Sem Value:=fun args=>do
 let(x,y,b)←Extern.MathBitsCarry.three "Sub64" args
 pure (Extern.MathBitsCarry.pair ((x+Extern.MathBitsCarry.m64-y-b) % Extern.MathBitsCarry.m64) (if x<y+b then 1 else 0))
def qbu:Nat→Array Value→Sem Value
 | 1=>qaR
 | _=>add64Entry
def qeZ(P:Program)(f κ:Nat):Prop:=∃fn,P.funcs[f]?=some fn∧(fn.name == "runtime.NumGoroutine")=false∧fn.body.isNone=true∧Extern.findNext fn=none∧Extern.find fn=some (qbu κ)
theorem qBb{P:Program}:∀p∈([]:List (Nat×Nat)),qeZ P p.1 p.2:=fun _ h=>by cases h
theorem qnh{P:Program}{f κ:Nat}{l:List (Nat×Nat)}(h:qeZ P f κ)(hl:∀p∈l,qeZ P p.1 p.2):∀p∈(f,κ)::l,qeZ P p.1 p.2:=fun p hp=>by
 rcases zA.1 hp with rfl | hp
 · exact h
 · exact hl p hp
theorem qw8{P:Program}{f κ:Nat}(h:qeZ P f κ)(x y c:Int)(hx:inR .u64 x=true)(hy:inR .u64 y=true)(hc:inR .u64 c=true)(h1:c≤1)(w:World) :
 (callFunc f #[.int .u64 x,.int .u64 y,.int .u64 c]).run P w = .ok (.value (.tuple #[.int .u64 (qaI κ x y c),.int .u64 (YB κ x y c)])) w:=by
 obtain⟨fn,a1,a2,a3,a4,a5⟩:=h;have u:∀n:Int,inR .u64 n=true↔0≤n∧n<18446744073709551616:=fun n=>by
  simp only[inR,IntKind.min,IntKind.max,IntKind.bits,IntKind.signed,zl,zy];simp;omega
 rw[u]at hx hy hc;rw[run_callFunc_extern a1 a2 a3 a4 a5];have hadd:∀k,qbu k=add64Entry→qaI k x y c=(((x.toNat+y.toNat+c.toNat) % 18446744073709551616:Nat):Int)→YB k x y c=(((x.toNat+y.toNat+c.toNat) / 18446744073709551616:Nat):Int) →
  ((qbu k #[.int .u64 x,.int .u64 y,.int .u64 c]).run P w).andThen (fun v w'=>.ok (.value v) w')=Result.ok (Next.value (.tuple #[.int .u64 (qaI k x y c),.int .u64 (YB k x y c)])) w:=by
  intro k h1' h2 h3;rw[h1',run_add64 x y c (by omega) (by omega) (by omega) (by omega),h2,h3];simp only[Result.andThen];have e1:(x+y+c) % 18446744073709551616=(((x.toNat+y.toNat+c.toNat) % 18446744073709551616:Nat):Int):=by omega
  have e2:(x+y+c) / 18446744073709551616=(((x.toNat+y.toNat+c.toNat) / 18446744073709551616:Nat):Int):=by omega
  rw[e1,e2]
 by_cases hκ:κ=1
 · subst hκ
   have key:∀k:Nat,k≤1→(qaR #[.int .u64 x,.int .u64 y,.int .u64 (k:Int)]).run P w =
    .ok (Extern.MathBitsCarry.pair ((x.toNat+Extern.MathBitsCarry.m64-y.toNat-k) % Extern.MathBitsCarry.m64) (if x.toNat<y.toNat+k then 1 else 0)) w:=by
    intro k hk;have:k=0∨k=1:=by omega
    rcases this with rfl | rfl <;> rfl
   obtain⟨k,rfl⟩:=KC hc.1;show((qaR #[.int .u64 x,.int .u64 y,.int .u64 (k:Int)]).run P w).andThen _=_
   rw[key k (by omega)];simp only[Result.andThen,Extern.MathBitsCarry.pair,Extern.MathBitsCarry.m64,qaI,YB,zm];have e:(if x.toNat<y.toNat+k then 1 else 0:Nat)=(bif Nat.blt x.toNat (y.toNat+k)then 1 else 0:Nat):=by
    by_cases hlt:x.toNat<y.toNat+k
    · rw[zR hlt,show Nat.blt x.toNat (y.toNat+k)=true by rw[VR];exact hlt];rfl
    · rw[zP hlt]
      cases hb:Nat.blt x.toNat (y.toNat+k)with
      | false=>rfl
      | true=>exact absurd (by rw[VR]at hb;exact hb) hlt
   rw[e];cases Nat.blt x.toNat (y.toNat+k) <;> rfl
 · exact hadd κ (by unfold qbu;split <;> simp_all) (by unfold qaI;split <;> simp_all) (by unfold YB;split <;> simp_all)
structure Bts where
 ty:Bt (Bool×Nat)
 kd:Bt Kd
 fo:Bt (Nat×Bool×Nat)
 el:Bt (Nat×Nat)
 ze:Bt (List Value)
 zs:Bt (List (Option (Nat×Nat)))
 sml:Bt Unit
 glob:Nat→Option T
 keep:Bt (List Nat)
 dm:Bt Nat
 md:Bt Nat
 fns:Bt Func
 go:Bt Unit
 jn:Bt Unit
 oz:Bt Unit
 bz:Bt Unit
 fb:Bt Unit
 nz:Bt Nat
 lv:Bt (List Nat)
 rj:Bt (List Nat)
 ex:List (Nat×Nat)
def Bts.tbl(B:Bts):Tbl where
 ty:=B.ty.get
 kd:=B.kd.get
 fo:=fun t f=>bif Nat.blt f 64 then B.fo.get (t*64+f)else none
 el:=B.el.get
 ze:=B.ze.get
 zs:=fun t=>(B.zs.get t).getD []
 sml:=fun t=>(B.sml.get t).isSome
 glob:=B.glob
 keep:=fun f=>(B.keep.get f).getD []
 dm:=fun f i=>(B.dm.get (f*1024+i)).getD 0
 mode:=fun f=>(B.md.get f).getD 0
 fns:=B.fns.get
 ext:=lkG B.ex
 jn:=fun f=>(B.jn.get f).isSome
 oz:=fun f=>(B.oz.get f).isNone
 bz:=fun f=>(B.bz.get f).isSome
 fb:=fun f d=>(B.fb.get (f*4096+d)).isSome
 nz:=B.nz.get
 lv:=B.lv.get
 rj:=fun f i=>B.rj.get (f*1024+i)
structure BtsOK (P:Program) (B:Bts):Prop where
 ty:B.ty.mp (fun k _=>Ty P k)=B.ty.mp fun _ v=>some v
 kd:B.kd.mp (fun k v=>qph P k v)=B.kd.mp fun _ v=>some v
 fo:B.fo.mp (fun k _=>Fo P (k / 64) (k % 64))=B.fo.mp fun _ v=>some v
 al:B.fo.mp (fun k _=>qi6 P (k / 64))=B.fo.mp fun _ _=>true
 el:B.el.mp (fun k _=>El P k)=B.el.mp fun _ v=>some v
 ze:B.ze.mp (fun k _=>Ze P k)=B.ze.mp fun _ v=>some v
 zc:B.ze.mp (fun _ v=>v.all qcy)=B.ze.mp fun _ _=>true
 sml:B.sml.mp (fun k _=>Nat.ble (P.bytesOf k) 256)=B.sml.mp fun _ _=>true
 fns:B.fns.mp (fun k _=>P.funcs[k]?)=B.fns.mp fun _ v=>some v
 gf:B.fns.mp (fun k _=>(B.go.get k).isSome)=B.fns.mp fun _ _=>true
 go:B.go.mp (fun k _=>qi3 P k)=B.go.mp fun _ _=>true
 mo:P.follows .mixedOrders=true
 ex:∀p∈B.ex,qeZ P p.1 p.2
theorem qjP{B:Bts}{t f:Nat}{r:Nat×Bool×Nat}(h:B.tbl.fo t f=some r):B.fo.get (t*64+f)=some r∧(t*64+f) / 64=t∧(t*64+f) % 64=f:=by
 simp only[Bts.tbl]at h;cases hb:Nat.blt f 64 with
 | false=>rw[hb]at h;simp at h
 | true=>
  rw[hb]at h;have:f<64:=by rw[VR]at hb;exact hb
  exact⟨h,by omega,by omega⟩
def BtsOK.sound{P:Program}{B:Bts}(h:BtsOK P B):Sound P B.tbl where
 tb:={
  ty:=B.ty.get
  ty_ok:=fun t r e=>Bt.mp_ok h.ty e
  ik:=fun t=>match B.kd.get t with
   | some (.int κ)=>some κ
   | _=>none
  ik_ok:=fun t κ e=>by
   split at e
   · rename_i κ' hk
     simp only[zg]at e;subst e;have:=Bt.mp_ok h.kd hk
     simp only[qph,VI]at this;obtain⟨κ,h1,h2⟩:=this;simp only[Kd.int.injEq]at h2;subst h2;exact h1
   · simp at e
  fo:=B.tbl.fo
  fo_ok:=fun t f r e=>by
   obtain⟨h1,h2,h3⟩:=qjP e;have:=Bt.mp_ok h.fo h1
   rw[h2,h3]at this;exact this
  el:=B.el.get
  el_ok:=fun t r e=>Bt.mp_ok h.el e
  ze:=B.ze.get
  ze_ok:=fun t r e=>Bt.mp_ok h.ze e
  go:=fun f=>(B.go.get f).isSome
  go_ok:=fun f e=>by
   cases hq:B.go.get f with
   | none=>rw[hq]at e;simp at e
   | some u=>exact Bt.mp_ok h.go hq }
 ty:=fun t r e=>e
 fo:=fun t f r e=>e
 al:=fun t f r e=>by
  obtain⟨h1,h2,h3⟩:=qjP e;have:=Bt.mp_ok h.al h1
  rw[h2]at this;exact this
 el:=fun t r e=>e
 ze:=fun t r e=>e
 zc:=fun t r e=>Bt.mp_ok h.zc e
 ik:=fun t κ e=>by
  have e':B.kd.get t=some (.int κ):=e
  simp only[e']
 bo:=fun t e=>by
  have:=Bt.mp_ok h.kd e
  simp only[qph]at this;split at this
  · assumption
  · simp at this
 str:=fun t e=>by
  have:=Bt.mp_ok h.kd e
  simp only[qph]at this;split at this
  · assumption
  · simp at this
 flat:=fun t us e=>by
  have:=Bt.mp_ok h.kd e
  simp only[qph,VI]at this;obtain⟨x,h1,h2⟩:=this;simp only[Kd.flat.injEq]at h2;subst h2;exact h1
 sml:=fun t e=>by
  simp only[Bts.tbl]at e;cases hq:B.sml.get t with
  | none=>rw[hq]at e;simp at e
  | some u=>exact zr (Bt.mp_ok h.sml hq)
 fns:=fun f fn e=>Bt.mp_ok h.fns e
 go:=fun f fn e=>Bt.mp_ok h.gf e
 mo:=h.mo
 ext:=fun f κ e x y c hx hy hc h1 w=>qw8 (h.ex _ (qbo e)) x y c hx hy hc h1 w
theorem qrq{P:Program}{B:Bts}(h:BtsOK P B)(hc:B.fns.mp (fun f fn=>match fn.body with | some c=>okC fn.ntmps B.tbl f c | none=>true)=B.fns.mp fun _ _=>true){pr:qq}(hpr:j6 P B.tbl h.sound pr)(lf m:Nat) :
 yl P B.tbl h.sound (shN B.tbl pr lf m) :=
 qri h.sound (fun f fn c h1 h2=>by
  have:=Bt.mp_ok hc h1
  simp only[h2]at this;exact this) (fun call hC=>qid h.sound hC hpr) m
end
end Su
end
section
namespace Su
open Go Fly
noncomputable section
structure Cod (α:Type) where
 enc:α→T
 dec:T→Option α
 good:α→Prop
 rep:∀ {x a},dec x=some a→∀ {V v},Rep V x v→Rep V (enc a) v
 de:∀a,dec (enc a)=some a
 rng:∀ {a V v},Rep V (enc a) v→good a
structure Dec (α:Type) where
 enc:α→List T
 dec:List T→Option α
 good:α→Prop
 rep:∀ {xs a},dec xs=some a→∀ {V vs},RepA V xs vs→RepA V (enc a) vs
 de:∀a,dec (enc a)=some a
 rng:∀ {a V vs},RepA V (enc a) vs→good a
def d0:Dec Unit where
 enc _:=[]
 dec l:=match l with | []=>some () | _=>none
 good _:=True
 rep {xs a} h V vs hr:=by cases xs with | nil=>exact hr | cons x l=>exact non h
 de _:=rfl
 rng _:=trivial
def dc{α β:Type}(c:Cod α)(d:Dec β):Dec (α×β) where
 enc p:=c.enc p.1::d.enc p.2
 dec l:=match l with | x::l=>(c.dec x).bind fun a=>(d.dec l).bind fun b=>some (a,b) | []=>none
 good p:=c.good p.1∧d.good p.2
 rep {xs a} h V vs hr:=by
  cases xs with
  | nil=>exact non h
  | cons x l=>
   have h:((c.dec x).bind fun a=>(d.dec l).bind fun b=>some (a,b))=some a:=h
   obtain⟨u,h1,h⟩:=osm h;obtain⟨w,h2,h⟩:=osm h;have:=soi h;subst this
   cases hr with | cons h3 h4=>exact .cons (c.rep h1 h3) (d.rep h2 h4)
 de p:=by
  show((c.dec (c.enc p.1)).bind fun a=>(d.dec (d.enc p.2)).bind fun b=>some (a,b))=_
  rw[c.de,d.de];rfl
 rng {a V vs} hr:=by
  cases vs with
  | nil=>cases hr
  | cons v vs=>cases hr with | cons h3 h4=>exact⟨c.rng h3,d.rng h4⟩
def cI(κ:IntKind):Cod Int where
 enc n:=.s (.int κ n)
 dec x:=asI κ (.t x)
 good n:=inR κ n=true
 rep {x a} h V v hr:=by
  have:=qbq h
  simp only[SV.t.injEq]at this;subst this;exact hr
 de n:=by simp[asI]
 rng {a V v} h:=by cases h with | s h=>exact h
def cB:Cod Bool where
 enc n:=.s (.bool n)
 dec x:=asB (.t x)
 good _:=True
 rep {x a} h V v hr:=by
  have:=qnb h
  simp only[SV.t.injEq]at this;subst this;exact hr
 de n:=rfl
 rng _:=trivial
def cS:Cod ByteArray where
 enc n:=.s (.string n)
 dec x:=asS (.t x)
 good b:=b.size≤maxLen
 rep {x a} h V v hr:=by
  have:=qrc h
  simp only[SV.t.injEq]at this;subst this;exact hr
 de n:=rfl
 rng {a V v} h:=by cases h with | s h=>exact zr h
def d1{α:Type}(c:Cod α):Dec α where
 enc a:=[c.enc a]
 dec l:=match l with | [x]=>c.dec x | _=>none
 good a:=c.good a
 rep {xs a} h V vs hr:=by
  match xs,h with
  | [x],h=>cases hr with | cons h3 h4=>exact .cons (c.rep h h3) h4
 de a:=c.de a
 rng {a V vs} hr:=by cases hr with | cons h3 h4=>exact c.rng h3
def qlU:(u:Nat)→T→Option (U u)
 | 0,x=>asI .u8 (.t x)
 | 1,x=>asI .u32 (.t x)
 | 2,x=>asI .u64 (.t x)
 | 3,x=>asI .i64 (.t x)
 | 4,x=>asB (.t x)
 | 5,x=>asS (.t x)
 | _,_=>none
theorem qpi:∀ {u:Nat} {x:T} {a:U u},qlU u x=some a→x=view u a
 | 0,x,a,h=>by have:=qbq h;simp only[SV.t.injEq]at this;exact this
 | 1,x,a,h=>by have:=qbq h;simp only[SV.t.injEq]at this;exact this
 | 2,x,a,h=>by have:=qbq h;simp only[SV.t.injEq]at this;exact this
 | 3,x,a,h=>by have:=qbq h;simp only[SV.t.injEq]at this;exact this
 | 4,x,a,h=>by have:=qnb h;simp only[SV.t.injEq]at this;exact this
 | 5,x,a,h=>by have:=qrc h;simp only[SV.t.injEq]at this;exact this
 | _+6,x,a,h=>non h
def qI(u:Nat):List T→Option (List (U u))
 | []=>some []
 | x::l=>(qlU u x).bind fun a=>(qI u l).bind fun b=>some (a::b)
theorem qe0{u:Nat}:∀ {l:List T} {a:List (U u)},qI u l=some a→l=a.map (view u)
 | [],a,h=>by have:=soi h;subst this;rfl
 | x::l,a,h=>by
  obtain⟨b,h1,h⟩:=osm h;obtain⟨c,h2,h⟩:=osm h;have:=soi h;subst this
  rw[KB,qpi h1,← qe0 h2]
theorem qjQ:∀ {u:Nat} (_:u≤5) (a:U u),qlU u (view u a)=some a
 | 0,_,a=>by show asI .u8 (.t (.s (.int .u8 a)))=_;simp[asI];rfl
 | 1,_,a=>by show asI .u32 (.t (.s (.int .u32 a)))=_;simp[asI];rfl
 | 2,_,a=>by show asI .u64 (.t (.s (.int .u64 a)))=_;simp[asI];rfl
 | 3,_,a=>by show asI .i64 (.t (.s (.int .i64 a)))=_;simp[asI];rfl
 | 4,_,a=>rfl
 | 5,_,a=>rfl
 | _+6,h,_=>by omega
theorem JA{u:Nat}(hu:u≤5):∀(l:List (U u)),qI u (l.map (view u))=some l
 | []=>rfl
 | x::l=>by simp only[KB,qI,qjQ hu,JA hu l,zj]
def gU:(u:Nat)→U u→Prop
 | 0,n=>inR .u8 n=true
 | 1,n=>inR .u32 n=true
 | 2,n=>inR .u64 n=true
 | 3,n=>inR .i64 n=true
 | 5,(s:ByteArray)=>s.size≤maxLen
 | _,_=>True
theorem qBc:∀ {u:Nat} {a:U u} {V:qb} {v:Value},Rep V (view u a) v→gU u a
 | 0,a,V,v,h=>by cases h with | s h=>exact h
 | 1,a,V,v,h=>by cases h with | s h=>exact h
 | 2,a,V,v,h=>by cases h with | s h=>exact h
 | 3,a,V,v,h=>by cases h with | s h=>exact h
 | 4,a,V,v,h=>trivial
 | 5,a,V,v,h=>by cases h with | s h=>exact zr h
 | _+6,a,V,v,h=>trivial
theorem qlV:∀ {u:Nat} (_:u≤5) (a:U u),(view u a).cells=[view u a]
 | 0,_,_=>rfl
 | 1,_,_=>rfl
 | 2,_,_=>rfl
 | 3,_,_=>rfl
 | 4,_,_=>rfl
 | 5,_,_=>rfl
 | _+6,h,_=>by omega
theorem qgx{u:Nat}(hu:u≤5):∀(l:List (U u)),(l.map (view u)).flatMap T.cells=l.map (view u)
 | []=>rfl
 | x::l=>by rw[KB,Kt,qlV hu,qgx hu l];rfl
theorem qjR{u:Nat}:∀ {l:List (U u)} {V:qb} {vs:List Value},RepA V (l.map (view u)) vs→∀x∈l,gU u x
 | [],_,_,_,x,h=>by cases h
 | y::l,_,_,.cons h h',x,hx=>by
  rcases zA.1 hx with rfl | hx
  · exact qBc h
  · exact qjR h' x hx
def cQ(u w:Nat)(hu:u≤5:=by omega):Cod (List (U u)) where
 enc l:=.ql u w l
 dec x:=match x with
  | .sl w' l=>bif Nat.beq w' w then qI u l else none
  | x=>qcD u w (.t x)
 good l:=(∀x∈l,gU u x)∧l.length≤maxLen
 rep {x a} h V v hr:=by
  split at h
  · obtain⟨h1,h2⟩:=qj h
    have:=zk h1;subst this
    rw[qe0 h2]at hr;exact .ql hr
  · have:=qh7 h
    simp only[SV.t.injEq]at this;subst this;exact hr
 de a:=by
  show qcD u w (.t (.ql u w a))=_
  simp[qcD]
 rng {a V v} h:=by
  cases h with | ql h=>
  cases h with | @sl _ _ vs ad cap h1 h2 h3 h4 h5 h6=>
  rw[qgx hu]at h1;rw[zn]at h4;exact⟨qjR h1,by omega⟩
def prim{α ρ:Type}(d:Dec α)(e:Dec ρ)(g:α→Option ρ):PrimD:=⟨ρ,fun xs=>(d.dec xs).bind g,e.enc,none,none,fun _=>none⟩
variable {P:Program} {B:Bts}
theorem Z4{V:qb}{I:List IE}:∀ {xs:List T} {vs:List Value},RepSs V I (mpT xs) vs→RepA V xs vs
 | [],_,.nil=>.nil
 | _::_,_,.cons (.t h) h'=>.cons h (Z4 h')
def Ok1(P:Program)(T0:Tbl)(S:Sound P T0)(f:Nat)(p:PrimD):Prop:=ZZ P T0 S f p
theorem qjS{h:BtsOK P B}(hc:B.fns.mp (fun f fn=>match fn.body with | some c=>okC fn.ntmps B.tbl f c | none=>true)=B.fns.mp fun _ _=>true){pr:qq}(hpr:j6 P B.tbl h.sound pr)
 {f:Nat} {α ρ:Type} {d:Dec α} {e:Dec ρ} {g:α→Option ρ}
 (law:∀a y,d.good a→g a=some y→∃lf m n,qcF B.tbl pr (shN B.tbl pr lf m) n f (d.enc a) e.dec=some y) :
 ∀xs y,(d.dec xs).bind g=some y→∀V vs,GOK B.tbl V→RepA V xs vs→yJ P f vs.toArray V [] fun v V' _=>∃rvs,RepA V' (e.enc y) rvs∧v=J4 rvs:=by
 intro xs y hr V vs hg hrep;obtain⟨a,h1,h2⟩:=osm hr;have hrep':=d.rep h1 hrep;obtain⟨lf,m,n,hl⟩:=law a y (d.rng hrep') h2
 have hF:=(qzO h.sound (fun f fn c h1 h2=>by
  have:=Bt.mp_ok hc h1
  simp only[h2]at this;exact this) (m:=n) (qid h.sound (qrq h hc hpr lf m) hpr) hl).2 V vs hg hrep'
 intro w hs hG hVn hnd;refine(hF w hs hG hVn hnd).mono ?_
 rintro ex w' ⟨v,V',G',rfl,hh,ts,rvs,h3,h4,rfl⟩
 exact⟨_,V',G',rfl,hh,rvs,e.rep h3 h4,rfl⟩
theorem qdV{h:BtsOK P B}(hc:B.fns.mp (fun f fn=>match fn.body with | some c=>okC fn.ntmps B.tbl f c | none=>true)=B.fns.mp fun _ _=>true){pr:qq}(hpr:j6 P B.tbl h.sound pr)
 {f:Nat} {α ρ:Type} {d:Dec α} {e:Dec ρ} {g:α→Option ρ} (hgo:(B.go.get f).isSome=true)
 (law:∀a y,d.good a→g a=some y→∃lf m n,qcF B.tbl pr (shN B.tbl pr lf m) n f (d.enc a) e.dec=some y):Ok1 P B.tbl h.sound f (prim d e g):=by
 exact⟨hgo,qjS hc hpr law,fun j hj=>by cases hj⟩
def qgy{α ρ:Type}(j:Nat×Nat)(d:Dec α)(e:Dec ρ)(g:α→Option ρ):PrimD:=⟨ρ,fun xs=>(d.dec xs).bind g,e.enc,some j,none,fun _=>none⟩
def qie{α β ρ:Type}(j:Nat×Nat)(d:Dec α)(e:Dec ρ)(g:α→Option ρ)(d2:Dec β)(gt:β→Option ρ):PrimD:=⟨ρ,fun xs=>(d.dec xs).bind g,e.enc,some j,none,fun xs=>(d2.dec xs).bind gt⟩
theorem qjT{V:qb}{I:List IE}{e w:Nat}{l:List T}{G:Own}(hf:qY V G)(h:GR V I [.row false e w l] G):∃V',Sub V V'∧∀len (v:Value),RepS V I (.osl 0 0 len) v→len=l.length→Rep V' (.sl w l) v:=by
 obtain⟨G0,h1,h2⟩:=h;cases h1 with
 | cons h1 h'=>
  cases h' with | nil=>
  cases h1 with
  | @row _ _ _ b ct _ cur a1 a2 a3 a4 a5 a6=>
   have hVb:V b=none:=(hf.perm h2).1 (b,.cells cur e (0,0)) (by simp)
   refine⟨addV V b (.cells cur e (0,0)),Sub.addV hVb,fun len v hr hl=>?_⟩
   cases hr with
   | osl h q1 q2 q3=>
    simp only[Vh,zg,IE.row.injEq]at h;obtain⟨rfl,rfl,rfl⟩:=h;have:sub l 0 len=some l:=by
     unfold sub;rw[show Nat.ble (0+len) l.length=true from zB (by omega)];simp[hl]
    exact qhX (addV_same _ _ _) a2 a3 (a4.mono (Sub.addV hVb)) a5 a6 this q3
   | osl0 h0 _=>exact absurd rfl h0
   | oslv h=>simp at h
   | oslp h _=>simp at h
  | vrow=>
   refine⟨V,Sub.refl _,fun len v hr hl=>?_⟩
   cases hr with
   | osl h _ _ _=>simp at h
   | osl0 h0 _=>exact absurd rfl h0
   | oslv h=>exact .sl (l:=[]) (vs:=[]) (a:=none) (cap:=0) .nil (by simp) (by simp) (by simp) (by simp[maxLen]) (.inl rfl)
   | oslp h _=>simp at h
theorem qjU{V V':qb}{I:List IE}{w:Nat}{l:List T}(hs:Sub V V')(hv:∀len (v:Value),RepS V I (.osl 0 0 len) v→len=l.length→Rep V' (.sl w l) v):∀ {cs:List T} {j:Nat} {vs:List Value},cs[j]?=some (.sl w l)→RepSs V I ((mpT cs).set j (.osl 0 0 l.length)) vs→RepA V' cs vs
 | [],j,_,h,_=>by simp at h
 | c::cs,0,_,h,hr=>by
  simp at h;subst h;simp only[mpT,Wv]at hr;cases hr with | cons h1 h2=>exact .cons (hv _ _ h1 rfl) ((Z4 h2).mono hs)
 | c::cs,j+1,_,h,hr=>by
  simp only[K8]at h;simp only[mpT,Wt]at hr;cases hr with | cons h1 h2=>cases h1 with | t h1=>exact .cons (h1.mono hs) (qjU hs hv h h2)
def qni{O:Type}(T0:Tbl)(pr:qq)(lf m f:Nat)(j:Nat×Nat)(args:List T)(dec:List T→Option O):Option O :=
 (ZV j args).bind fun p=>shN T0 pr lf m O f p.1 p.2 fun r H=>toTsK 64 ⟨[],[],H⟩ r fun ts _=>dec ts
theorem qjV{h:BtsOK P B}(hc:B.fns.mp (fun f fn=>match fn.body with | some c=>okC fn.ntmps B.tbl f c | none=>true)=B.fns.mp fun _ _=>true){pr:qq}(hpr:j6 P B.tbl h.sound pr)
 {f:Nat} {α ρ:Type} {d:Dec α} {e:Dec ρ} {g:α→Option ρ} {j:Nat×Nat} (hgo:(B.go.get f).isSome=true) (hex:∀xs a,d.dec xs=some a→d.enc a=xs)
 (hna:∀a cs xs,d.enc a = .agg cs::xs→∀x∈cs,x.isAgg=false)
 (law:∀a y,d.good a→g a=some y→∃lf m,qni B.tbl pr lf m f j (d.enc a) e.dec=some y):Ok1 P B.tbl h.sound f (qgy j d e g):=by
 refine⟨hgo,And.intro (fun xs y (hn:(none:Option ρ)=some y)=>by cases hn) ?_⟩
 show∀xs y,(qgy j d e g).g xs=some y→∀svs os,ZV j xs=some (svs,os)→∀V I G vs,GOK B.tbl V→qY V G→GR V I os G→RepSs V I svs vs→yJ P f vs.toArray V G fun v V' _=>∃rvs,RepA V' ((qgy j d e g).enc y) rvs∧v=J4 rvs
 intro xs y hr svs os ho V I G vs hg hfr hG hrep;obtain⟨a,h1,h2⟩:=osm hr;have hx:=hex xs a h1;have hgood:d.good a:=by
  unfold ZV at ho;split at ho
  · rename_i w l xs'
    simp only[zg,Kc]at ho;obtain⟨rfl,rfl⟩:=ho;obtain⟨V',hs,hv⟩:=qjT hfr hG;cases hrep with | cons k1 k2=>
    exact d.rng (d.rep h1 (.cons (hv _ _ k1 rfl) ((Z4 k2).mono hs)))
  · rename_i cs xs'
    split at ho
    · rename_i w l hj
      simp only[zg,Kc]at ho;obtain⟨rfl,rfl⟩:=ho;obtain⟨V',hs,hv⟩:=qjT hfr hG;cases hrep with | cons k1 k2=>
      cases k1 with | st k1=>
      exact d.rng (d.rep h1 (.cons (.agg (qjU hs hv hj k1) (hna a cs xs' hx)) ((Z4 k2).mono hs)))
    · simp at ho
  · simp at ho
 rw[← hx]at ho;obtain⟨lf,m,hl⟩:=law a y hgood h2;unfold qni at hl;rw[ho]at hl;have hF:=(qrq h hc hpr lf m _ f svs os _ y hl).2 V I G vs hg hG hrep
 intro w hs hGw hVn hnd;refine(hF w hs hGw hVn hnd).mono ?_
 rintro ex w' ⟨v,V',G',rfl,hh,rs,H',hk,I',rvs,m1,m2,rfl,_⟩
 replace hk:=J1 hk
 obtain⟨z,hz,hk⟩:=osm hk;obtain⟨V2,G2,g2,s2,r2,_⟩:=(yt (I:=I') (L:=[]) 64).2 ⟨[],[],H'⟩ z.2 rs z.1 (by rw[hz]) V' G' rvs m2 ⟨m1,fun d sv hd _=>by simp[St.look]at hd⟩ ⟨fun p hp=>(hh.free p (by simp[hp])).2,by have:=hh.nodup;simpa using this⟩
 exact⟨_,V2,G2,rfl,g2.holds _ _ hh,rvs,e.rep hk r2,rfl⟩
theorem qgz{h:BtsOK P B}(hc:B.fns.mp (fun f fn=>match fn.body with | some c=>okC fn.ntmps B.tbl f c | none=>true)=B.fns.mp fun _ _=>true){pr:qq}(hpr:j6 P B.tbl h.sound pr)
 {f:Nat} {α β ρ:Type} {d:Dec α} {e:Dec ρ} {g:α→Option ρ} {d2:Dec β} {gt:β→Option ρ} {j:Nat×Nat} (h4:Ok1 P B.tbl h.sound f (qgy j d e g))
 (law:∀a y,d2.good a→gt a=some y→∃lf m n,qcF B.tbl pr (shN B.tbl pr lf m) n f (d2.enc a) e.dec=some y):Ok1 P B.tbl h.sound f (qie j d e g d2 gt) :=
 ⟨h4.1,qjS hc hpr law,h4.2.2⟩
def jb(l:List (Nat×PrimD))(pr:qq):qq:=fun f=>List.rec (pr f) (fun p _ ih=>Prod.rec (fun k q=>Bool.rec ih (some q) (Nat.beq k f)) p) l
theorem qo{T0:Tbl}{S:Sound P T0}{pr:qq}(h0:j6 P T0 S pr):∀ {l:List (Nat×PrimD)},(∀q∈l,Ok1 P T0 S q.1 q.2)→j6 P T0 S (jb l pr)
 | [],_=>h0
 | (k,q)::l,h=>by
  intro f p hp;have ih:=qo h0 (l:=l) fun q hq=>h q (zo _ hq)
  have hp:(Bool.rec (jb l pr f) (some q) (Nat.beq k f):Option PrimD)=some p:=hp
  cases hb:Nat.beq k f with
  | true=>
   rw[hb]at hp;have:=zk hb;subst this
   have:=Option.some.inj hp;subst this
   exact h _ (zq ..)
  | false=>rw[hb]at hp;exact ih f p hp
theorem all_nil{α:Type}{Q:α→Prop}:∀q∈([]:List α),Q q:=fun _ h=>by cases h
theorem all_cons{α:Type}{Q:α→Prop}{x:α}{l:List α}(h:Q x)(hl:∀q∈l,Q q):∀q∈x::l,Q q:=fun q hq=>by
 rcases zA.1 hq with rfl | hq
 · exact h
 · exact hl q hq
theorem qw{T0:Tbl}{S:Sound P T0}:∀q∈([]:List (Nat×PrimD)),Ok1 P T0 S q.1 q.2:=fun _ h=>by cases h
theorem qe{T0:Tbl}{S:Sound P T0}{f:Nat}{p:PrimD}{l:List (Nat×PrimD)}(h:Ok1 P T0 S f p)(hl:∀q∈l,Ok1 P T0 S q.1 q.2):∀q∈(f,p)::l,Ok1 P T0 S q.1 q.2:=fun q hq=>by
 rcases zA.1 hq with rfl | hq
 · exact h
 · exact hl q hq
def noPr:qq:=fun _=>none
theorem qif{T0:Tbl}{S:Sound P T0}:j6 P T0 S noPr:=fun _ _ h=>by cases h
@[simp] theorem bif_bind {α β:Type} (c:Bool) (x y:Option α) (k:α→Option β):(bif c then x else y).bind k=bif c then x.bind k else y.bind k:=by cases c <;> rfl
end
end Su
end
section
namespace Su
open Go Fly
theorem qnj{n:Int}:inR .u64 n=true↔0≤n∧n<18446744073709551616:=by
 simp only[inR,IntKind.min,IntKind.max,IntKind.bits,IntKind.signed,zl,zy];simp;omega
theorem qBd{n:Int}:inR .u8 n=true↔0≤n∧n<256:=by
 simp only[inR,IntKind.min,IntKind.max,IntKind.bits,IntKind.signed,zl,zy];simp;omega
theorem qbv{n:Int}:inR .i64 n=true↔-9223372036854775808≤n∧n<9223372036854775808:=by
 simp only[inR,IntKind.min,IntKind.max,IntKind.bits,IntKind.signed,zl,zy];simp;omega
theorem qig{κ:IntKind}{n:Int}(h:inR κ n=true):κ.wrap n=n:=by
 cases κ <;> simp only[inR,IntKind.min,IntKind.max,IntKind.wrap,IntKind.bits,IntKind.signed,zl,zy]at h ⊢ <;> simp at h ⊢ <;> (try split) <;> omega
theorem w64{n:Int}(h0 : -9223372036854775808≤n)(h1:n<9223372036854775808):IntKind.i64.wrap n=n:=qig (qbv.2 ⟨h0,h1⟩)
theorem Jv{n:Int}(h0:0≤n)(h1:n<18446744073709551616):IntKind.u64.wrap n=n:=qig (qnj.2 ⟨h0,h1⟩)
theorem wu8{n:Int}(h0:0≤n)(h1:n<256):IntKind.u8.wrap n=n:=qig (qBd.2 ⟨h0,h1⟩)
theorem qe1(n:Int):IntKind.u64.wrap n=n % 18446744073709551616:=by simp[IntKind.wrap,IntKind.bits,IntKind.signed]
theorem jL{α:Type}{l:List α}{i:Nat}:idx l (i:Int)=l[i]?:=by simp[idx]
theorem qu{S R:Type}{n:Nat}{F:S→Option (S ⊕ R)}{s:S}:itP (n+1) F s=(F s).bind fun r=>match r with | .inl s'=>itP n F s' | .inr r=>some r:=rfl
theorem QR{S R:Type}{F:S→Option (S ⊕ R)}{s s':S}{r:R}(h:F s=some (.inl s'))(hn:∃n,itP n F s'=some r):∃n,itP n F s=some r:=by
 obtain⟨n,hn⟩:=hn;exact⟨n+1,by rw[qu,h];exact hn⟩
theorem yP{S R:Type}{F:S→Option (S ⊕ R)}{s:S}{r:R}(h:F s=some (.inr r)):∃n,itP n F s=some r:=⟨1,by rw[qu,h];rfl⟩
theorem jc:maxLen=9223372036854775807:=by decide
end Su
end
section
namespace Su
open Go Fly
noncomputable section
theorem qgA{l:List T}(h:(l.all fun x=>!x.isAgg)=true):∀x∈l,x.isAgg=false:=fun x hx=>by
 have:=KA.1 h x hx
 simpa using this
def cA{α:Type}(d:Dec α)(hf:∀a,((d.enc a).all fun x=>!x.isAgg)=true:=by intro a;rfl):Cod α where
 enc a:=.agg (d.enc a)
 dec x:=match x with | .agg l=>d.dec l | _=>none
 good a:=d.good a
 rep {x a} h V v hr:=by
  cases x with
  | agg l=>cases hr with | agg h1 h2=>exact .agg (d.rep h h1) (qgA (hf a))
  | _=>exact non h
 de a:=d.de a
 rng {a V v} h:=by cases h with | agg h1 h2=>exact d.rng h1
abbrev cW:Cod (Int×Int):=cA (dc (cI .u64) (d1 (cI .u64)))
abbrev qBe:Cod (Int×Int×Bool×Int×Int):=cA (dc (cI .u64) (dc (cI .u8) (dc cB (dc (cI .u64) (d1 (cI .i64))))))
abbrev qpj:Cod (Bool×Int×Int×Int×Bool):=cA (dc cB (dc (cI .u64) (dc (cI .u64) (dc (cI .i64) (d1 cB)))))
abbrev qBf:Cod (Bool×Int×Int):=cA (dc cB (dc (cI .u64) (d1 (cI .u64))))
def qlW:T→Option (U 10)
 | .agg [a,b]=>(asI .i64 (.t a)).bind fun i=>(asI .u64 (.t b)).bind fun c=>some (⟨i,c⟩:Tm)
 | _=>none
theorem qw9{x:T}{a:U 10}(h:qlW x=some a):x=view 10 a:=by
 unfold qlW at h;split at h
 · obtain⟨i,h1,h⟩:=osm h
   obtain⟨c,h2,h⟩:=osm h;have:=soi h;subst this
   have e1:=qbq h1;have e2:=qbq h2;simp only[SV.t.injEq]at e1 e2;subst e1 e2;rfl
 · exact non h
def qD:List T→Option (List (U 10))
 | []=>some []
 | x::l=>(qlW x).bind fun a=>(qD l).bind fun b=>some (a::b)
theorem J9:∀ {l:List T} {a:List (U 10)},qD l=some a→l=a.map (view 10)
 | [],a,h=>by have:=soi h;subst this;rfl
 | x::l,a,h=>by
  obtain⟨b,h1,h⟩:=osm h;obtain⟨c,h2,h⟩:=osm h;have:=soi h;subst this
  rw[KB,qw9 h1,← J9 h2]
theorem qih{V:qb}:∀ {l:List (U 10)} {vs:List Value},RepA V ((l.map (view 10)).flatMap T.cells) vs→∀t∈l,inR .i64 (Tm.id t)=true∧inR .u64 (Tm.c t)=true
 | [],_,_,t,ht=>by cases ht
 | y::l,vs,h,t,ht=>by
  have e:((y::l).map (view 10)).flatMap T.cells=T.s (.int .i64 (Tm.id y))::T.s (.int .u64 (Tm.c y))::(l.map (view 10)).flatMap T.cells:=rfl
  rw[e]at h;cases h with | cons h1 h=>
  cases h with | cons h2 h=>
  rcases zA.1 ht with rfl | ht
  · cases h1 with | s h1=>cases h2 with | s h2=>exact⟨h1,h2⟩
  · exact qih h t ht
def Y9:Cod (List (U 10)) where
 enc l:=.ql 10 2 l
 dec x:=match x with
  | .sl w l=>bif Nat.beq w 2 then qD l else none
  | x=>qcD 10 2 (.t x)
 good l:=(∀t∈l,inR .i64 (Tm.id t)=true∧inR .u64 (Tm.c t)=true)∧l.length≤maxLen
 rep {x a} h V v hr:=by
  split at h
  · obtain⟨h1,h2⟩:=qj h
    have:=zk h1;subst this
    rw[J9 h2]at hr;exact .ql hr
  · have:=qh7 h
    simp only[SV.t.injEq]at this;subst this;exact hr
 de a:=by
  show qcD 10 2 (.t (.ql 10 2 a))=_
  simp[qcD]
 rng {a V v} h:=by
  cases h with | ql h=>
  cases h with | @sl _ _ vs ad cap h1 h2 h3 h4 h5 h6=>
  rw[zn]at h4;exact⟨qih h1,by omega⟩
def qii:Cod (List (U 10)) where
 enc l:=.sl 2 (l.map (view 10))
 dec x:=match x with
  | .sl w l=>bif Nat.beq w 2 then qD l else none
  | _=>none
 good l:=(∀t∈l,inR .i64 (Tm.id t)=true∧inR .u64 (Tm.c t)=true)∧l.length≤maxLen
 rep {x a} h V v hr:=by
  split at h
  · obtain⟨h1,h2⟩:=qj h
    have:=zk h1;subst this
    rw[J9 h2]at hr;exact hr
  · exact non h
 de a:=by
  have:∀l:List (U 10),qD (l.map (view 10))=some l:=by
   intro l;induction l with
   | nil=>rfl
   | cons x l ih=>
    have e:qlW (view 10 x)=some x:=by
     show((asI .i64 (.t (.s (.int .i64 (Tm.id x))))).bind fun i=>(asI .u64 (.t (.s (.int .u64 (Tm.c x))))).bind fun c=>some (⟨i,c⟩:Tm))=_
     simp[asI];rfl
    show((qlW (view 10 x)).bind fun a=>(qD (l.map (view 10))).bind fun b=>some (a::b))=_
    rw[e,ih];rfl
  exact this a
 rng {a V v} h:=by
  cases h with | @sl _ _ vs ad cap h1 h2 h3 h4 h5 h6=>
  rw[zn]at h4;exact⟨qih h1,by omega⟩
def cF(f:Nat):Cod Unit where
 enc _:=.fn f [] []
 dec x:=match x with
  | .fn f' [] []=>bif Nat.beq f' f then some ()else none
  | _=>none
 good _:=True
 rep {x a} h V v hr:=by
  split at h
  · obtain⟨h1,_⟩:=qj h
    have:=zk h1;subst this
    exact hr
  · exact non h
 de _:=by show(bif Nat.beq f f then some ()else none)=_;rw[show Nat.beq f f=true from by simp];rfl
 rng _:=trivial
def Exa{α:Type}(c:Cod α):Prop:=∀x a,c.dec x=some a→c.enc a=x
def ExD{α:Type}(c:Dec α):Prop:=∀x a,c.dec x=some a→c.enc a=x
theorem exI(κ:IntKind):Exa (cI κ):=fun x a h=>by have:=qbq (show asI κ (.t x)=some a from h);simp only[SV.t.injEq]at this;exact this.symm
theorem exB:Exa cB:=fun x a h=>by have:=qnb (show asB (.t x)=some a from h);simp only[SV.t.injEq]at this;exact this.symm
theorem exFn(f:Nat):Exa (cF f):=fun x a h=>by
 simp only[cF]at h ⊢;split at h
 · obtain⟨h1,_⟩:=qj h
   have:=zk h1;subst this;rfl
 · exact non h
theorem qzQ:Exa qii:=fun x a h=>by
 simp only[qii]at h ⊢;split at h
 · obtain⟨h1,h2⟩:=qj h
   have:=zk h1;subst this
   rw[J9 h2]
 · exact non h
theorem ex1{α:Type}{c:Cod α}(hc:Exa c):ExD (d1 c):=fun x a h=>by
 match x,h with
 | [x],h=>exact congrArg (fun y=>[y]) (hc x a h)
theorem exc{α β:Type}{c:Cod α}{d:Dec β}(hc:Exa c)(hd:ExD d):ExD (dc c d):=fun x a h=>by
 match x,h with
 | x::l,h=>
  have h:((c.dec x).bind fun a=>(d.dec l).bind fun b=>some (a,b))=some a:=h
  obtain⟨u,h1,h⟩:=osm h;obtain⟨w,h2,h⟩:=osm h;have:=soi h;subst this
  show c.enc u::d.enc w=_
  rw[hc _ _ h1,hd _ _ h2]
theorem exA{α:Type}{d:Dec α}{hf}(hd:ExD d):Exa (cA d hf):=fun x a h=>by
 cases x with
 | agg l=>exact congrArg T.agg (hd l a h)
 | _=>exact non h
theorem hnA{α:Type}{d:Dec α}{hf:∀a,((d.enc a).all fun x=>!x.isAgg)=true}:∀a cs xs,(d1 (cA d hf)).enc a = .agg cs::xs→∀x∈cs,x.isAgg=false:=fun a cs xs h=>by
 have h:[T.agg (d.enc a)] = .agg cs::xs:=h
 simp only[VN,T.agg.injEq]at h;rw[← h.1];exact qgA (hf a)
theorem qEe{α:Type}{d:Dec α}:∀a cs xs,(dc qii d).enc a = .agg cs::xs→∀x∈cs,x.isAgg=false:=fun a cs xs h=>by
 have h:(T.sl 2 (a.1.map (view 10))::d.enc a.2) = .agg cs::xs:=h
 simp only[VN,reduceCtorEq,false_and]at h
abbrev qe2:Cod (Bool×Int×List (U 10)×Int):=cA (dc cB (dc (cI .u64) (dc qii (d1 (cI .u64)))))
theorem exF4:∀xs a,(d1 qe2).dec xs=some a→(d1 qe2).enc a=xs:=ex1 (exA (exc exB (exc (exI _) (exc qzQ (ex1 (exI _))))))
abbrev jC:Cod (Bool×Int×List (U 10)×Int):=cA (dc cB (dc (cI .u64) (dc Y9 (d1 (cI .u64)))))
abbrev cRf:Cod (Bool×Int×List (U 3)×List (U 2)×Int):=cA (dc cB (dc (cI .u64) (dc (cQ 3 1) (dc (cQ 2 1) (d1 (cI .u64))))))
def unFm(x:T):Option (U 11):=jC.dec x
def qrr:List T→Option (List (U 11))
 | []=>some []
 | x::l=>(unFm x).bind fun a=>(qrr l).bind fun b=>some (a::b)
theorem qrs{x:T}{a:U 11}(h:unFm x=some a){V:qb}{vs:List Value}(hr:RepA V x.cells vs)(hn:∀y∈x.cells,y.isAgg=false):RepA V (view 11 a).cells vs∧x.cells.length=4:=by
 cases x with
 | agg l=>
  have h':(dc cB (dc (cI .u64) (dc Y9 (d1 (cI .u64))))).dec l=some a:=h
  have h1:=(dc cB (dc (cI .u64) (dc Y9 (d1 (cI .u64))))).rep h' hr
  have hl:l.length=vs.length:=hr.length
  have hl2:=h1.length;exact⟨h1,by show l.length=4;rw[hl,← hl2];rfl⟩
 | _=>exact non h
theorem qgB{V:qb}:∀ {l:List T} {a:List (U 11)} {vs:List Value},qrr l=some a→RepA V (l.flatMap T.cells) vs→(∀x∈l.flatMap T.cells,x.isAgg=false) →
 RepA V ((a.map (view 11)).flatMap T.cells) vs∧(∀x∈(a.map (view 11)).flatMap T.cells,x.isAgg=false)∧(∀x∈a.map (view 11),x.cells.length=4)∧(∀x∈l,x.cells.length=4)∧a.length=l.length
 | [],a,vs,h,hr,hn=>by have:=soi h;subst this;exact⟨hr,by simp,by simp,by simp,rfl⟩
 | x::l,a,vs,h,hr,hn=>by
  obtain⟨b,h1,h⟩:=osm h;obtain⟨c,h2,h⟩:=osm h;have:=soi h;subst this
  rw[Kt]at hr hn;obtain⟨v1,v2,rfl,k1,k2⟩:=hr.split;obtain⟨e1,e2⟩:=qrs h1 k1 (fun y hy=>hn y (zF.2 (.inl hy)))
  obtain⟨f1,f2,f3,f4,f5⟩:=qgB h2 k2 (fun y hy=>hn y (zF.2 (.inr hy)))
  rw[KB,Kt];refine⟨e1.append f1,fun y hy=>?_,fun y hy=>?_,fun y hy=>?_,by simp[f5]⟩
  · rcases zF.1 hy with hy | hy
    · have hy:y∈[T.s (.bool b.1),.s (.int .u64 b.2.1),.ql 10 2 b.2.2.1,.s (.int .u64 b.2.2.2)]:=hy
      simp only[zA,List.not_mem_nil,or_false]at hy;rcases hy with rfl | rfl | rfl | rfl <;> rfl
    · exact f2 y hy
  · rcases zA.1 hy with rfl | hy
    · rfl
    · exact f3 y hy
  · rcases zA.1 hy with rfl | hy
    · exact e2
    · exact f4 y hy
theorem qnk{V:qb}:∀ {l:List (U 11)} {vs:List Value},RepA V ((l.map (view 11)).flatMap T.cells) vs→∀t∈l,jC.good t
 | [],_,_,t,ht=>by cases ht
 | y::l,vs,h,t,ht=>by
  rw[KB,Kt]at h;obtain⟨v1,v2,rfl,k1,k2⟩:=h.split;rcases zA.1 ht with rfl | ht
  · exact(dc cB (dc (cI .u64) (dc Y9 (d1 (cI .u64))))).rng k1
  · exact qnk k2 t ht
def cFms:Cod (List (U 11)) where
 enc l:=.ql 11 4 l
 dec x:=match x with
  | .sl w l=>bif Nat.beq w 4 then qrr l else none
  | x=>qcD 11 4 (.t x)
 good l:=(∀t∈l,jC.good t)∧l.length≤maxLen
 rep {x a} h V v hr:=by
  split at h
  · obtain⟨h1,h2⟩:=qj h
    have:=zk h1;subst this
    cases hr with | @sl _ _ vs ad cap k1 k2 k3 k4 k5 k6=>
    obtain⟨f1,f2,f3,f4,f5⟩:=qgB h2 k1 k2;rename_i l;have hl:(a.map (view 11)).length=l.length:=by rw[zn,f5]
    have:=Rep.sl (V:=V) (k:=4) (l:=a.map (view 11)) (a:=ad) (cap:=cap) f1 f2 f3 (by omega) k5 (k6.imp (fun e=>by subst e;exact List.eq_nil_of_length_eq_zero (by simpa using hl)) id)
    rw[hl]at this;exact .ql this
  · have:=qh7 h
    simp only[SV.t.injEq]at this;subst this;exact hr
 de a:=by
  show qcD 11 4 (.t (.ql 11 4 a))=_
  simp[qcD]
 rng {a V v} h:=by
  cases h with | ql h=>
  cases h with | @sl _ _ vs ad cap h1 h2 h3 h4 h5 h6=>
  rw[zn]at h4;exact⟨qnk h1,by omega⟩
end
end Su
end
