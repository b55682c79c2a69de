/-
  An evaluator, proved sound. No condition.
-/
import Derived.Test.YtldhknmacepeiaaGreatDoorSuXd
set_option linter.unusedVariables false
set_option linter.unusedSimpArgs false
section
namespace Su
noncomputable section
open Go Fly
def Bt.mp{α β:Type}(f:Nat→α→β)(b:Bt α):Bt β:=Bt.rec .nil (fun _ k v _ il ir=>.node il k (f k v) ir) b
theorem Bt.mp_ok{α β:Type}{f g:Nat→α→β}:∀ {b:Bt α},b.mp f=b.mp g→∀ {t:Nat} {v:α},b.get t=some v→f t v=g t v
 | .nil,_,t,v,h=>by simp[Bt.get]at h
 | .node l k u r,he,t,v,h=>by
  have he':Bt.node (l.mp f) k (f k u) (r.mp f)=Bt.node (l.mp g) k (g k u) (r.mp g):=he
  simp only[Bt.node.injEq,true_and]at he';have hg:(Bt.node l k u r).get t=Bool.rec (Bool.rec (r.get t) (l.get t) (Nat.blt t k)) (some u) (Nat.beq t k):=rfl
  rw[hg]at h;cases hb:Nat.beq t k with
  | true=>
   rw[hb]at h;have:=zd hb;subst this
   simp at h;subst h;exact he'.2.1
  | false=>
   rw[hb]at h;cases hc:Nat.blt t k with
   | true=>rw[hc]at h;exact Bt.mp_ok he'.1 h
   | false=>rw[hc]at h;exact Bt.mp_ok he'.2.2 h
def qkZ(P:Program)(k:Nat):Kd→Option Kd
 | .int _=>(Ik P k).map .int
 | .bool=>match P.underlying k with
  | some .bool=>some .bool
  | _=>none
 | .str=>match P.underlying k with
  | some .string=>some .str
  | _=>none
 | .flat _=>(qcs P k).map .flat
 | .arr _ _ _=>match P.underlying k with
  | some (.array m e)=>(Ty P e).map fun p=>.arr m p.1 p.2
  | _=>none
def qbd:Array Value→Sem Value:=fun args=>do
 let(x,y,b)←Extern.MathBitsCarry.three "Sub64" args
 pure (Extern.MathBitsCarry.pair ((x+Extern.MathBitsCarry.m64-y-b) % Extern.MathBitsCarry.m64) (if x<y+b then 1 else 0))
def qbU:Nat→Array Value→Sem Value
 | 1=>qbd
 | _=>add64Entry
def qma(P:Program)(f κ:Nat):Prop:=∃fn,P.funcs[f]?=some fn∧(fn.name == "runtime.NumGoroutine")=false∧fn.body.isNone=true∧Extern.findNext fn=none∧Extern.find fn=some (qbU κ)
theorem qwJ{P:Program}:∀p∈([]:List (Nat×Nat)),qma P p.1 p.2:=fun _ h=>by cases h
theorem qtN{P:Program}{f κ:Nat}(h:qma P f κ)(x y c:Int)(hx:inR .u64 x=true)(hy:inR .u64 y=true)(hc:inR .u64 c=true)(h1:c≤1)(w:World) :
 (callFunc f #[.int .u64 x,.int .u64 y,.int .u64 c]).run P w = .ok (.value (.tuple #[.int .u64 (qhj κ x y c),.int .u64 (qhk κ x y c)])) w:=by
 obtain⟨fn,a1,a2,a3,a4,a5⟩:=h;have u:∀n:Int,inR .u64 n=true↔0≤n∧n<18446744073709551616:=fun n=>by
  simp only[inR,IntKind.min,IntKind.max,IntKind.bits,IntKind.signed,zp,zY];simp;omega
 rw[u]at hx hy hc;rw[run_callFunc_extern a1 a2 a3 a4 a5];have hadd:∀k,qbU k=add64Entry→qhj k x y c=(((x.toNat+y.toNat+c.toNat) % 18446744073709551616:Nat):Int)→qhk k x y c=(((x.toNat+y.toNat+c.toNat) / 18446744073709551616:Nat):Int) →
  ((qbU k #[.int .u64 x,.int .u64 y,.int .u64 c]).run P w).andThen (fun v w'=>.ok (.value v) w')=Result.ok (Next.value (.tuple #[.int .u64 (qhj k x y c),.int .u64 (qhk k x y c)])) w:=by
  intro k h1' h2 h3;rw[h1',run_add64 x y c (by omega) (by omega) (by omega) (by omega),h2,h3];simp only[Result.andThen];have e1:(x+y+c) % 18446744073709551616=(((x.toNat+y.toNat+c.toNat) % 18446744073709551616:Nat):Int):=by omega
  have e2:(x+y+c) / 18446744073709551616=(((x.toNat+y.toNat+c.toNat) / 18446744073709551616:Nat):Int):=by omega
  rw[e1,e2]
 by_cases hκ:κ=1
 · subst hκ
   have key:∀k:Nat,k≤1→(qbd #[.int .u64 x,.int .u64 y,.int .u64 (k:Int)]).run P w =
    .ok (Extern.MathBitsCarry.pair ((x.toNat+Extern.MathBitsCarry.m64-y.toNat-k) % Extern.MathBitsCarry.m64) (if x.toNat<y.toNat+k then 1 else 0)) w:=by
    intro k hk;have:k=0∨k=1:=by omega
    rcases this with rfl|rfl <;> rfl
   obtain⟨k,rfl⟩:=VK hc.1;show((qbd #[.int .u64 x,.int .u64 y,.int .u64 (k:Int)]).run P w).andThen _=_
   rw[key k (by omega)];simp only[Result.andThen,Extern.MathBitsCarry.pair,Extern.MathBitsCarry.m64,qhj,qhk,zn];have e:(if x.toNat<y.toNat+k then 1 else 0:Nat)=(bif Nat.blt x.toNat (y.toNat+k)then 1 else 0:Nat):=by
    by_cases hlt:x.toNat<y.toNat+k
    · rw[z6 hlt,show Nat.blt x.toNat (y.toNat+k)=true by rw[VY];exact hlt];rfl
    · rw[zQ hlt]
      cases hb:Nat.blt x.toNat (y.toNat+k)with
      | false=>rfl
      | true=>exact absurd (by rw[VY]at hb;exact hb) hlt
   rw[e];cases Nat.blt x.toNat (y.toNat+k) <;> rfl
 · exact hadd κ (by unfold qbU;split <;> simp_all) (by unfold qhj;split <;> simp_all) (by unfold qhk;split <;> simp_all)
structure Bts where
 ty:Bt (Bool×Nat)
 kd:Bt Kd
 fo:Bt (Nat×Bool×Nat)
 el:Bt (Nat×Nat)
 ze:Bt (List Value)
 zs:Bt (List (Option (Nat×Nat)))
 sml:Bt Unit
 glob:Nat→Option T
 gv:Nat→Option Nat
 keep:Bt (List Nat)
 dm:Bt Nat
 md:Bt Nat
 fns:Bt Func
 go:Bt Unit
 jn:Bt Unit
 oz:Bt Unit
 bz:Bt Unit
 fb:Bt Unit
 nz:Bt Nat
 lv:Bt (List Nat)
 rj:Bt (List Nat)
 ex:List (Nat×Nat)
def Bts.tbl(B:Bts):Tbl where
 ty:=B.ty.get
 kd:=B.kd.get
 fo:=fun t f=>bif Nat.blt f 64 then B.fo.get (t*64+f)else none
 el:=B.el.get
 ze:=B.ze.get
 zs:=fun t=>(B.zs.get t).getD []
 sml:=fun t=>(B.sml.get t).isSome
 glob:=B.glob
 gv:=B.gv
 keep:=fun f=>(B.keep.get f).getD []
 dm:=fun f i=>(B.dm.get (f*1024+i)).getD 0
 mode:=fun f=>(B.md.get f).getD 0
 fns:=B.fns.get
 ext:=lkG B.ex
 jn:=fun f=>(B.jn.get f).isSome
 oz:=fun f=>(B.oz.get f).isNone
 bz:=fun f=>(B.bz.get f).isSome
 fb:=fun f d=>(B.fb.get (f*4096+d)).isSome
 nz:=B.nz.get
 lv:=B.lv.get
 rj:=fun f i=>B.rj.get (f*1024+i)
structure BtsOK (P:Program) (B:Bts):Prop where
 ty:B.ty.mp (fun k _=>Ty P k)=B.ty.mp fun _ v=>some v
 kd:B.kd.mp (fun k v=>qkZ P k v)=B.kd.mp fun _ v=>some v
 fo:B.fo.mp (fun k _=>Fo P (k / 64) (k % 64))=B.fo.mp fun _ v=>some v
 al:B.fo.mp (fun k _=>qil P (k / 64))=B.fo.mp fun _ _=>true
 el:B.el.mp (fun k _=>El P k)=B.el.mp fun _ v=>some v
 ze:B.ze.mp (fun k _=>Ze P k)=B.ze.mp fun _ v=>some v
 zc:B.ze.mp (fun _ v=>v.all qct)=B.ze.mp fun _ _=>true
 sml:B.sml.mp (fun k _=>Nat.ble (P.bytesOf k) 256)=B.sml.mp fun _ _=>true
 fns:B.fns.mp (fun k _=>P.funcs[k]?)=B.fns.mp fun _ v=>some v
 gf:B.fns.mp (fun k _=>(B.go.get k).isSome)=B.fns.mp fun _ _=>true
 go:B.go.mp (fun k _=>qij P k)=B.go.mp fun _ _=>true
 mo:P.follows .mixedOrders=true
 ex:∀p∈B.ex,qma P p.1 p.2
theorem qjg{B:Bts}{t f:Nat}{r:Nat×Bool×Nat}(h:B.tbl.fo t f=some r):B.fo.get (t*64+f)=some r∧(t*64+f) / 64=t∧(t*64+f) % 64=f:=by
 simp only[Bts.tbl]at h;cases hb:Nat.blt f 64 with
 | false=>rw[hb]at h;simp at h
 | true=>
  rw[hb]at h;have:f<64:=by rw[VY]at hb;exact hb
  exact⟨h,by omega,by omega⟩
def BtsOK.sound{P:Program}{B:Bts}(h:BtsOK P B):Sound P B.tbl where
 tb:={
  ty:=B.ty.get
  ty_ok:=fun t r e=>Bt.mp_ok h.ty e
  ik:=fun t=>match B.kd.get t with
   | some (.int κ)=>some κ
   | _=>none
  ik_ok:=fun t κ e=>by
   split at e
   · rename_i κ' hk
     simp only[za]at e;subst e;have:=Bt.mp_ok h.kd hk
     simp only[qkZ,Vx]at this;obtain⟨κ,h1,h2⟩:=this;simp only[Kd.int.injEq]at h2;subst h2;exact h1
   · simp at e
  fo:=B.tbl.fo
  fo_ok:=fun t f r e=>by
   obtain⟨h1,h2,h3⟩:=qjg e;have:=Bt.mp_ok h.fo h1
   rw[h2,h3]at this;exact this
  el:=B.el.get
  el_ok:=fun t r e=>Bt.mp_ok h.el e
  ze:=B.ze.get
  ze_ok:=fun t r e=>Bt.mp_ok h.ze e
  go:=fun f=>(B.go.get f).isSome
  go_ok:=fun f e=>by
   cases hq:B.go.get f with
   | none=>rw[hq]at e;simp at e
   | some u=>exact Bt.mp_ok h.go hq }
 ty:=fun t r e=>e
 fo:=fun t f r e=>e
 al:=fun t f r e=>by
  obtain⟨h1,h2,h3⟩:=qjg e;have:=Bt.mp_ok h.al h1
  rw[h2]at this;exact this
 el:=fun t r e=>e
 ze:=fun t r e=>e
 zc:=fun t r e=>Bt.mp_ok h.zc e
 ik:=fun t κ e=>by
  have e':B.kd.get t=some (.int κ):=e
  simp only[e']
 bo:=fun t e=>by
  have:=Bt.mp_ok h.kd e
  simp only[qkZ]at this;split at this
  · assumption
  · simp at this
 str:=fun t e=>by
  have:=Bt.mp_ok h.kd e
  simp only[qkZ]at this;split at this
  · assumption
  · simp at this
 arr:=fun t m g w e=>by
  have:=Bt.mp_ok h.kd e
  simp only[qkZ]at this;split at this
  · rename_i m' el hu
    simp only[Vx]at this;obtain⟨p,h1,h2⟩:=this;simp only[Kd.arr.injEq]at h2;obtain⟨rfl,rfl,rfl⟩:=h2;exact⟨el,hu,h1⟩
  · cases this
 flat:=fun t us e=>by
  have:=Bt.mp_ok h.kd e
  simp only[qkZ,Vx]at this;obtain⟨x,h1,h2⟩:=this;simp only[Kd.flat.injEq]at h2;subst h2;exact h1
 sml:=fun t e=>by
  simp only[Bts.tbl]at e;cases hq:B.sml.get t with
  | none=>rw[hq]at e;simp at e
  | some u=>exact zx (Bt.mp_ok h.sml hq)
 fns:=fun f fn e=>Bt.mp_ok h.fns e
 go:=fun f fn e=>Bt.mp_ok h.gf e
 mo:=h.mo
 ext:=fun f κ e x y c hx hy hc h1 w=>qtN (h.ex _ (qbP e)) x y c hx hy hc h1 w
theorem qwK{P:Program}{B:Bts}(h:BtsOK P B)(hc:B.fns.mp (fun f fn=>match fn.body with|some c=>okC fn.ntmps B.tbl f c|none=>true)=B.fns.mp fun _ _=>true){pr:jl}(hpr:JC P B.tbl h.sound pr)(lf m:Nat) :
 J5 P B.tbl h.sound (shN B.tbl pr lf m) :=
 qpW h.sound (fun f fn c h1 h2=>by
  have:=Bt.mp_ok hc h1
  simp only[h2]at this;exact this) (fun call hC=>qp4 h.sound hC hpr) m
end
end Su
end
section
namespace Su
open Go Fly
noncomputable section
structure Cod (α:Type) where
 enc:α→T
 dec:T→Option α
 good:α→Prop
 rep:∀ {x a},dec x=some a→∀ {V v},Rep V x v→Rep V (enc a) v
 de:∀a,dec (enc a)=some a
 rng:∀ {a V v},Rep V (enc a) v→good a
structure Dec (α:Type) where
 enc:α→List T
 dec:List T→Option α
 good:α→Prop
 rep:∀ {xs a},dec xs=some a→∀ {V vs},RepA V xs vs→RepA V (enc a) vs
 de:∀a,dec (enc a)=some a
 rng:∀ {a V vs},RepA V (enc a) vs→good a
def d0:Dec Unit where
 enc _:=[]
 dec l:=match l with|[]=>some ()|_=>none
 good _:=True
 rep {xs a} h V vs hr:=by cases xs with|nil=>exact hr|cons x l=>exact non h
 de _:=rfl
 rng _:=trivial
def dc{α β:Type}(c:Cod α)(d:Dec β):Dec (α×β) where
 enc p:=c.enc p.1::d.enc p.2
 dec l:=match l with|x::l=>(c.dec x).bind fun a=>(d.dec l).bind fun b=>some (a,b)|[]=>none
 good p:=c.good p.1∧d.good p.2
 rep {xs a} h V vs hr:=by
  cases xs with
  | nil=>exact non h
  | cons x l=>
   have h:((c.dec x).bind fun a=>(d.dec l).bind fun b=>some (a,b))=some a:=h
   obtain⟨u,h1,h⟩:=osm h;obtain⟨w,h2,h⟩:=osm h;have:=soi h;subst this
   cases hr with|cons h3 h4=>exact .cons (c.rep h1 h3) (d.rep h2 h4)
 de p:=by
  show((c.dec (c.enc p.1)).bind fun a=>(d.dec (d.enc p.2)).bind fun b=>some (a,b))=_
  rw[c.de,d.de];rfl
 rng {a V vs} hr:=by
  cases vs with
  | nil=>cases hr
  | cons v vs=>cases hr with|cons h3 h4=>exact⟨c.rng h3,d.rng h4⟩
def cI(κ:IntKind):Cod Int where
 enc n:=.s (.int κ n)
 dec x:=asI κ (.t x)
 good n:=inR κ n=true
 rep {x a} h V v hr:=by
  have:=qvk h
  simp only[SV.t.injEq]at this;subst this;exact hr
 de n:=by simp[asI]
 rng {a V v} h:=by cases h with|s h=>exact h
def cB:Cod Bool where
 enc n:=.s (.bool n)
 dec x:=asB (.t x)
 good _:=True
 rep {x a} h V v hr:=by
  have:=qvl h
  simp only[SV.t.injEq]at this;subst this;exact hr
 de n:=rfl
 rng _:=trivial
def cS:Cod ByteArray where
 enc n:=.s (.string n)
 dec x:=asS (.t x)
 good b:=b.size≤maxLen
 rep {x a} h V v hr:=by
  have:=qpP h
  simp only[SV.t.injEq]at this;subst this;exact hr
 de n:=rfl
 rng {a V v} h:=by cases h with|s h=>exact zx h
def d1{α:Type}(c:Cod α):Dec α where
 enc a:=[c.enc a]
 dec l:=match l with|[x]=>c.dec x|_=>none
 good a:=c.good a
 rep {xs a} h V vs hr:=by
  match xs,h with
  | [x],h=>cases hr with|cons h3 h4=>exact .cons (c.rep h h3) h4
 de a:=c.de a
 rng {a V vs} hr:=by cases hr with|cons h3 h4=>exact c.rng h3
theorem qjh:∀ {u:Nat} (_:u≤5) (a:U u),qhg u (view u a)=some a
 | 0,_,a=>by show asI .u8 (.t (.s (.int .u8 a)))=_;simp[asI];rfl
 | 1,_,a=>by show asI .u32 (.t (.s (.int .u32 a)))=_;simp[asI];rfl
 | 2,_,a=>by show asI .u64 (.t (.s (.int .u64 a)))=_;simp[asI];rfl
 | 3,_,a=>by show asI .i64 (.t (.s (.int .i64 a)))=_;simp[asI];rfl
 | 4,_,a=>rfl
 | 5,_,a=>rfl
 | _+6,h,_=>by omega
theorem qdc{u:Nat}(hu:u≤5):∀(l:List (U u)),yC u (l.map (view u))=some l
 | []=>rfl
 | x::l=>by simp only[KH,yC,qjh hu,qdc hu l,zm]
def gU:(u:Nat)→U u→Prop
 | 0,n=>inR .u8 n=true
 | 1,n=>inR .u32 n=true
 | 2,n=>inR .u64 n=true
 | 3,n=>inR .i64 n=true
 | 5,(s:ByteArray)=>s.size≤maxLen
 | _,_=>True
theorem qwL:∀ {u:Nat} {a:U u} {V:qc} {v:Value},Rep V (view u a) v→gU u a
 | 0,a,V,v,h=>by cases h with|s h=>exact h
 | 1,a,V,v,h=>by cases h with|s h=>exact h
 | 2,a,V,v,h=>by cases h with|s h=>exact h
 | 3,a,V,v,h=>by cases h with|s h=>exact h
 | 4,a,V,v,h=>trivial
 | 5,a,V,v,h=>by cases h with|s h=>exact zx h
 | _+6,a,V,v,h=>trivial
theorem qk0:∀ {u:Nat} (_:u≤5) (a:U u),(view u a).cells=[view u a]
 | 0,_,_=>rfl
 | 1,_,_=>rfl
 | 2,_,_=>rfl
 | 3,_,_=>rfl
 | 4,_,_=>rfl
 | 5,_,_=>rfl
 | _+6,h,_=>by omega
theorem qgp{u:Nat}(hu:u≤5):∀(l:List (U u)),(l.map (view u)).flatMap T.cells=l.map (view u)
 | []=>rfl
 | x::l=>by rw[KH,Kx,qk0 hu,qgp hu l];rfl
theorem qji{u:Nat}:∀ {l:List (U u)} {V:qc} {vs:List Value},RepA V (l.map (view u)) vs→∀x∈l,gU u x
 | [],_,_,_,x,h=>by cases h
 | y::l,_,_,.cons h h',x,hx=>by
  rcases zK.1 hx with rfl|hx
  · exact qwL h
  · exact qji h' x hx
def cQ(u w:Nat)(hu:u≤5:=by omega):Cod (List (U u)) where
 enc l:=.ql u w l
 dec x:=match x with
  | .sl w' l=>bif Nat.beq w' w then yC u l else none
  | x=>qkw u w (.t x)
 good l:=(∀x∈l,gU u x)∧l.length≤maxLen
 rep {x a} h V v hr:=by
  split at h
  · obtain⟨h1,h2⟩:=qL h
    have:=zd h1;subst this
    rw[qa7 h2]at hr;exact .ql hr
  · have:=qpQ h
    simp only[SV.t.injEq]at this;subst this;exact hr
 de a:=by
  show qkw u w (.t (.ql u w a))=_
  simp[qkw]
 rng {a V v} h:=by
  cases h with|ql h=>
  cases h with|@sl _ _ vs ad cap h1 h2 h3 h4 h5 h6=>
  rw[qgp hu]at h1;rw[zV]at h4;exact⟨qji h1,by omega⟩
def prim{α ρ:Type}(d:Dec α)(e:Dec ρ)(g:α→Option ρ):PrimD:=⟨ρ,fun xs=>(d.dec xs).bind g,e.enc,none,none,fun _=>none⟩
variable {P:Program} {B:Bts}
def Ok1(P:Program)(T0:Tbl)(S:Sound P T0)(f:Nat)(p:PrimD):Prop:=qav P T0 S f p
theorem qp5{h:BtsOK P B}(hc:B.fns.mp (fun f fn=>match fn.body with|some c=>okC fn.ntmps B.tbl f c|none=>true)=B.fns.mp fun _ _=>true){pr:jl}(hpr:JC P B.tbl h.sound pr)
 {f:Nat} {α ρ:Type} {d:Dec α} {e:Dec ρ} {g:α→Option ρ}
 (law:∀a y,d.good a→g a=some y→∃lf m n,qiE B.tbl pr (shN B.tbl pr lf m) n f (d.enc a) e.dec=some y) :
 ∀xs y,(d.dec xs).bind g=some y→∀V vs,GOK B.tbl V→RepA V xs vs→jk P f vs.toArray V [] fun v V' _=>∃rvs,RepA V' (e.enc y) rvs∧v=YJ rvs:=by
 intro xs y hr V vs hg hrep;obtain⟨a,h1,h2⟩:=osm hr;have hrep':=d.rep h1 hrep;obtain⟨lf,m,n,hl⟩:=law a y (d.rng hrep') h2
 have hF:=(qyv h.sound (fun f fn c h1 h2=>by
  have:=Bt.mp_ok hc h1
  simp only[h2]at this;exact this) (m:=n) (qp4 h.sound (qwK h hc hpr lf m) hpr) hl).2 V vs hg hrep'
 intro w hs hG hVn hnd;refine(hF w hs hG hVn hnd).mono ?_
 rintro ex w' ⟨v,V',G',rfl,hh,ts,rvs,h3,h4,rfl⟩
 exact⟨_,V',G',rfl,hh,rvs,e.rep h3 h4,rfl⟩
theorem qdH{h:BtsOK P B}(hc:B.fns.mp (fun f fn=>match fn.body with|some c=>okC fn.ntmps B.tbl f c|none=>true)=B.fns.mp fun _ _=>true){pr:jl}(hpr:JC P B.tbl h.sound pr)
 {f:Nat} {α ρ:Type} {d:Dec α} {e:Dec ρ} {g:α→Option ρ} (hgo:(B.go.get f).isSome=true)
 (law:∀a y,d.good a→g a=some y→∃lf m n,qiE B.tbl pr (shN B.tbl pr lf m) n f (d.enc a) e.dec=some y):Ok1 P B.tbl h.sound f (prim d e g):=by
 exact⟨hgo,qp5 hc hpr law,fun j hj=>by cases hj⟩
def Ql(l:List (Nat×PrimD))(pr:jl):jl:=fun f=>List.rec (pr f) (fun p _ ih=>Prod.rec (fun k q=>Bool.rec ih (some q) (Nat.beq k f)) p) l
theorem jc{T0:Tbl}{S:Sound P T0}{pr:jl}(h0:JC P T0 S pr):∀ {l:List (Nat×PrimD)},(∀q∈l,Ok1 P T0 S q.1 q.2)→JC P T0 S (Ql l pr)
 | [],_=>h0
 | (k,q)::l,h=>by
  intro f p hp;have ih:=jc h0 (l:=l) fun q hq=>h q (zE _ hq)
  have hp:(Bool.rec (Ql l pr f) (some q) (Nat.beq k f):Option PrimD)=some p:=hp
  cases hb:Nat.beq k f with
  | true=>
   rw[hb]at hp;have:=zd hb;subst this
   have:=KV hp;subst this
   exact h _ (zM ..)
  | false=>rw[hb]at hp;exact ih f p hp
theorem all_cons{α:Type}{Q:α→Prop}{x:α}{l:List α}(h:Q x)(hl:∀q∈l,Q q):∀q∈x::l,Q q:=fun q hq=>by
 rcases zK.1 hq with rfl|hq
 · exact h
 · exact hl q hq
theorem jx{T0:Tbl}{S:Sound P T0}:∀q∈([]:List (Nat×PrimD)),Ok1 P T0 S q.1 q.2:=fun _ h=>by cases h
theorem qQ{T0:Tbl}{S:Sound P T0}{f:Nat}{p:PrimD}{l:List (Nat×PrimD)}(h:Ok1 P T0 S f p)(hl:∀q∈l,Ok1 P T0 S q.1 q.2):∀q∈(f,p)::l,Ok1 P T0 S q.1 q.2:=fun q hq=>by
 rcases zK.1 hq with rfl|hq
 · exact h
 · exact hl q hq
def noPr:jl:=fun _=>none
theorem qhN{T0:Tbl}{S:Sound P T0}:JC P T0 S noPr:=fun _ _ h=>by cases h
@[simp] theorem bif_bind {α β:Type} (c:Bool) (x y:Option α) (k:α→Option β):(bif c then x else y).bind k=bif c then x.bind k else y.bind k:=by cases c <;> rfl
end
end Su
end
section
namespace Su
open Go Fly
theorem qdI{n:Int}:inR .u64 n=true↔0≤n∧n<18446744073709551616:=by
 simp only[inR,IntKind.min,IntKind.max,IntKind.bits,IntKind.signed,zp,zY];simp;omega
theorem qdJ{n:Int}:inR .u32 n=true↔0≤n∧n<4294967296:=by
 simp only[inR,IntKind.min,IntKind.max,IntKind.bits,IntKind.signed,zp,zY];simp;omega
theorem qwM{n:Int}:inR .u8 n=true↔0≤n∧n<256:=by
 simp only[inR,IntKind.min,IntKind.max,IntKind.bits,IntKind.signed,zp,zY];simp;omega
theorem QX{n:Int}:inR .i64 n=true↔-9223372036854775808≤n∧n<9223372036854775808:=by
 simp only[inR,IntKind.min,IntKind.max,IntKind.bits,IntKind.signed,zp,zY];simp;omega
theorem qtO{n:Int}:inR .i32 n=true↔-2147483648≤n∧n<2147483648:=by
 simp only[inR,IntKind.min,IntKind.max,IntKind.bits,IntKind.signed,zp,zY];simp;omega
theorem Zm{κ:IntKind}{n:Int}(h:inR κ n=true):κ.wrap n=n:=by
 cases κ <;> simp only[inR,IntKind.min,IntKind.max,IntKind.wrap,IntKind.bits,IntKind.signed,zp,zY]at h ⊢ <;> simp at h ⊢ <;> (try split) <;> omega
theorem w64{n:Int}(h0 : -9223372036854775808≤n)(h1:n<9223372036854775808):IntKind.i64.wrap n=n:=Zm (QX.2 ⟨h0,h1⟩)
theorem yd{n:Int}(h0:0≤n)(h1:n<18446744073709551616):IntKind.u64.wrap n=n:=Zm (qdI.2 ⟨h0,h1⟩)
theorem qjj{n:Int}(h0:0≤n)(h1:n<4294967296):IntKind.u32.wrap n=n:=Zm (qdJ.2 ⟨h0,h1⟩)
theorem wu8{n:Int}(h0:0≤n)(h1:n<256):IntKind.u8.wrap n=n:=Zm (qwM.2 ⟨h0,h1⟩)
theorem wrap_u64(n:Int):IntKind.u64.wrap n=n % 18446744073709551616:=by simp[IntKind.wrap,IntKind.bits,IntKind.signed]
theorem wrap_u32(n:Int):IntKind.u32.wrap n=n % 4294967296:=by simp[IntKind.wrap,IntKind.bits,IntKind.signed]
theorem JN{α:Type}{l:List α}{i:Nat}:idx l (i:Int)=l[i]?:=by simp[idx]
theorem jR{S R:Type}{n:Nat}{F:S→Option (S ⊕ R)}{s:S}:itP (n+1) F s=(F s).bind fun r=>match r with|.inl s'=>itP n F s'|.inr r=>some r:=rfl
theorem Yx{S R:Type}{F:S→Option (S ⊕ R)}{s s':S}{r:R}(h:F s=some (.inl s'))(hn:∃n,itP n F s'=some r):∃n,itP n F s=some r:=by
 obtain⟨n,hn⟩:=hn;exact⟨n+1,by rw[jR,h];exact hn⟩
theorem J9{S R:Type}{F:S→Option (S ⊕ R)}{s:S}{r:R}(h:F s=some (.inr r)):∃n,itP n F s=some r:=⟨1,by rw[jR,h];rfl⟩
theorem Jf:maxLen=9223372036854775807:=by decide
end Su
end
section
namespace Su
open Go Fly
noncomputable section
theorem qnT{l:List T}(h:(l.all fun x=>!x.isAgg)=true):∀x∈l,x.isAgg=false:=fun x hx=>by
 have:=Ko.1 h x hx
 simpa using this
def cA{α:Type}(d:Dec α)(hf:∀a,((d.enc a).all fun x=>!x.isAgg)=true:=by intro a;rfl):Cod α where
 enc a:=.agg (d.enc a)
 dec x:=match x with|.agg l=>d.dec l|_=>none
 good a:=d.good a
 rep {x a} h V v hr:=by
  cases x with
  | agg l=>cases hr with|agg h1 h2=>exact .agg (d.rep h h1) (qnT (hf a))
  | _=>exact non h
 de a:=d.de a
 rng {a V v} h:=by cases h with|agg h1 h2=>exact d.rng h1
abbrev cW:Cod (Int×Int):=cA (dc (cI .u64) (d1 (cI .u64)))
abbrev qnU:Cod (Bool×Int×Int×Int×Bool):=cA (dc cB (dc (cI .u64) (dc (cI .u64) (dc (cI .i64) (d1 cB)))))
end
end Su
end
