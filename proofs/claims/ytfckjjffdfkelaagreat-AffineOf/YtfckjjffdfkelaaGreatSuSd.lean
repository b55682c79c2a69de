/-
  An evaluator of the program's functions over trees of values, proved sound. No condition.
-/
import Derived.Test.YtfckjjffdfkelaaGreatSuXd
set_option linter.unusedVariables false
set_option linter.unusedSimpArgs false
section
namespace Su
noncomputable section
open Go Fly
def Bt.mp{α β:Type}(f:Nat→α→β)(b:Bt α):Bt β:=Bt.rec .nil (fun _ k v _ il ir=>.node il k (f k v) ir) b
theorem Bt.mp_ok{α β:Type}{f g:Nat→α→β}:∀ {b:Bt α},b.mp f=b.mp g→∀ {t:Nat} {v:α},b.get t=some v→f t v=g t v
 | .nil,_,t,v,h=>by simp[Bt.get]at h
 | .node l k u r,he,t,v,h=>by
  have he':Bt.node (l.mp f) k (f k u) (r.mp f)=Bt.node (l.mp g) k (g k u) (r.mp g):=he
  simp only[Bt.node.injEq,true_and]at he';have hg:(Bt.node l k u r).get t=Bool.rec (Bool.rec (r.get t) (l.get t) (Nat.blt t k)) (some u) (Nat.beq t k):=rfl
  rw[hg]at h;cases hb:Nat.beq t k with
  | true=>
   rw[hb]at h;have:=zj hb;subst this
   simp at h;subst h;exact he'.2.1
  | false=>
   rw[hb]at h;cases hc:Nat.blt t k with
   | true=>rw[hc]at h;exact Bt.mp_ok he'.1 h
   | false=>rw[hc]at h;exact Bt.mp_ok he'.2.2 h
def qrD(P:Program)(k:Nat):Kd→Option Kd
 | .int _=>(Ik P k).map .int
 | .bool=>match P.underlying k with
  | some .bool=>some .bool
  | _=>none
 | .str=>match P.underlying k with
  | some .string=>some .str
  | _=>none
 | .flat _=>(qdd P k).map .flat
def qbV:Array Value→Sem Value:=fun args=>do
 let(x,y,b)←Extern.MathBitsCarry.three "Sub64" args
 pure (Extern.MathBitsCarry.pair ((x+Extern.MathBitsCarry.m64-y-b) % Extern.MathBitsCarry.m64) (if x<y+b then 1 else 0))
def qcy:Nat→Array Value→Sem Value
 | 1=>qbV
 | _=>add64Entry
def qf9(P:Program)(f κ:Nat):Prop:=∃fn,P.funcs[f]?=some fn∧(fn.name == "runtime.NumGoroutine")=false∧fn.body.isNone=true∧Extern.findNext fn=none∧Extern.find fn=some (qcy κ)
theorem qDI{P:Program}:∀p∈([]:List (Nat×Nat)),qf9 P p.1 p.2:=fun _ h=>by cases h
theorem qpx{P:Program}{f κ:Nat}{l:List (Nat×Nat)}(h:qf9 P f κ)(hl:∀p∈l,qf9 P p.1 p.2):∀p∈(f,κ)::l,qf9 P p.1 p.2:=fun p hp=>by
 rcases zJ.1 hp with rfl | hp
 · exact h
 · exact hl p hp
theorem qyZ{P:Program}{f κ:Nat}(h:qf9 P f κ)(x y c:Int)(hx:inR .u64 x=true)(hy:inR .u64 y=true)(hc:inR .u64 c=true)(h1:c≤1)(w:World) :
 (callFunc f #[.int .u64 x,.int .u64 y,.int .u64 c]).run P w = .ok (.value (.tuple #[.int .u64 (qbO κ x y c),.int .u64 (ZO κ x y c)])) w:=by
 obtain⟨fn,a1,a2,a3,a4,a5⟩:=h;have u:∀n:Int,inR .u64 n=true↔0≤n∧n<18446744073709551616:=fun n=>by
  simp only[inR,IntKind.min,IntKind.max,IntKind.bits,IntKind.signed,zm,zF];simp;omega
 rw[u]at hx hy hc;rw[run_callFunc_extern a1 a2 a3 a4 a5];have hadd:∀k,qcy k=add64Entry→qbO k x y c=(((x.toNat+y.toNat+c.toNat) % 18446744073709551616:Nat):Int)→ZO k x y c=(((x.toNat+y.toNat+c.toNat) / 18446744073709551616:Nat):Int) →
  ((qcy k #[.int .u64 x,.int .u64 y,.int .u64 c]).run P w).andThen (fun v w'=>.ok (.value v) w')=Result.ok (Next.value (.tuple #[.int .u64 (qbO k x y c),.int .u64 (ZO k x y c)])) w:=by
  intro k h1' h2 h3;rw[h1',run_add64 x y c (by omega) (by omega) (by omega) (by omega),h2,h3];simp only[Result.andThen];have e1:(x+y+c) % 18446744073709551616=(((x.toNat+y.toNat+c.toNat) % 18446744073709551616:Nat):Int):=by omega
  have e2:(x+y+c) / 18446744073709551616=(((x.toNat+y.toNat+c.toNat) / 18446744073709551616:Nat):Int):=by omega
  rw[e1,e2]
 by_cases hκ:κ=1
 · subst hκ
   have key:∀k:Nat,k≤1→(qbV #[.int .u64 x,.int .u64 y,.int .u64 (k:Int)]).run P w =
    .ok (Extern.MathBitsCarry.pair ((x.toNat+Extern.MathBitsCarry.m64-y.toNat-k) % Extern.MathBitsCarry.m64) (if x.toNat<y.toNat+k then 1 else 0)) w:=by
    intro k hk;have:k=0∨k=1:=by omega
    rcases this with rfl | rfl <;> rfl
   obtain⟨k,rfl⟩:=KJ hc.1;show((qbV #[.int .u64 x,.int .u64 y,.int .u64 (k:Int)]).run P w).andThen _=_
   rw[key k (by omega)];simp only[Result.andThen,Extern.MathBitsCarry.pair,Extern.MathBitsCarry.m64,qbO,ZO,zl];have e:(if x.toNat<y.toNat+k then 1 else 0:Nat)=(bif Nat.blt x.toNat (y.toNat+k)then 1 else 0:Nat):=by
    by_cases hlt:x.toNat<y.toNat+k
    · rw[Kp hlt,show Nat.blt x.toNat (y.toNat+k)=true by rw[Wf];exact hlt];rfl
    · rw[zZ hlt]
      cases hb:Nat.blt x.toNat (y.toNat+k)with
      | false=>rfl
      | true=>exact absurd (by rw[Wf]at hb;exact hb) hlt
   rw[e];cases Nat.blt x.toNat (y.toNat+k) <;> rfl
 · exact hadd κ (by unfold qcy;split <;> simp_all) (by unfold qbO;split <;> simp_all) (by unfold ZO;split <;> simp_all)
structure Bts where
 ty:Bt (Bool×Nat)
 kd:Bt Kd
 fo:Bt (Nat×Bool×Nat)
 el:Bt (Nat×Nat)
 ze:Bt (List Value)
 zs:Bt (List (Option (Nat×Nat)))
 sml:Bt Unit
 glob:Nat→Option T
 keep:Bt (List Nat)
 dm:Bt Nat
 md:Bt Nat
 fns:Bt Func
 go:Bt Unit
 jn:Bt Unit
 oz:Bt Unit
 bz:Bt Unit
 fb:Bt Unit
 nz:Bt Nat
 lv:Bt (List Nat)
 rj:Bt (List Nat)
 ex:List (Nat×Nat)
def Bts.tbl(B:Bts):Tbl where
 ty:=B.ty.get
 kd:=B.kd.get
 fo:=fun t f=>bif Nat.blt f 64 then B.fo.get (t*64+f)else none
 el:=B.el.get
 ze:=B.ze.get
 zs:=fun t=>(B.zs.get t).getD []
 sml:=fun t=>(B.sml.get t).isSome
 glob:=B.glob
 keep:=fun f=>(B.keep.get f).getD []
 dm:=fun f i=>(B.dm.get (f*1024+i)).getD 0
 mode:=fun f=>(B.md.get f).getD 0
 fns:=B.fns.get
 ext:=lkG B.ex
 jn:=fun f=>(B.jn.get f).isSome
 oz:=fun f=>(B.oz.get f).isNone
 bz:=fun f=>(B.bz.get f).isSome
 fb:=fun f d=>(B.fb.get (f*4096+d)).isSome
 nz:=B.nz.get
 lv:=B.lv.get
 rj:=fun f i=>B.rj.get (f*1024+i)
structure BtsOK (P:Program) (B:Bts):Prop where
 ty:B.ty.mp (fun k _=>Ty P k)=B.ty.mp fun _ v=>some v
 kd:B.kd.mp (fun k v=>qrD P k v)=B.kd.mp fun _ v=>some v
 fo:B.fo.mp (fun k _=>Fo P (k / 64) (k % 64))=B.fo.mp fun _ v=>some v
 al:B.fo.mp (fun k _=>qk3 P (k / 64))=B.fo.mp fun _ _=>true
 el:B.el.mp (fun k _=>El P k)=B.el.mp fun _ v=>some v
 ze:B.ze.mp (fun k _=>Ze P k)=B.ze.mp fun _ v=>some v
 zc:B.ze.mp (fun _ v=>v.all qdg)=B.ze.mp fun _ _=>true
 sml:B.sml.mp (fun k _=>Nat.ble (P.bytesOf k) 256)=B.sml.mp fun _ _=>true
 fns:B.fns.mp (fun k _=>P.funcs[k]?)=B.fns.mp fun _ v=>some v
 gf:B.fns.mp (fun k _=>(B.go.get k).isSome)=B.fns.mp fun _ _=>true
 go:B.go.mp (fun k _=>qk1 P k)=B.go.mp fun _ _=>true
 mo:P.follows .mixedOrders=true
 ex:∀p∈B.ex,qf9 P p.1 p.2
theorem qlL{B:Bts}{t f:Nat}{r:Nat×Bool×Nat}(h:B.tbl.fo t f=some r):B.fo.get (t*64+f)=some r∧(t*64+f) / 64=t∧(t*64+f) % 64=f:=by
 simp only[Bts.tbl]at h;cases hb:Nat.blt f 64 with
 | false=>rw[hb]at h;simp at h
 | true=>
  rw[hb]at h;have:f<64:=by rw[Wf]at hb;exact hb
  exact⟨h,by omega,by omega⟩
def BtsOK.sound{P:Program}{B:Bts}(h:BtsOK P B):Sound P B.tbl where
 tb:={
  ty:=B.ty.get
  ty_ok:=fun t r e=>Bt.mp_ok h.ty e
  ik:=fun t=>match B.kd.get t with
   | some (.int κ)=>some κ
   | _=>none
  ik_ok:=fun t κ e=>by
   split at e
   · rename_i κ' hk
     simp only[zg]at e;subst e;have:=Bt.mp_ok h.kd hk
     simp only[qrD,V6]at this;obtain⟨κ,h1,h2⟩:=this;simp only[Kd.int.injEq]at h2;subst h2;exact h1
   · simp at e
  fo:=B.tbl.fo
  fo_ok:=fun t f r e=>by
   obtain⟨h1,h2,h3⟩:=qlL e;have:=Bt.mp_ok h.fo h1
   rw[h2,h3]at this;exact this
  el:=B.el.get
  el_ok:=fun t r e=>Bt.mp_ok h.el e
  ze:=B.ze.get
  ze_ok:=fun t r e=>Bt.mp_ok h.ze e
  go:=fun f=>(B.go.get f).isSome
  go_ok:=fun f e=>by
   cases hq:B.go.get f with
   | none=>rw[hq]at e;simp at e
   | some u=>exact Bt.mp_ok h.go hq }
 ty:=fun t r e=>e
 fo:=fun t f r e=>e
 al:=fun t f r e=>by
  obtain⟨h1,h2,h3⟩:=qlL e;have:=Bt.mp_ok h.al h1
  rw[h2]at this;exact this
 el:=fun t r e=>e
 ze:=fun t r e=>e
 zc:=fun t r e=>Bt.mp_ok h.zc e
 ik:=fun t κ e=>by
  have e':B.kd.get t=some (.int κ):=e
  simp only[e']
 bo:=fun t e=>by
  have:=Bt.mp_ok h.kd e
  simp only[qrD]at this;split at this
  · assumption
  · simp at this
 str:=fun t e=>by
  have:=Bt.mp_ok h.kd e
  simp only[qrD]at this;split at this
  · assumption
  · simp at this
 flat:=fun t us e=>by
  have:=Bt.mp_ok h.kd e
  simp only[qrD,V6]at this;obtain⟨x,h1,h2⟩:=this;simp only[Kd.flat.injEq]at h2;subst h2;exact h1
 sml:=fun t e=>by
  simp only[Bts.tbl]at e;cases hq:B.sml.get t with
  | none=>rw[hq]at e;simp at e
  | some u=>exact zo (Bt.mp_ok h.sml hq)
 fns:=fun f fn e=>Bt.mp_ok h.fns e
 go:=fun f fn e=>Bt.mp_ok h.gf e
 mo:=h.mo
 ext:=fun f κ e x y c hx hy hc h1 w=>qyZ (h.ex _ (qcs e)) x y c hx hy hc h1 w
theorem qtX{P:Program}{B:Bts}(h:BtsOK P B)(hc:B.fns.mp (fun f fn=>match fn.body with | some c=>okC fn.ntmps B.tbl f c | none=>true)=B.fns.mp fun _ _=>true){pr:qp}(hpr:QI P B.tbl h.sound pr)(lf m:Nat) :
 yT P B.tbl h.sound (shN B.tbl pr lf m) :=
 qtP h.sound (fun f fn c h1 h2=>by
  have:=Bt.mp_ok hc h1
  simp only[h2]at this;exact this) (fun call hC=>qjs h.sound hC hpr) m
end
end Su
end
section
namespace Su
open Go Fly
noncomputable section
structure Cod (α:Type) where
 enc:α→T
 dec:T→Option α
 good:α→Prop
 rep:∀ {x a},dec x=some a→∀ {V v},Rep V x v→Rep V (enc a) v
 de:∀a,dec (enc a)=some a
 rng:∀ {a V v},Rep V (enc a) v→good a
structure Dec (α:Type) where
 enc:α→List T
 dec:List T→Option α
 good:α→Prop
 rep:∀ {xs a},dec xs=some a→∀ {V vs},RepA V xs vs→RepA V (enc a) vs
 de:∀a,dec (enc a)=some a
 rng:∀ {a V vs},RepA V (enc a) vs→good a
def d0:Dec Unit where
 enc _:=[]
 dec l:=match l with | []=>some () | _=>none
 good _:=True
 rep {xs a} h V vs hr:=by cases xs with | nil=>exact hr | cons x l=>exact non h
 de _:=rfl
 rng _:=trivial
def dc{α β:Type}(c:Cod α)(d:Dec β):Dec (α×β) where
 enc p:=c.enc p.1::d.enc p.2
 dec l:=match l with | x::l=>(c.dec x).bind fun a=>(d.dec l).bind fun b=>some (a,b) | []=>none
 good p:=c.good p.1∧d.good p.2
 rep {xs a} h V vs hr:=by
  cases xs with
  | nil=>exact non h
  | cons x l=>
   have h:((c.dec x).bind fun a=>(d.dec l).bind fun b=>some (a,b))=some a:=h
   obtain⟨u,h1,h⟩:=osm h;obtain⟨w,h2,h⟩:=osm h;have:=soi h;subst this
   cases hr with | cons h3 h4=>exact .cons (c.rep h1 h3) (d.rep h2 h4)
 de p:=by
  show((c.dec (c.enc p.1)).bind fun a=>(d.dec (d.enc p.2)).bind fun b=>some (a,b))=_
  rw[c.de,d.de];rfl
 rng {a V vs} hr:=by
  cases vs with
  | nil=>cases hr
  | cons v vs=>cases hr with | cons h3 h4=>exact⟨c.rng h3,d.rng h4⟩
def cI(κ:IntKind):Cod Int where
 enc n:=.s (.int κ n)
 dec x:=asI κ (.t x)
 good n:=inR κ n=true
 rep {x a} h V v hr:=by
  have:=qcu h
  simp only[SV.t.injEq]at this;subst this;exact hr
 de n:=by simp[asI]
 rng {a V v} h:=by cases h with | s h=>exact h
def cB:Cod Bool where
 enc n:=.s (.bool n)
 dec x:=asB (.t x)
 good _:=True
 rep {x a} h V v hr:=by
  have:=qpr h
  simp only[SV.t.injEq]at this;subst this;exact hr
 de n:=rfl
 rng _:=trivial
def cS:Cod ByteArray where
 enc n:=.s (.string n)
 dec x:=asS (.t x)
 good b:=b.size≤maxLen
 rep {x a} h V v hr:=by
  have:=qtJ h
  simp only[SV.t.injEq]at this;subst this;exact hr
 de n:=rfl
 rng {a V v} h:=by cases h with | s h=>exact zo h
def d1{α:Type}(c:Cod α):Dec α where
 enc a:=[c.enc a]
 dec l:=match l with | [x]=>c.dec x | _=>none
 good a:=c.good a
 rep {xs a} h V vs hr:=by
  match xs,h with
  | [x],h=>cases hr with | cons h3 h4=>exact .cons (c.rep h h3) h4
 de a:=c.de a
 rng {a V vs} hr:=by cases hr with | cons h3 h4=>exact c.rng h3
def qnY:(u:Nat)→T→Option (U u)
 | 0,x=>asI .u8 (.t x)
 | 1,x=>asI .u32 (.t x)
 | 2,x=>asI .u64 (.t x)
 | 3,x=>asI .i64 (.t x)
 | 4,x=>asB (.t x)
 | 5,x=>asS (.t x)
 | _,_=>none
theorem qrE:∀ {u:Nat} {x:T} {a:U u},qnY u x=some a→x=view u a
 | 0,x,a,h=>by have:=qcu h;simp only[SV.t.injEq]at this;exact this
 | 1,x,a,h=>by have:=qcu h;simp only[SV.t.injEq]at this;exact this
 | 2,x,a,h=>by have:=qcu h;simp only[SV.t.injEq]at this;exact this
 | 3,x,a,h=>by have:=qcu h;simp only[SV.t.injEq]at this;exact this
 | 4,x,a,h=>by have:=qpr h;simp only[SV.t.injEq]at this;exact this
 | 5,x,a,h=>by have:=qtJ h;simp only[SV.t.injEq]at this;exact this
 | _+6,x,a,h=>non h
def jW(u:Nat):List T→Option (List (U u))
 | []=>some []
 | x::l=>(qnY u x).bind fun a=>(jW u l).bind fun b=>some (a::b)
theorem qga{u:Nat}:∀ {l:List T} {a:List (U u)},jW u l=some a→l=a.map (view u)
 | [],a,h=>by have:=soi h;subst this;rfl
 | x::l,a,h=>by
  obtain⟨b,h1,h⟩:=osm h;obtain⟨c,h2,h⟩:=osm h;have:=soi h;subst this
  rw[KY,qrE h1,← qga h2]
theorem qlM:∀ {u:Nat} (_:u≤5) (a:U u),qnY u (view u a)=some a
 | 0,_,a=>by show asI .u8 (.t (.s (.int .u8 a)))=_;simp[asI];rfl
 | 1,_,a=>by show asI .u32 (.t (.s (.int .u32 a)))=_;simp[asI];rfl
 | 2,_,a=>by show asI .u64 (.t (.s (.int .u64 a)))=_;simp[asI];rfl
 | 3,_,a=>by show asI .i64 (.t (.s (.int .i64 a)))=_;simp[asI];rfl
 | 4,_,a=>rfl
 | 5,_,a=>rfl
 | _+6,h,_=>by omega
theorem qeu{u:Nat}(hu:u≤5):∀(l:List (U u)),jW u (l.map (view u))=some l
 | []=>rfl
 | x::l=>by simp only[KY,jW,qlM hu,qeu hu l,zi]
def gU:(u:Nat)→U u→Prop
 | 0,n=>inR .u8 n=true
 | 1,n=>inR .u32 n=true
 | 2,n=>inR .u64 n=true
 | 3,n=>inR .i64 n=true
 | 5,(s:ByteArray)=>s.size≤maxLen
 | _,_=>True
theorem qDJ:∀ {u:Nat} {a:U u} {V:qc} {v:Value},Rep V (view u a) v→gU u a
 | 0,a,V,v,h=>by cases h with | s h=>exact h
 | 1,a,V,v,h=>by cases h with | s h=>exact h
 | 2,a,V,v,h=>by cases h with | s h=>exact h
 | 3,a,V,v,h=>by cases h with | s h=>exact h
 | 4,a,V,v,h=>trivial
 | 5,a,V,v,h=>by cases h with | s h=>exact zo h
 | _+6,a,V,v,h=>trivial
theorem qnZ:∀ {u:Nat} (_:u≤5) (a:U u),(view u a).cells=[view u a]
 | 0,_,_=>rfl
 | 1,_,_=>rfl
 | 2,_,_=>rfl
 | 3,_,_=>rfl
 | 4,_,_=>rfl
 | 5,_,_=>rfl
 | _+6,h,_=>by omega
theorem qhI{u:Nat}(hu:u≤5):∀(l:List (U u)),(l.map (view u)).flatMap T.cells=l.map (view u)
 | []=>rfl
 | x::l=>by rw[KY,KG,qnZ hu,qhI hu l];rfl
theorem qlN{u:Nat}:∀ {l:List (U u)} {V:qc} {vs:List Value},RepA V (l.map (view u)) vs→∀x∈l,gU u x
 | [],_,_,_,x,h=>by cases h
 | y::l,_,_,.cons h h',x,hx=>by
  rcases zJ.1 hx with rfl | hx
  · exact qDJ h
  · exact qlN h' x hx
def cQ(u w:Nat)(hu:u≤5:=by omega):Cod (List (U u)) where
 enc l:=.ql u w l
 dec x:=match x with
  | .sl w' l=>bif Nat.beq w' w then jW u l else none
  | x=>qdl u w (.t x)
 good l:=(∀x∈l,gU u x)∧l.length≤maxLen
 rep {x a} h V v hr:=by
  split at h
  · obtain⟨h1,h2⟩:=qi h
    have:=zj h1;subst this
    rw[qga h2]at hr;exact .ql hr
  · have:=qjm h
    simp only[SV.t.injEq]at this;subst this;exact hr
 de a:=by
  show qdl u w (.t (.ql u w a))=_
  simp[qdl]
 rng {a V v} h:=by
  cases h with | ql h=>
  cases h with | @sl _ _ vs ad cap h1 h2 h3 h4 h5 h6=>
  rw[qhI hu]at h1;rw[zr]at h4;exact⟨qlN h1,by omega⟩
def prim{α ρ:Type}(d:Dec α)(e:Dec ρ)(g:α→Option ρ):PrimD:=⟨ρ,fun xs=>(d.dec xs).bind g,e.enc,none,none,fun _=>none⟩
variable {P:Program} {B:Bts}
theorem qbf{V:qc}{I:List IE}:∀ {xs:List T} {vs:List Value},RepSs V I (mpT xs) vs→RepA V xs vs
 | [],_,.nil=>.nil
 | _::_,_,.cons (.t h) h'=>.cons h (qbf h')
def Ok1(P:Program)(T0:Tbl)(S:Sound P T0)(f:Nat)(p:PrimD):Prop:=qba P T0 S f p
theorem qlO{h:BtsOK P B}(hc:B.fns.mp (fun f fn=>match fn.body with | some c=>okC fn.ntmps B.tbl f c | none=>true)=B.fns.mp fun _ _=>true){pr:qp}(hpr:QI P B.tbl h.sound pr)
 {f:Nat} {α ρ:Type} {d:Dec α} {e:Dec ρ} {g:α→Option ρ}
 (law:∀a y,d.good a→g a=some y→∃lf m n,qz B.tbl pr (shN B.tbl pr lf m) n f (d.enc a) e.dec=some y) :
 ∀xs y,(d.dec xs).bind g=some y→∀V vs,GOK B.tbl V→RepA V xs vs→yg P f vs.toArray V [] fun v V' _=>∃rvs,RepA V' (e.enc y) rvs∧v=JN rvs:=by
 intro xs y hr V vs hg hrep;obtain⟨a,h1,h2⟩:=osm hr;have hrep':=d.rep h1 hrep;obtain⟨lf,m,n,hl⟩:=law a y (d.rng hrep') h2
 have hF:=(qCm h.sound (fun f fn c h1 h2=>by
  have:=Bt.mp_ok hc h1
  simp only[h2]at this;exact this) (m:=n) (qjs h.sound (qtX h hc hpr lf m) hpr) hl).2 V vs hg hrep'
 intro w hs hG hVn hnd;refine(hF w hs hG hVn hnd).mono ?_
 rintro ex w' ⟨v,V',G',rfl,hh,ts,rvs,h3,h4,rfl⟩
 exact⟨_,V',G',rfl,hh,rvs,e.rep h3 h4,rfl⟩
theorem qj{h:BtsOK P B}(hc:B.fns.mp (fun f fn=>match fn.body with | some c=>okC fn.ntmps B.tbl f c | none=>true)=B.fns.mp fun _ _=>true){pr:qp}(hpr:QI P B.tbl h.sound pr)
 {f:Nat} {α ρ:Type} {d:Dec α} {e:Dec ρ} {g:α→Option ρ} (hgo:(B.go.get f).isSome=true)
 (law:∀a y,d.good a→g a=some y→∃lf m n,qz B.tbl pr (shN B.tbl pr lf m) n f (d.enc a) e.dec=some y):Ok1 P B.tbl h.sound f (prim d e g):=by
 exact⟨hgo,qlO hc hpr law,fun j hj=>by cases hj⟩
def qhJ{α ρ:Type}(j:Nat×Nat)(d:Dec α)(e:Dec ρ)(g:α→Option ρ):PrimD:=⟨ρ,fun xs=>(d.dec xs).bind g,e.enc,some j,none,fun _=>none⟩
def qjt{α β ρ:Type}(j:Nat×Nat)(d:Dec α)(e:Dec ρ)(g:α→Option ρ)(d2:Dec β)(gt:β→Option ρ):PrimD:=⟨ρ,fun xs=>(d.dec xs).bind g,e.enc,some j,none,fun xs=>(d2.dec xs).bind gt⟩
theorem qlP{V:qc}{I:List IE}{e w:Nat}{l:List T}{G:Own}(hf:qX V G)(h:GR V I [.row false e w l] G):∃V',Sub V V'∧∀len (v:Value),RepS V I (.osl 0 0 len) v→len=l.length→Rep V' (.sl w l) v:=by
 obtain⟨G0,h1,h2⟩:=h;cases h1 with
 | cons h1 h'=>
  cases h' with | nil=>
  cases h1 with
  | @row _ _ _ b ct _ cur a1 a2 a3 a4 a5 a6=>
   have hVb:V b=none:=(hf.perm h2).1 (b,.cells cur e (0,0)) (by simp)
   refine⟨addV V b (.cells cur e (0,0)),Sub.addV hVb,fun len v hr hl=>?_⟩
   cases hr with
   | osl h q1 q2 q3=>
    simp only[VC,zg,IE.row.injEq]at h;obtain⟨rfl,rfl,rfl⟩:=h;have:sub l 0 len=some l:=by
     unfold sub;rw[show Nat.ble (0+len) l.length=true from zn (by omega)];simp[hl]
    exact qjc (addV_same _ _ _) a2 a3 (a4.mono (Sub.addV hVb)) a5 a6 this q3
   | osl0 h0 _=>exact absurd rfl h0
   | oslv h=>simp at h
   | oslp h _=>simp at h
  | vrow=>
   refine⟨V,Sub.refl _,fun len v hr hl=>?_⟩
   cases hr with
   | osl h _ _ _=>simp at h
   | osl0 h0 _=>exact absurd rfl h0
   | oslv h=>exact .sl (l:=[]) (vs:=[]) (a:=none) (cap:=0) .nil (by simp) (by simp) (by simp) (by simp[maxLen]) (.inl rfl)
   | oslp h _=>simp at h
theorem qlQ{V V':qc}{I:List IE}{w:Nat}{l:List T}(hs:Sub V V')(hv:∀len (v:Value),RepS V I (.osl 0 0 len) v→len=l.length→Rep V' (.sl w l) v):∀ {cs:List T} {j:Nat} {vs:List Value},cs[j]?=some (.sl w l)→RepSs V I ((mpT cs).set j (.osl 0 0 l.length)) vs→RepA V' cs vs
 | [],j,_,h,_=>by simp at h
 | c::cs,0,_,h,hr=>by
  simp at h;subst h;simp only[mpT,Wn]at hr;cases hr with | cons h1 h2=>exact .cons (hv _ _ h1 rfl) ((qbf h2).mono hs)
 | c::cs,j+1,_,h,hr=>by
  simp only[VD]at h;simp only[mpT,Wu]at hr;cases hr with | cons h1 h2=>cases h1 with | t h1=>exact .cons (h1.mono hs) (qlQ hs hv h h2)
def qpy{O:Type}(T0:Tbl)(pr:qp)(lf m f:Nat)(j:Nat×Nat)(args:List T)(dec:List T→Option O):Option O :=
 (qa7 j args).bind fun p=>shN T0 pr lf m O f p.1 p.2 fun r H=>toTsK 64 ⟨[],[],H⟩ r fun ts _=>dec ts
theorem qlR{h:BtsOK P B}(hc:B.fns.mp (fun f fn=>match fn.body with | some c=>okC fn.ntmps B.tbl f c | none=>true)=B.fns.mp fun _ _=>true){pr:qp}(hpr:QI P B.tbl h.sound pr)
 {f:Nat} {α ρ:Type} {d:Dec α} {e:Dec ρ} {g:α→Option ρ} {j:Nat×Nat} (hgo:(B.go.get f).isSome=true) (hex:∀xs a,d.dec xs=some a→d.enc a=xs)
 (hna:∀a cs xs,d.enc a = .agg cs::xs→∀x∈cs,x.isAgg=false)
 (law:∀a y,d.good a→g a=some y→∃lf m,qpy B.tbl pr lf m f j (d.enc a) e.dec=some y):Ok1 P B.tbl h.sound f (qhJ j d e g):=by
 refine⟨hgo,And.intro (fun xs y (hn:(none:Option ρ)=some y)=>by cases hn) ?_⟩
 show∀xs y,(qhJ j d e g).g xs=some y→∀svs os,qa7 j xs=some (svs,os)→∀V I G vs,GOK B.tbl V→qX V G→GR V I os G→RepSs V I svs vs→yg P f vs.toArray V G fun v V' _=>∃rvs,RepA V' ((qhJ j d e g).enc y) rvs∧v=JN rvs
 intro xs y hr svs os ho V I G vs hg hfr hG hrep;obtain⟨a,h1,h2⟩:=osm hr;have hx:=hex xs a h1;have hgood:d.good a:=by
  unfold qa7 at ho;split at ho
  · rename_i w l xs'
    simp only[zg,Ku]at ho;obtain⟨rfl,rfl⟩:=ho;obtain⟨V',hs,hv⟩:=qlP hfr hG;cases hrep with | cons k1 k2=>
    exact d.rng (d.rep h1 (.cons (hv _ _ k1 rfl) ((qbf k2).mono hs)))
  · rename_i cs xs'
    split at ho
    · rename_i w l hj
      simp only[zg,Ku]at ho;obtain⟨rfl,rfl⟩:=ho;obtain⟨V',hs,hv⟩:=qlP hfr hG;cases hrep with | cons k1 k2=>
      cases k1 with | st k1=>
      exact d.rng (d.rep h1 (.cons (.agg (qlQ hs hv hj k1) (hna a cs xs' hx)) ((qbf k2).mono hs)))
    · simp at ho
  · simp at ho
 rw[← hx]at ho;obtain⟨lf,m,hl⟩:=law a y hgood h2;unfold qpy at hl;rw[ho]at hl;have hF:=(qtX h hc hpr lf m _ f svs os _ y hl).2 V I G vs hg hG hrep
 intro w hs hGw hVn hnd;refine(hF w hs hGw hVn hnd).mono ?_
 rintro ex w' ⟨v,V',G',rfl,hh,rs,H',hk,I',rvs,m1,m2,rfl,_⟩
 replace hk:=Zl hk
 obtain⟨z,hz,hk⟩:=osm hk;obtain⟨V2,G2,g2,s2,r2,_⟩:=(yK (I:=I') (L:=[]) 64).2 ⟨[],[],H'⟩ z.2 rs z.1 (by rw[hz]) V' G' rvs m2 ⟨m1,fun d sv hd _=>by simp[St.look]at hd⟩ ⟨fun p hp=>(hh.free p (by simp[hp])).2,by have:=hh.nodup;simpa using this⟩
 exact⟨_,V2,G2,rfl,g2.holds _ _ hh,rvs,e.rep hk r2,rfl⟩
theorem qhK{h:BtsOK P B}(hc:B.fns.mp (fun f fn=>match fn.body with | some c=>okC fn.ntmps B.tbl f c | none=>true)=B.fns.mp fun _ _=>true){pr:qp}(hpr:QI P B.tbl h.sound pr)
 {f:Nat} {α β ρ:Type} {d:Dec α} {e:Dec ρ} {g:α→Option ρ} {d2:Dec β} {gt:β→Option ρ} {j:Nat×Nat} (h4:Ok1 P B.tbl h.sound f (qhJ j d e g))
 (law:∀a y,d2.good a→gt a=some y→∃lf m n,qz B.tbl pr (shN B.tbl pr lf m) n f (d2.enc a) e.dec=some y):Ok1 P B.tbl h.sound f (qjt j d e g d2 gt) :=
 ⟨h4.1,qlO hc hpr law,h4.2.2⟩
def qV(l:List (Nat×PrimD))(pr:qp):qp:=fun f=>List.rec (pr f) (fun p _ ih=>Prod.rec (fun k q=>Bool.rec ih (some q) (Nat.beq k f)) p) l
theorem qn{T0:Tbl}{S:Sound P T0}{pr:qp}(h0:QI P T0 S pr):∀ {l:List (Nat×PrimD)},(∀q∈l,Ok1 P T0 S q.1 q.2)→QI P T0 S (qV l pr)
 | [],_=>h0
 | (k,q)::l,h=>by
  intro f p hp;have ih:=qn h0 (l:=l) fun q hq=>h q (zp _ hq)
  have hp:(Bool.rec (qV l pr f) (some q) (Nat.beq k f):Option PrimD)=some p:=hp
  cases hb:Nat.beq k f with
  | true=>
   rw[hb]at hp;have:=zj hb;subst this
   have:=X4 hp;subst this
   exact h _ (zu ..)
  | false=>rw[hb]at hp;exact ih f p hp
theorem all_nil{α:Type}{Q:α→Prop}:∀q∈([]:List α),Q q:=fun _ h=>by cases h
theorem all_cons{α:Type}{Q:α→Prop}{x:α}{l:List α}(h:Q x)(hl:∀q∈l,Q q):∀q∈x::l,Q q:=fun q hq=>by
 rcases zJ.1 hq with rfl | hq
 · exact h
 · exact hl q hq
theorem qr{T0:Tbl}{S:Sound P T0}:∀q∈([]:List (Nat×PrimD)),Ok1 P T0 S q.1 q.2:=fun _ h=>by cases h
theorem qf{T0:Tbl}{S:Sound P T0}{f:Nat}{p:PrimD}{l:List (Nat×PrimD)}(h:Ok1 P T0 S f p)(hl:∀q∈l,Ok1 P T0 S q.1 q.2):∀q∈(f,p)::l,Ok1 P T0 S q.1 q.2:=fun q hq=>by
 rcases zJ.1 hq with rfl | hq
 · exact h
 · exact hl q hq
def qrF:qp:=fun _=>none
theorem qju{T0:Tbl}{S:Sound P T0}:QI P T0 S qrF:=fun _ _ h=>by cases h
@[simp] theorem bif_bind {α β:Type} (c:Bool) (x y:Option α) (k:α→Option β):(bif c then x else y).bind k=bif c then x.bind k else y.bind k:=by cases c <;> rfl
end
end Su
end
section
namespace Su
open Go Fly
theorem QJ{n:Int}:inR .u64 n=true↔0≤n∧n<18446744073709551616:=by
 simp only[inR,IntKind.min,IntKind.max,IntKind.bits,IntKind.signed,zm,zF];simp;omega
theorem qeW{n:Int}:inR .u32 n=true↔0≤n∧n<4294967296:=by
 simp only[inR,IntKind.min,IntKind.max,IntKind.bits,IntKind.signed,zm,zF];simp;omega
theorem qDK{n:Int}:inR .u8 n=true↔0≤n∧n<256:=by
 simp only[inR,IntKind.min,IntKind.max,IntKind.bits,IntKind.signed,zm,zF];simp;omega
theorem YK{n:Int}:inR .i64 n=true↔-9223372036854775808≤n∧n<9223372036854775808:=by
 simp only[inR,IntKind.min,IntKind.max,IntKind.bits,IntKind.signed,zm,zF];simp;omega
theorem qeX{κ:IntKind}{n:Int}(h:inR κ n=true):κ.wrap n=n:=by
 cases κ <;> simp only[inR,IntKind.min,IntKind.max,IntKind.wrap,IntKind.bits,IntKind.signed,zm,zF]at h ⊢ <;> simp at h ⊢ <;> (try split) <;> omega
theorem w64{n:Int}(h0 : -9223372036854775808≤n)(h1:n<9223372036854775808):IntKind.i64.wrap n=n:=qeX (YK.2 ⟨h0,h1⟩)
theorem jS{n:Int}(h0:0≤n)(h1:n<18446744073709551616):IntKind.u64.wrap n=n:=qeX (QJ.2 ⟨h0,h1⟩)
theorem qn0{n:Int}(h0:0≤n)(h1:n<4294967296):IntKind.u32.wrap n=n:=qeX (qeW.2 ⟨h0,h1⟩)
theorem wu8{n:Int}(h0:0≤n)(h1:n<256):IntKind.u8.wrap n=n:=qeX (qDK.2 ⟨h0,h1⟩)
theorem wrap_u64(n:Int):IntKind.u64.wrap n=n % 18446744073709551616:=by simp[IntKind.wrap,IntKind.bits,IntKind.signed]
theorem wrap_u32(n:Int):IntKind.u32.wrap n=n % 4294967296:=by simp[IntKind.wrap,IntKind.bits,IntKind.signed]
theorem jB{α:Type}{l:List α}{i:Nat}:idx l (i:Int)=l[i]?:=by simp[idx]
theorem qC{S R:Type}{n:Nat}{F:S→Option (S ⊕ R)}{s:S}:itP (n+1) F s=(F s).bind fun r=>match r with | .inl s'=>itP n F s' | .inr r=>some r:=rfl
theorem QK{S R:Type}{F:S→Option (S ⊕ R)}{s s':S}{r:R}(h:F s=some (.inl s'))(hn:∃n,itP n F s'=some r):∃n,itP n F s=some r:=by
 obtain⟨n,hn⟩:=hn;exact⟨n+1,by rw[qC,h];exact hn⟩
theorem QL{S R:Type}{F:S→Option (S ⊕ R)}{s:S}{r:R}(h:F s=some (.inr r)):∃n,itP n F s=some r:=⟨1,by rw[qC,h];rfl⟩
theorem jb:maxLen=9223372036854775807:=by decide
end Su
end
section
namespace Su
open Go Fly
noncomputable section
theorem qhL{l:List T}(h:(l.all fun x=>!x.isAgg)=true):∀x∈l,x.isAgg=false:=fun x hx=>by
 have:=KH.1 h x hx
 simpa using this
def cA{α:Type}(d:Dec α)(hf:∀a,((d.enc a).all fun x=>!x.isAgg)=true:=by intro a;rfl):Cod α where
 enc a:=.agg (d.enc a)
 dec x:=match x with | .agg l=>d.dec l | _=>none
 good a:=d.good a
 rep {x a} h V v hr:=by
  cases x with
  | agg l=>cases hr with | agg h1 h2=>exact .agg (d.rep h h1) (qhL (hf a))
  | _=>exact non h
 de a:=d.de a
 rng {a V v} h:=by cases h with | agg h1 h2=>exact d.rng h1
abbrev cW:Cod (Int×Int):=cA (dc (cI .u64) (d1 (cI .u64)))
abbrev qrG:Cod (Int×Int×Bool×Int×Int):=cA (dc (cI .u64) (dc (cI .u8) (dc cB (dc (cI .u64) (d1 (cI .i64))))))
abbrev qjv:Cod (Bool×Int×Int×Int×Bool):=cA (dc cB (dc (cI .u64) (dc (cI .u64) (dc (cI .i64) (d1 cB)))))
abbrev qgV:Cod (Bool×Int×Int):=cA (dc cB (dc (cI .u64) (d1 (cI .u64))))
def qn1:T→Option (U 10)
 | .agg [a,b]=>(asI .i64 (.t a)).bind fun i=>(asI .u64 (.t b)).bind fun c=>some (⟨i,c⟩:Tm)
 | _=>none
theorem qy0{x:T}{a:U 10}(h:qn1 x=some a):x=view 10 a:=by
 unfold qn1 at h;split at h
 · obtain⟨i,h1,h⟩:=osm h
   obtain⟨c,h2,h⟩:=osm h;have:=soi h;subst this
   have e1:=qcu h1;have e2:=qcu h2;simp only[SV.t.injEq]at e1 e2;subst e1 e2;rfl
 · exact non h
def qu:List T→Option (List (U 10))
 | []=>some []
 | x::l=>(qn1 x).bind fun a=>(qu l).bind fun b=>some (a::b)
theorem Zr:∀ {l:List T} {a:List (U 10)},qu l=some a→l=a.map (view 10)
 | [],a,h=>by have:=soi h;subst this;rfl
 | x::l,a,h=>by
  obtain⟨b,h1,h⟩:=osm h;obtain⟨c,h2,h⟩:=osm h;have:=soi h;subst this
  rw[KY,qy0 h1,← Zr h2]
theorem qjw{V:qc}:∀ {l:List (U 10)} {vs:List Value},RepA V ((l.map (view 10)).flatMap T.cells) vs→∀t∈l,inR .i64 (Tm.id t)=true∧inR .u64 (Tm.c t)=true
 | [],_,_,t,ht=>by cases ht
 | y::l,vs,h,t,ht=>by
  have e:((y::l).map (view 10)).flatMap T.cells=T.s (.int .i64 (Tm.id y))::T.s (.int .u64 (Tm.c y))::(l.map (view 10)).flatMap T.cells:=rfl
  rw[e]at h;cases h with | cons h1 h=>
  cases h with | cons h2 h=>
  rcases zJ.1 ht with rfl | ht
  · cases h1 with | s h1=>cases h2 with | s h2=>exact⟨h1,h2⟩
  · exact qjw h t ht
def ZV:Cod (List (U 10)) where
 enc l:=.ql 10 2 l
 dec x:=match x with
  | .sl w l=>bif Nat.beq w 2 then qu l else none
  | x=>qdl 10 2 (.t x)
 good l:=(∀t∈l,inR .i64 (Tm.id t)=true∧inR .u64 (Tm.c t)=true)∧l.length≤maxLen
 rep {x a} h V v hr:=by
  split at h
  · obtain⟨h1,h2⟩:=qi h
    have:=zj h1;subst this
    rw[Zr h2]at hr;exact .ql hr
  · have:=qjm h
    simp only[SV.t.injEq]at this;subst this;exact hr
 de a:=by
  show qdl 10 2 (.t (.ql 10 2 a))=_
  simp[qdl]
 rng {a V v} h:=by
  cases h with | ql h=>
  cases h with | @sl _ _ vs ad cap h1 h2 h3 h4 h5 h6=>
  rw[zr]at h4;exact⟨qjw h1,by omega⟩
def qjx:Cod (List (U 10)) where
 enc l:=.sl 2 (l.map (view 10))
 dec x:=match x with
  | .sl w l=>bif Nat.beq w 2 then qu l else none
  | _=>none
 good l:=(∀t∈l,inR .i64 (Tm.id t)=true∧inR .u64 (Tm.c t)=true)∧l.length≤maxLen
 rep {x a} h V v hr:=by
  split at h
  · obtain⟨h1,h2⟩:=qi h
    have:=zj h1;subst this
    rw[Zr h2]at hr;exact hr
  · exact non h
 de a:=by
  have:∀l:List (U 10),qu (l.map (view 10))=some l:=by
   intro l;induction l with
   | nil=>rfl
   | cons x l ih=>
    have e:qn1 (view 10 x)=some x:=by
     show((asI .i64 (.t (.s (.int .i64 (Tm.id x))))).bind fun i=>(asI .u64 (.t (.s (.int .u64 (Tm.c x))))).bind fun c=>some (⟨i,c⟩:Tm))=_
     simp[asI];rfl
    show((qn1 (view 10 x)).bind fun a=>(qu (l.map (view 10))).bind fun b=>some (a::b))=_
    rw[e,ih];rfl
  exact this a
 rng {a V v} h:=by
  cases h with | @sl _ _ vs ad cap h1 h2 h3 h4 h5 h6=>
  rw[zr]at h4;exact⟨qjw h1,by omega⟩
def cF(f:Nat):Cod Unit where
 enc _:=.fn f [] []
 dec x:=match x with
  | .fn f' [] []=>bif Nat.beq f' f then some ()else none
  | _=>none
 good _:=True
 rep {x a} h V v hr:=by
  split at h
  · obtain⟨h1,_⟩:=qi h
    have:=zj h1;subst this
    exact hr
  · exact non h
 de _:=by show(bif Nat.beq f f then some ()else none)=_;rw[show Nat.beq f f=true from by simp];rfl
 rng _:=trivial
def Exa{α:Type}(c:Cod α):Prop:=∀x a,c.dec x=some a→c.enc a=x
def ExD{α:Type}(c:Dec α):Prop:=∀x a,c.dec x=some a→c.enc a=x
theorem exI(κ:IntKind):Exa (cI κ):=fun x a h=>by have:=qcu (show asI κ (.t x)=some a from h);simp only[SV.t.injEq]at this;exact this.symm
theorem exB:Exa cB:=fun x a h=>by have:=qpr (show asB (.t x)=some a from h);simp only[SV.t.injEq]at this;exact this.symm
theorem exFn(f:Nat):Exa (cF f):=fun x a h=>by
 simp only[cF]at h ⊢;split at h
 · obtain⟨h1,_⟩:=qi h
   have:=zj h1;subst this;rfl
 · exact non h
theorem qCo:Exa qjx:=fun x a h=>by
 simp only[qjx]at h ⊢;split at h
 · obtain⟨h1,h2⟩:=qi h
   have:=zj h1;subst this
   rw[Zr h2]
 · exact non h
theorem ex1{α:Type}{c:Cod α}(hc:Exa c):ExD (d1 c):=fun x a h=>by
 match x,h with
 | [x],h=>exact congrArg (fun y=>[y]) (hc x a h)
theorem exc{α β:Type}{c:Cod α}{d:Dec β}(hc:Exa c)(hd:ExD d):ExD (dc c d):=fun x a h=>by
 match x,h with
 | x::l,h=>
  have h:((c.dec x).bind fun a=>(d.dec l).bind fun b=>some (a,b))=some a:=h
  obtain⟨u,h1,h⟩:=osm h;obtain⟨w,h2,h⟩:=osm h;have:=soi h;subst this
  show c.enc u::d.enc w=_
  rw[hc _ _ h1,hd _ _ h2]
theorem exA{α:Type}{d:Dec α}{hf}(hd:ExD d):Exa (cA d hf):=fun x a h=>by
 cases x with
 | agg l=>exact congrArg T.agg (hd l a h)
 | _=>exact non h
theorem hnA{α:Type}{d:Dec α}{hf:∀a,((d.enc a).all fun x=>!x.isAgg)=true}:∀a cs xs,(d1 (cA d hf)).enc a = .agg cs::xs→∀x∈cs,x.isAgg=false:=fun a cs xs h=>by
 have h:[T.agg (d.enc a)] = .agg cs::xs:=h
 simp only[V9,T.agg.injEq]at h;rw[← h.1];exact qhL (hf a)
theorem qGQ{α:Type}{d:Dec α}:∀a cs xs,(dc qjx d).enc a = .agg cs::xs→∀x∈cs,x.isAgg=false:=fun a cs xs h=>by
 have h:(T.sl 2 (a.1.map (view 10))::d.enc a.2) = .agg cs::xs:=h
 simp only[V9,reduceCtorEq,false_and]at h
abbrev qgb:Cod (Bool×Int×List (U 10)×Int):=cA (dc cB (dc (cI .u64) (dc qjx (d1 (cI .u64)))))
theorem exF4:∀xs a,(d1 qgb).dec xs=some a→(d1 qgb).enc a=xs:=ex1 (exA (exc exB (exc (exI _) (exc qCo (ex1 (exI _))))))
abbrev qB:Cod (Bool×Int×List (U 10)×Int):=cA (dc cB (dc (cI .u64) (dc ZV (d1 (cI .u64)))))
def unFm(x:T):Option (U 11):=qB.dec x
def qtY:List T→Option (List (U 11))
 | []=>some []
 | x::l=>(unFm x).bind fun a=>(qtY l).bind fun b=>some (a::b)
theorem qtZ{x:T}{a:U 11}(h:unFm x=some a){V:qc}{vs:List Value}(hr:RepA V x.cells vs)(hn:∀y∈x.cells,y.isAgg=false):RepA V (view 11 a).cells vs∧x.cells.length=4:=by
 cases x with
 | agg l=>
  have h':(dc cB (dc (cI .u64) (dc ZV (d1 (cI .u64))))).dec l=some a:=h
  have h1:=(dc cB (dc (cI .u64) (dc ZV (d1 (cI .u64))))).rep h' hr
  have hl:l.length=vs.length:=hr.length
  have hl2:=h1.length;exact⟨h1,by show l.length=4;rw[hl,← hl2];rfl⟩
 | _=>exact non h
theorem qhM{V:qc}:∀ {l:List T} {a:List (U 11)} {vs:List Value},qtY l=some a→RepA V (l.flatMap T.cells) vs→(∀x∈l.flatMap T.cells,x.isAgg=false) →
 RepA V ((a.map (view 11)).flatMap T.cells) vs∧(∀x∈(a.map (view 11)).flatMap T.cells,x.isAgg=false)∧(∀x∈a.map (view 11),x.cells.length=4)∧(∀x∈l,x.cells.length=4)∧a.length=l.length
 | [],a,vs,h,hr,hn=>by have:=soi h;subst this;exact⟨hr,by simp,by simp,by simp,rfl⟩
 | x::l,a,vs,h,hr,hn=>by
  obtain⟨b,h1,h⟩:=osm h;obtain⟨c,h2,h⟩:=osm h;have:=soi h;subst this
  rw[KG]at hr hn;obtain⟨v1,v2,rfl,k1,k2⟩:=hr.split;obtain⟨e1,e2⟩:=qtZ h1 k1 (fun y hy=>hn y (zM.2 (.inl hy)))
  obtain⟨f1,f2,f3,f4,f5⟩:=qhM h2 k2 (fun y hy=>hn y (zM.2 (.inr hy)))
  rw[KY,KG];refine⟨e1.append f1,fun y hy=>?_,fun y hy=>?_,fun y hy=>?_,by simp[f5]⟩
  · rcases zM.1 hy with hy | hy
    · have hy:y∈[T.s (.bool b.1),.s (.int .u64 b.2.1),.ql 10 2 b.2.2.1,.s (.int .u64 b.2.2.2)]:=hy
      simp only[zJ,KT,or_false]at hy;rcases hy with rfl | rfl | rfl | rfl <;> rfl
    · exact f2 y hy
  · rcases zJ.1 hy with rfl | hy
    · rfl
    · exact f3 y hy
  · rcases zJ.1 hy with rfl | hy
    · exact e2
    · exact f4 y hy
theorem qpz{V:qc}:∀ {l:List (U 11)} {vs:List Value},RepA V ((l.map (view 11)).flatMap T.cells) vs→∀t∈l,qB.good t
 | [],_,_,t,ht=>by cases ht
 | y::l,vs,h,t,ht=>by
  rw[KY,KG]at h;obtain⟨v1,v2,rfl,k1,k2⟩:=h.split;rcases zJ.1 ht with rfl | ht
  · exact(dc cB (dc (cI .u64) (dc ZV (d1 (cI .u64))))).rng k1
  · exact qpz k2 t ht
def qDL:Cod (List (U 11)) where
 enc l:=.ql 11 4 l
 dec x:=match x with
  | .sl w l=>bif Nat.beq w 4 then qtY l else none
  | x=>qdl 11 4 (.t x)
 good l:=(∀t∈l,qB.good t)∧l.length≤maxLen
 rep {x a} h V v hr:=by
  split at h
  · obtain⟨h1,h2⟩:=qi h
    have:=zj h1;subst this
    cases hr with | @sl _ _ vs ad cap k1 k2 k3 k4 k5 k6=>
    obtain⟨f1,f2,f3,f4,f5⟩:=qhM h2 k1 k2;rename_i l;have hl:(a.map (view 11)).length=l.length:=by rw[zr,f5]
    have:=Rep.sl (V:=V) (k:=4) (l:=a.map (view 11)) (a:=ad) (cap:=cap) f1 f2 f3 (by omega) k5 (k6.imp (fun e=>by subst e;exact VJ (by simpa using hl)) id)
    rw[hl]at this;exact .ql this
  · have:=qjm h
    simp only[SV.t.injEq]at this;subst this;exact hr
 de a:=by
  show qdl 11 4 (.t (.ql 11 4 a))=_
  simp[qdl]
 rng {a V v} h:=by
  cases h with | ql h=>
  cases h with | @sl _ _ vs ad cap h1 h2 h3 h4 h5 h6=>
  rw[zr]at h4;exact⟨qpz h1,by omega⟩
end
end Su
end
