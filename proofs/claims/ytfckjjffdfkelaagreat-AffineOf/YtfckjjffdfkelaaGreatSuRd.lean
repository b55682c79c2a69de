/-
  An evaluator of the program's functions over trees of values, proved sound. No condition.
-/
import Derived.Test.YtfckjjffdfkelaaGreatHSoL
import Derived.Test.YtfckjjffdfkelaaGreatNB10
import Derived.Test.YtfckjjffdfkelaaGreatSuTb
set_option linter.unusedVariables false
set_option linter.unusedSimpArgs false
section
namespace Su
open Go Fly
section
variable {P:Program}
def qnm(P:Program)(t:Nat):Option (List Nat):=match P.underlying t with
 | some (.struct fs)=>some (fs.toList.map (·.type))
 | _=>none
theorem qnn{α β γ:Type}{R:γ→β→Prop}{f:α→γ}:∀ {l:List α} {m:List β},All2 (fun a b=>R (f a) b) l m→All2 R (l.map f) m
 | _,_,.nil=>.nil
 | _,_,.cons h h'=>.cons h (qnn h')
theorem qno{α β:Type}{R R':α→β→Prop}(hi:∀a b,R a b→R' a b):∀ {l:List α} {m:List β},All2 R l m→All2 R' l m
 | _,_,.nil=>.nil
 | _,_,.cons h h'=>.cons (hi _ _ h) (qno hi h')
theorem qnp{α β:Type}{R:α→β→Prop}:∀ {l l':List α} {m m':List β},All2 R l m→All2 R l' m'→All2 R (l++l') (m++m')
 | _,_,_,_,.nil,h'=>h'
 | _,_,_,_,.cons h h1,h'=>.cons h (qnp h1 h')
def Sh1(P:Program)(t:Nat)(xs:List T):Prop:=∃fuel,Shp P fuel t xs
theorem qiS{ts:List Nat}{t:Nat}{xs:List T}(hu:qnm P t=some ts)(h:Sh1 P t xs):∃parts,xs=List.flatten parts∧All2 (Sh1 P) ts parts:=by
 obtain⟨fuel,h⟩:=h;cases fuel with
 | zero=>exact absurd h (by simp[Shp])
 | succ fuel=>
  unfold qnm at hu;split at hu
  · rename_i fs hs
    simp only[zg]at hu;subst hu;simp only[Shp,hs]at h;obtain⟨parts,h1,h2⟩:=h;exact⟨parts,h1,qnn (f:=fun f:Field=>f.type) (qno (fun _ _ h=>⟨_,h⟩) h2)⟩
  · simp at hu
def R1{α:Type}(P:Program)(c:Cod α)(t:Nat):Prop:=∀xs,Sh1 P t xs→∃x a,xs=[x]∧c.dec x=some a
def RD{α:Type}(P:Program)(d:Dec α)(ts:List Nat):Prop:=∀parts,All2 (Sh1 P) ts parts→∃a,d.dec parts.flatten=some a
theorem qkY{κ:IntKind}{t:Nat}(hu:P.underlying t=some (.int κ)):R1 P (cI κ) t:=by
 rintro xs ⟨fuel,h⟩
 cases fuel with
 | zero=>exact absurd h (by simp[Shp])
 | succ fuel=>
  simp only[Shp,hu]at h;obtain⟨n,rfl,_⟩:=h;exact⟨_,n,rfl,by show asI κ (.t (.s (.int κ n)))=some n;simp[asI]⟩
theorem qB7{t:Nat}(hu:P.underlying t=some .bool):R1 P cB t:=by
 rintro xs ⟨fuel,h⟩
 cases fuel with
 | zero=>exact absurd h (by simp[Shp])
 | succ fuel=>
  simp only[Shp,hu]at h;obtain⟨n,rfl⟩:=h;exact⟨_,n,rfl,rfl⟩
theorem qxX{e t:Nat}{xs:List T}(hu:P.underlying t=some (.slice e))(h:Sh1 P t xs):∃l,xs=[.sl (P.cellsOf e) l]∧∀x∈l,x.isAgg=jX P e∧Sh1 P e x.cells:=by
 obtain⟨fuel,h⟩:=h;cases fuel with
 | zero=>exact absurd h (by simp[Shp])
 | succ fuel=>simp only[Shp,hu]at h;obtain⟨l,h,_,h2⟩:=h;exact⟨l,h,fun x hx=>⟨(h2 x hx).1,_,(h2 x hx).2⟩⟩
theorem qxY{x:T}(h:x.isAgg=true):x = .agg x.cells:=by cases x <;> first | rfl | (simp[T.isAgg]at h)
theorem qGs{e t i f:Nat}(hu:P.underlying t=some (.slice e))(hw:Nat.beq (P.cellsOf e) 2=true)(hg:jX P e=true)(he:qnm P e=some [i,f])(hi:P.underlying i=some (.int .i64))(hf:P.underlying f=some (.int .u64)):R1 P ZV t:=by
 intro xs h;obtain⟨l,rfl,hl⟩:=qxX hu h;have:∃a,qu l=some a:=by
  clear h;induction l with
  | nil=>exact⟨[],rfl⟩
  | cons x l ih=>
   obtain⟨b,hb⟩:=ih fun y hy=>hl y (zp _ hy)
   obtain⟨h1,h2⟩:=hl x (zu ..)
   rw[hg]at h1;obtain⟨parts,h3,h4⟩:=qiS he h2;cases h4 with | cons p1 h4=>cases h4 with | cons p2 h4=>cases h4 with | nil=>
   obtain⟨x1,i,rfl,e1⟩:=qkY hi _ p1;obtain⟨x2,c,rfl,e2⟩:=qkY hf _ p2;refine⟨(⟨i,c⟩:Tm)::b,?_⟩
   have e1:asI .i64 (.t x1)=some i:=e1
   have e2:asI .u64 (.t x2)=some c:=e2
   have:qn1 x=some (⟨i,c⟩:Tm):=by
    rw[qxY h1,h3];show((asI .i64 (.t x1)).bind fun i=>(asI .u64 (.t x2)).bind fun c=>some (⟨i,c⟩:Tm))=_
    rw[e1,e2];rfl
   show((qn1 x).bind fun a=>(qu l).bind fun b=>some (a::b))=_
   rw[this,hb];rfl
 obtain⟨a,ha⟩:=this;exact⟨_,a,rfl,by show(bif Nat.beq (P.cellsOf e) 2 then qu l else none)=_;rw[hw];exact ha⟩
theorem qHx{α:Type}{c:Cod α}{t:Nat}(h:R1 P c t):RD P (d1 c) [t]:=by
 intro parts hp;cases hp with | cons p1 hp=>cases hp with | nil=>
 obtain⟨x,a,rfl,e⟩:=h _ p1;exact⟨a,e⟩
theorem qxZ{α β:Type}{c:Cod α}{d:Dec β}{t:Nat}{ts:List Nat}(h:R1 P c t)(h':RD P d ts):RD P (dc c d) (t::ts):=by
 intro parts hp;cases hp with | cons p1 hp=>
 obtain⟨x,a,rfl,e⟩:=h _ p1;obtain⟨b,e'⟩:=h' _ hp;refine⟨(a,b),?_⟩
 show((c.dec x).bind fun a=>(d.dec ([]++_)).bind fun b=>some (a,b))=_
 rw[e,zX,e'];rfl
theorem qHy{α:Type}{d:Dec α}{t:Nat}{ts' ts:List Nat}(hu:qnm P t=some ts')(h:RD P d (ts'++ts)):RD P d (t::ts):=by
 intro parts hp;cases hp with | cons p1 hp=>
 obtain⟨parts',rfl,h2⟩:=qiS hu p1;obtain⟨a,e⟩:=h _ (qnp h2 hp)
 exact⟨a,by rw[List.flatten_append]at e;exact e⟩
theorem qGt{α:Type}{d:Dec α}{hf}{t:Nat}{x:T}(hg:jX P t=true)(h:RD P d [t])(hx:qkX P t x):∃a,(cA d hf).dec x=some a:=by
 obtain⟨h0,fuel,h1⟩:=hx;rw[hg]at h0;obtain⟨a,e⟩:=h [x.cells] (.cons ⟨fuel,h1⟩ .nil)
 rw[qxY h0];exact⟨a,by show d.dec x.cells=some a;simpa using e⟩
theorem qx0{α:Type}{c:Cod α}{t:Nat}{x:T}(hg:jX P t=false)(h:R1 P c t)(hx:qkX P t x):∃a,c.dec x=some a:=by
 obtain⟨h0,fuel,h1⟩:=hx;rw[hg]at h0;obtain⟨y,a,e,e2⟩:=h x.cells ⟨fuel,h1⟩
 have e3:x=y:=by cases x <;> first | (cases h0;done) | (exact(List.cons.inj e).1)
 subst e3;exact⟨a,e2⟩
theorem qgO{α β:Type}{c:Cod α}{d:Dec β}{x:T}{l:List T}{a:α}{b:β}(h:c.dec x=some a)(h':d.dec l=some b):(dc c d).dec (x::l)=some (a,b):=by
 show((c.dec x).bind fun a=>(d.dec l).bind fun b=>some (a,b))=_
 rw[h,h'];rfl
end
end Su
end
section
set_option maxRecDepth 10000
namespace Su
open Go Fly Go.Proofs
theorem qHz:R1 Tryz.prog (cI .i64) 3:=qkY (by kernel_rfl)
theorem qx1:R1 Tryz.prog (cI .u64) 45:=qkY (by kernel_rfl)
theorem t_b:R1 Tryz.prog cB 4:=qB7 (by kernel_rfl)
theorem qHA:R1 Tryz.prog ZV 60:=qGs (e:=103) (i:=3) (f:=45) (by kernel_rfl) (by kernel_rfl) (by kernel_rfl) (by kernel_rfl) (by kernel_rfl) (by kernel_rfl)
theorem qGu:qnm Tryz.prog 62=some [4,45,60,45]:=by kernel_rfl
theorem qrb{x:T}(h:qkX Tryz.prog 62 x):∃a,qB.dec x=some a :=
 qGt (by kernel_rfl) (qHy qGu (qxZ t_b (qxZ qx1 (qxZ qHA (qHx qx1))))) h
theorem qGv{x:T}(h:qkX Tryz.prog 3 x):∃a,(cI .i64).dec x=some a:=qx0 (by kernel_rfl) qHz h
theorem qGw{x:T}(h:qkX Tryz.prog 45 x):∃a,(cI .u64).dec x=some a:=qx0 (by kernel_rfl) qx1 h
theorem gok{V:qc}:GOK tb V:=fun _ _ h=>by cases h
theorem qB8{α:Type}{f:Nat}{d:Dec α}{g:α→Option Bool}(hp:OkT f (prim d (d1 cB) g))(hg:∀a,g a=some true){V:qc}{args:Array Value}{xs:List T}(hr:RepA V xs args.toList){a:α}(ha:d.dec xs=some a) :
 yg Tryz.prog f args V [] fun v _ _=>v = .bool true:=by
 have h:(∀xs y,(d.dec xs).bind g=some y→∀V vs,GOK tb V→RepA V xs vs→yg Tryz.prog f vs.toArray V [] fun v V' _=>∃rvs,RepA V' ((d1 cB).enc y) rvs∧v=JN rvs)∧_:=hp.2
 have hF:=h.1 xs true (by rw[ha];exact hg a) V args.toList gok hr
 rw[VF]at hF;intro w a1 a2 a3 a4;refine(hF w a1 a2 a3 a4).mono ?_
 rintro e w' ⟨v,V',G',rfl,hh,rvs,m1,rfl⟩
 refine⟨_,V',G',rfl,hh,?_⟩
 cases m1 with | cons k1 k2=>cases k2 with | nil=>cases k1 with | s _=>rfl
end Su
end
