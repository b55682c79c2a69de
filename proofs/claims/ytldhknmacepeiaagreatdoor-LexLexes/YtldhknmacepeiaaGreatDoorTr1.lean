/-
  A small logic of walks: judgements, operations, regions, loops, calls. No condition.
-/
import Derived.Test.YtldhknmacepeiaaGreatDoorFlyM
import Derived.Laws.StructEq
import Derived.Lib.Builder
import Derived.Lib.UnsafeStr
import Derived.Deep.Upon
import Derived.Defers
set_option linter.unusedVariables false
set_option linter.unusedSimpArgs false
set_option maxRecDepth 10000
section
namespace Fly
open Go
mutual
inductive Ex where
 | mk (op at_:Int) (b:Bool) (i f:Int) (nm:ByteArray) (as:Exs)
inductive Exs where
 | nil
 | cons (e:Ex) (r:Exs)
end
mutual
inductive St_ where
 | mk (kd at_:Int) (nm:ByteArray) (ix:Exs) (ex:Ex) (lo hi:Int) (tn el:Sts)
inductive Sts where
 | nil
 | cons (s:St_) (r:Sts)
end
structure Dc where
 at_:Int
 inp:Bool
 nm:ByteArray
 ty:Int
 len:Int
 rng:Bool
 lo:Ex
 hi:Ex
structure Pg where
 ticks:Int
 ds:List Dc
 ini:Sts
 step:Sts
mutual
def Ex.Is(V:qb):Ex→List Value→Prop
 | .mk op p b i f nm as,cs=>∃sl css,cs=[.int .u8 op,.int .i64 p,.bool b,.int .i32 i,.int .u64 f,.string nm,sl]∧Sl 7 V sl css∧Exs.Is V as css
def Exs.Is(V:qb):Exs→List Value→Prop
 | .nil,cs=>cs=[]
 | .cons e r,cs=>∃c cr,cs=c++cr∧Ex.Is V e c∧Exs.Is V r cr
end
mutual
def St_.Is(V:qb):St_→List Value→Prop
 | .mk kd p nm ix ex lo hi tn el,cs=>∃sx cx ce st ct se cE,cs=[.int .u8 kd,.int .i64 p,.string nm,sx]++ce++[.int .i32 lo,.int .i32 hi,st,se]∧Sl 7 V sx cx∧Exs.Is V ix cx∧Ex.Is V ex ce∧Sl 15 V st ct∧Sts.Is V tn ct∧Sl 15 V se cE∧Sts.Is V el cE
def Sts.Is(V:qb):Sts→List Value→Prop
 | .nil,cs=>cs=[]
 | .cons e r,cs=>∃c cr,cs=c++cr∧St_.Is V e c∧Sts.Is V r cr
end
def Dc.Is(V:qb)(d:Dc)(cs:List Value):Prop :=
 ∃cl ch,cs=[.int .i64 d.at_,.bool d.inp,.string d.nm,.int .u8 d.ty,.int .i64 d.len,.bool d.rng]++cl++ch∧Ex.Is V d.lo cl∧Ex.Is V d.hi ch
def YO(V:qb):List Dc→List Value→Prop
 | [],cs=>cs=[]
 | d::r,cs=>∃c cr,cs=c++cr∧Dc.Is V d c∧YO V r cr
def Pg.Is(V:qb)(p:Pg)(cs:List Value):Prop :=
 ∃sd cd si ci ss cS,cs=[.int .i64 p.ticks,sd,si,ss]∧Sl 20 V sd cd∧YO V p.ds cd∧Sl 15 V si ci∧Sts.Is V p.ini ci∧Sl 15 V ss cS∧Sts.Is V p.step cS
mutual
theorem Ex.Is.mono{V V':qb}(hs:Sub V V'):∀(x:Ex) {cs:List Value},Ex.Is V x cs→Ex.Is V' x cs
 | .mk _ _ _ _ _ _ as,cs,h=>by
  simp only[Ex.Is]at h ⊢;obtain⟨sl,css,h1,h2,h3⟩:=h;exact⟨sl,css,h1,h2.mono hs,Exs.Is.mono hs as h3⟩
 termination_by structural x=>x
theorem Exs.Is.mono{V V':qb}(hs:Sub V V'):∀(x:Exs) {cs:List Value},Exs.Is V x cs→Exs.Is V' x cs
 | .nil,cs,h=>by simp only[Exs.Is]at h ⊢;exact h
 | .cons e r,cs,h=>by
  simp only[Exs.Is]at h ⊢;obtain⟨c,cr,h1,h2,h3⟩:=h;exact⟨c,cr,h1,Ex.Is.mono hs e h2,Exs.Is.mono hs r h3⟩
 termination_by structural x=>x
end
mutual
theorem St_.Is.mono{V V':qb}(hs:Sub V V'):∀(x:St_) {cs:List Value},St_.Is V x cs→St_.Is V' x cs
 | .mk _ _ _ ix ex _ _ tn el,cs,h=>by
  simp only[St_.Is]at h ⊢;obtain⟨sx,cx,ce,st,ct,se,cE,h0,h1,h2,h3,h4,h5,h6,h7⟩:=h;exact⟨sx,cx,ce,st,ct,se,cE,h0,h1.mono hs,Exs.Is.mono hs ix h2,Ex.Is.mono hs ex h3,h4.mono hs,Sts.Is.mono hs tn h5,h6.mono hs,Sts.Is.mono hs el h7⟩
 termination_by structural x=>x
theorem Sts.Is.mono{V V':qb}(hs:Sub V V'):∀(x:Sts) {cs:List Value},Sts.Is V x cs→Sts.Is V' x cs
 | .nil,cs,h=>by simp only[Sts.Is]at h ⊢;exact h
 | .cons e r,cs,h=>by
  simp only[Sts.Is]at h ⊢;obtain⟨c,cr,h1,h2,h3⟩:=h;exact⟨c,cr,h1,St_.Is.mono hs e h2,Sts.Is.mono hs r h3⟩
 termination_by structural x=>x
end
theorem Dc.Is.mono{V V':qb}(hs:Sub V V'){x:Dc}{cs:List Value}(h:Dc.Is V x cs):Dc.Is V' x cs:=by
 obtain⟨cl,ch,h0,h1,h2⟩:=h;exact⟨cl,ch,h0,Ex.Is.mono hs _ h1,Ex.Is.mono hs _ h2⟩
theorem YO.mono{V V':qb}(hs:Sub V V'):∀ {x:List Dc} {cs:List Value},YO V x cs→YO V' x cs
 | [],cs,h=>h
 | e::r,cs,h=>by
  obtain⟨c,cr,h1,h2,h3⟩:=h;exact⟨c,cr,h1,h2.mono hs,YO.mono hs h3⟩
theorem Pg.Is.mono{V V':qb}(hs:Sub V V'){p:Pg}{cs:List Value}(h:Pg.Is V p cs):Pg.Is V' p cs:=by
 obtain⟨sd,cd,si,ci,ss,cS,h0,h1,h2,h3,h4,h5,h6⟩:=h;exact⟨sd,cd,si,ci,ss,cS,h0,h1.mono hs,h2.mono hs,h3.mono hs,Sts.Is.mono hs _ h4,h5.mono hs,Sts.Is.mono hs _ h6⟩
def Exs.list:Exs→List Ex
 | .nil=>[]
 | .cons e r=>e::r.list
def Sts.list:Sts→List St_
 | .nil=>[]
 | .cons e r=>e::r.list
theorem Ex.Is.len{V:qb}{x:Ex}{cs:List Value}(h:Ex.Is V x cs):cs.length=7:=by
 cases x with
 | mk op p b i f nm as=>
  simp only[Ex.Is]at h;obtain⟨sl,css,rfl,_⟩:=h;rfl
theorem St_.Is.len{V:qb}{x:St_}{cs:List Value}(h:St_.Is V x cs):cs.length=15:=by
 cases x with
 | mk kd p nm ix ex lo hi tn el=>
  simp only[St_.Is]at h;obtain⟨sx,cx,ce,st,ct,se,cE,rfl,_,_,h,_⟩:=h;simp[h.len]
theorem Dc.Is.len{V:qb}{x:Dc}{cs:List Value}(h:Dc.Is V x cs):cs.length=20:=by
 obtain⟨cl,ch,rfl,h1,h2⟩:=h;simp[h1.len,h2.len]
def YP(k:Nat)(cs:List Value)(m:Nat)(I:Nat→List Value→Prop):Prop :=
 cs.length=m*k∧∀i,i<m→∃c:List Value,c.length=k∧I i c∧∀j v,c[j]?=some v→cs[i*k+j]?=some v
theorem YP.cons{k m:Nat}{c cr:List Value}{I:Nat→List Value→Prop}(hc:c.length=k)(hI:I 0 c)(h:YP k cr m (fun i=>I (i+1))):YP k (c++cr) (m+1) I:=by
 refine⟨by rw[zJ,hc,h.1,zR];omega,fun i hi=>?_⟩
 cases i with
 | zero=>exact⟨c,hc,hI,fun j v hj=>by
  have:j<c.length:=(zn.1 hj).1
  rw[K7,zF,Ki this];exact hj⟩
 | succ i=>
  obtain⟨c',h1,h2,h3⟩:=h.2 i (by omega)
  refine⟨c',h1,h2,fun j v hj=>?_⟩
  rw[zR,KC,zO (by omega),hc,show i*k+k+j-k=i*k+j by omega];exact h3 j v hj
theorem Exs.parts{V:qb}:∀ {as:Exs} {cs:List Value},Exs.Is V as cs→YP 7 cs as.list.length fun i c=>∃x,as.list[i]?=some x∧Ex.Is V x c
 | .nil,cs,h=>by
  simp only[Exs.Is]at h;subst h;exact⟨rfl,fun i hi=>by simp[Exs.list]at hi⟩
 | .cons e r,cs,h=>by
  simp only[Exs.Is]at h;obtain⟨c,cr,rfl,h1,h2⟩:=h;exact YP.cons h1.len ⟨e,rfl,h1⟩ (Exs.parts h2)
theorem Sts.parts{V:qb}:∀ {as:Sts} {cs:List Value},Sts.Is V as cs→YP 15 cs as.list.length fun i c=>∃x,as.list[i]?=some x∧St_.Is V x c
 | .nil,cs,h=>by
  simp only[Sts.Is]at h;subst h;exact⟨rfl,fun i hi=>by simp[Sts.list]at hi⟩
 | .cons e r,cs,h=>by
  simp only[Sts.Is]at h;obtain⟨c,cr,rfl,h1,h2⟩:=h;exact YP.cons h1.len ⟨e,rfl,h1⟩ (Sts.parts h2)
theorem YO.parts{V:qb}:∀ {as:List Dc} {cs:List Value},YO V as cs→YP 20 cs as.length fun i c=>∃x,as[i]?=some x∧Dc.Is V x c
 | [],cs,h=>by
  simp only[YO]at h;subst h;exact⟨rfl,fun i hi=>by simp at hi⟩
 | e::r,cs,h=>by
  simp only[YO]at h;obtain⟨c,cr,rfl,h1,h2⟩:=h;exact YP.cons h1.len ⟨e,rfl,h1⟩ (YO.parts h2)
mutual
def numE:Ex→Nat
 | .mk _ _ _ _ _ _ as=>1+numEs as
def numEs:Exs→Nat
 | .nil=>0
 | .cons e r=>numE e+numEs r
end
end Fly
end
section
namespace Fly
open Go
theorem beq_dec{α:Type}[BEq α][LawfulBEq α][DecidableEq α](a b:α):(a == b)=decide (a=b):=by
 by_cases h:a=b <;> simp[h]
section
variable {P:Program} {n:Nat} {X:Cx} {L:Lo} {V:qb} {G:Own} {K:List KI} {Q:Value→qb→Own→Prop} {all:Array Oper} {ops:List Oper}
variable {ty:TypeId} {pos:String} {af:Array Edge} {gd:Option (Nat×Bool)} {ds:Option Tmp}
theorem qjG{op:BinOp}{t u:TypeId}{x y:Operand}{p q:ByteArray}{v:Value}(hx:ev L x=some (.string p))(hy:ev L y=some (.string q))(h:∀w,(Op.stringOp op p q).run P w = .ok v w)(hb:binOp op t (.string p) (.string q)=Op.stringOp op p q)(k:Q v V G) :
 Opr P n X L V G ⟨ds,.binOp op t x y u,ty,pos,af,gd⟩ Q:=by
 refine qC (fun a w ha=>?_) k
 have hg:(eqGuard op t x y (.string p) (.string q)).run P w = .ok () w:=by cases op <;> simp[eqGuard]
 simp only[execOp,ha.ev hx,ha.ev hy,Sem.run_bind,hg,Result.andThen,hb,h,Sem.run_pure]
theorem qb0{t u:TypeId}{x y:Operand}{p q:ByteArray}(hx:ev L x=some (.string p))(hy:ev L y=some (.string q))(k:Q (.bool (decide (p=q))) V G) :
 Opr P n X L V G ⟨ds,.binOp .eql t x y u,ty,pos,af,gd⟩ Q:=qjG hx hy (fun w=>by rw[← qjr,beq_toListBytes];rfl) rfl k
theorem Yj{t u:TypeId}{x y:Operand}{p q:ByteArray}(hx:ev L x=some (.string p))(hy:ev L y=some (.string q))(k:Q (.bool (!decide (p=q))) V G) :
 Opr P n X L V G ⟨ds,.binOp .neq t x y u,ty,pos,af,gd⟩ Q:=qjG hx hy (fun w=>by rw[← qjr,beq_toListBytes];rfl) rfl k
theorem qaQ{t u:TypeId}{x y:Operand}{p q:Bool}(hx:ev L x=some (.bool p))(hy:ev L y=some (.bool q))(hu:P.underlying t=some .bool)(k:Q (.bool (decide (p=q))) V G) :
 Opr P n X L V G ⟨ds,.binOp .eql t x y u,ty,pos,af,gd⟩ Q:=qnT hx hy hu (by rw[beq_dec];exact k)
theorem YQ{t u:TypeId}{x y:Operand}{p q:Bool}(hx:ev L x=some (.bool p))(hy:ev L y=some (.bool q))(hu:P.underlying t=some .bool)(k:Q (.bool (!decide (p=q))) V G) :
 Opr P n X L V G ⟨ds,.binOp .neq t x y u,ty,pos,af,gd⟩ Q:=qkz hx hy hu (by rw[beq_dec];exact k)
theorem YR{d:Option Tmp}{op:Op}{j:Nat}{b t:Bool}{e:Nat}(_hj:(all[j]?).bind (·.dst)=some e)(hb:lk L e=some (.bool t))
 (ht:t=true→WR P n X ((e,.bool true)::L) V G all (⟨d,op,ty,pos,af,some (j,b)⟩::ops) K)
 (hf:t=false→WR P n X ((e,.bool false)::L) V G all (⟨d,op,ty,pos,af,some (j,b)⟩::ops) K):WR P n X L V G all (⟨d,op,ty,pos,af,some (j,b)⟩::ops) K:=qcZ hb ht hf
theorem JT{d:Option Tmp}{op:Op}{j:Nat}{b t:Bool}{e:Nat}(_hj:(all[j]?).bind (·.dst)=some e)(hb:lk L e=some (.bool (!t)))
 (ht:t=false→WR P n X ((e,.bool true)::L) V G all (⟨d,op,ty,pos,af,some (j,b)⟩::ops) K)
 (hf:t=true→WR P n X ((e,.bool false)::L) V G all (⟨d,op,ty,pos,af,some (j,b)⟩::ops) K):WR P n X L V G all (⟨d,op,ty,pos,af,some (j,b)⟩::ops) K :=
 qcZ hb (fun h=>ht (by simpa using h)) (fun h=>hf (by simpa using h))
theorem qdP{c:Operand}{x y:Code}{t:Bool}(hc:ev L c=some (.bool t))(ht:t=true→WC P n X L V G x K)(hf:t=false→WC P n X L V G y K) :
 WC P n X L V G (.cond c x y) K:=Zo hc ht hf
theorem qaR{c:Operand}{x y:Code}{t:Bool}(hc:ev L c=some (.bool (!t)))(ht:t=false→WC P n X L V G x K)(hf:t=true→WC P n X L V G y K) :
 WC P n X L V G (.cond c x y) K:=Zo hc (fun h=>ht (by simpa using h)) (fun h=>hf (by simpa using h))
theorem qjl.v{f:FuncId}{args:List Value}{v:Value}(h:qjl P f args v)(V:qb):qaH P f args V v:=fun w hs=>
 (h V w hs).mono (by rintro e w' ⟨v',V',G',rfl,hh,rfl,rfl,rfl⟩;exact⟨_,_,_,rfl,hh,rfl,rfl,rfl⟩)
theorem qaH.mono{f:FuncId}{args:List Value}{v:Value}{V1:qb}(h:qaH P f args V v)(hs:Sub V V1):qaH P f args V1 v:=fun w hw=>
 (h w (fun r o hr=>hw r o (hs r o hr))).mono (by
   rintro e w' ⟨v',V',G',rfl,hh,rfl,rfl,rfl⟩
   have hold:∀r o,V1 r=some o→w'.heap[r]?=some o:=fun r o hr=>by
    have h1:=hw r o hr;rw[hh.ext.block r (z6.1 h1).1 (fun h=>h)];exact h1
   exact⟨_,V1,[],rfl,⟨⟨hh.ext.os,hh.ext.tape,hh.ext.output,hh.ext.size,hh.ext.block⟩,hold,fun _ hp=>(by cases hp),fun _ hp=>(by cases hp),Wx,Sub.refl _,fun r h0 hr=>absurd h0 hr⟩,rfl,rfl,rfl⟩)
end
theorem YP.rd{k m:Nat}{cs:List Value}{I:Nat→List Value→Prop}(h:YP k cs m I){V:qb}{b off:Nat}(hr:∀i c,cs[i]?=some c→rd V b (off+i) c){i:Nat}(hi:i<m) :
 ∃c:List Value,c.length=k∧I i c∧∀j v,c[j]?=some v→rd V b (off+i*k+j) v:=by
 obtain⟨c,h1,h2,h3⟩:=h.2 i hi;exact⟨c,h1,h2,fun j v hj=>by rw[Ku];exact hr _ _ (h3 j v hj)⟩
end Fly
end
section
namespace Fly
open Go
section
variable {P:Program} {n:Nat} {X:Cx} {L:Lo} {V:qb} {G:Own} {K:List KI} {Q:Value→qb→Own→Prop} {all:Array Oper} {ops:List Oper}
variable {ty:TypeId} {pos:String} {af:Array Edge} {gd:Option (Nat×Bool)} {ds:Option Tmp}
theorem qtB{t:TypeId}{x:Operand}{s:ByteArray}{ts:Array TypeId}(hx:ev L x=some (.string s))(ht:ts[0]?=some t)(hu:P.underlying t=some .string)
 (k':Q (.int .i64 (s.size:Int)) V G):Opr P n X L V G ⟨ds,.call { callee:=.builtin .len,args:=#[x],argTypes:=ts },ty,pos,af,gd⟩ Q:=by
 refine qC (fun a w ha=>?_) k'
 simp[execOp,resolve,invoke,builtin,Builtin.len_,ht,ha.ev hx,run_underlying hu,goInt]
theorem qhW{f:Nat}{xs ys:List Operand}{vs us:List Value}(hx:evs L xs=some vs)(hy:evs L ys=some us)(k':Q (.func (.func f) vs.toArray us.toArray) V G) :
 Opr P n X L V G ⟨ds,.makeFunc (.func f) xs.toArray ys.toArray,ty,pos,af,gd⟩ Q:=by
 refine qC (fun a w ha=>?_) k'
 have hm:=Zp ha xs vs hx;have hn:=Zp ha ys us hy;simp[execOp,Instr.makeFunc,hm,hn]
end
section
variable {P:Program} {n:Nat} {X:Cx} {L:Lo} {V:qb} {G:Own} {K:List KI} {Q:Value→qb→Own→Prop}
variable {ty:TypeId} {pos:String} {af:Array Edge} {gd:Option (Nat×Bool)} {ds:Option Tmp}
end
end Fly
end
section
namespace Fly
open Go
section
variable {P:Program} {n:Nat} {X:Cx} {L:Lo} {V:qb} {G:Own} {K:List KI} {Q:Value→qb→Own→Prop} {all:Array Oper} {ops:List Oper}
variable {ty:TypeId} {pos:String} {af:Array Edge} {gd:Option (Nat×Bool)} {ds:Option Tmp}
theorem Row.parts{e:TypeId}{v:Value}{Gr:Own}{m:Nat}{xs:List Value}(h:Row e 1 v Gr m xs):(v = .slice none 0 0∧Gr=[]∧m=0∧xs=[])∨∃(g cap:Nat) (cur:Array Value),v = .slice (Option.some ⟨g,0,none⟩) m cap∧Gr=[(g,.cells cur e (0,0))]∧m≤cap∧cap≤maxLen∧cur.size=cap∧cur.toList.take m=xs:=by
 cases h with
 | nil=>exact .inl ⟨rfl,rfl,rfl,rfl⟩
 | @some g m cap cur xs hm hc hs ht=>exact .inr ⟨g,cap,cur,rfl,rfl,hm,hc,by simpa using hs,by simpa using ht⟩
end
end Fly
end
section
namespace Fly
open Go
def qhX(P:Program)(f:FuncId)(args:Array Value)(V:qb)(G0:Own)(Q:Value→qb→Own→Prop):Prop :=
 ∀w u,ZX V w→(∀p∈G0,w.heap[p.1]?=some p.2)→(∀p∈G0,V p.1=none)→(G0.map (·.1)).Nodup →
  CallsD P f args u w fun e u' w'=>u'=u∧∃v V' G',e = .returned v∧Holds ⟨keys G0,w,V,fun _ _ _=>False⟩ V' G' w'∧Q v V' G'
section
variable {P:Program} {n:Nat} {X:Cx} {L:Lo} {V:qb} {G:Own} {K:List KI} {Q:Value→qb→Own→Prop} {all:Array Oper}
variable {ty:TypeId} {pos:String} {af:Array Edge} {gd:Option (Nat×Bool)} {ds:Option Tmp}
theorem qhY{t:TypeId}{x l h:Operand}{s:ByteArray}{κ κ':IntKind}{j i:Int}(hx:ev L x=some (.string s))(hl:ev L l=some (.int κ j))(hh:ev L h=some (.int κ' i))(hu:P.underlying t=some .string)(h0:0≤j)(h1:j≤i)(h2:i≤(s.size:Int))
 (k':Q (.string (s.extract j.toNat i.toNat)) V G):Opr P n X L V G ⟨ds,.slice t x (some l) (some h) none,ty,pos,af,gd⟩ Q:=by
 refine qC (fun ac w ha=>?_) k'
 have h3:0≤i:=by omega
 have h4 : ¬(max i 0<j):=by omega
 simp[execOp,ha.ev hx,ha.ev hl,ha.ev hh,Instr.sliceAt,Instr.slice,run_underlying hu,Instr.sliceBounds,Instr.sliceBound,asIntOf,h0,h2,h3,h4]
theorem qtC{t u:TypeId}{x y:Operand}{p q:ByteArray}(hx:ev L x=some (.string p))(hy:ev L y=some (.string q))(h:p.size+q.size≤9223372036854775807)(k:Q (.string (p++q)) V G):Opr P n X L V G ⟨ds,.binOp .add t x y u,ty,pos,af,gd⟩ Q:=by
 refine qjG hx hy (fun w=>?_) rfl k
 have hm:IntKind.i64.max=9223372036854775807:=rfl
 simp[Op.stringOp,hm];omega
end
end Fly
end
