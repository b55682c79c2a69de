/-
  A logic of walks. No condition.
-/
import Derived.Test.YtldhknmacepeiaaGreatDoorFlyM
import Derived.Lib.Builder
import Derived.Lib.UnsafeStr
import Derived.Deep.Upon
import Derived.Defers
set_option linter.unusedVariables false
set_option linter.unusedSimpArgs false
set_option maxRecDepth 10000
section
namespace Fly
open Go
mutual
inductive Ex where
 | mk (op at_:Int) (b:Bool) (i f:Int) (nm:ByteArray) (as:Exs)
inductive Exs where
 | nil
 | cons (e:Ex) (r:Exs)
end
mutual
inductive St_ where
 | mk (kd at_:Int) (nm:ByteArray) (ix:Exs) (ex:Ex) (lo hi:Int) (tn el:Sts)
inductive Sts where
 | nil
 | cons (s:St_) (r:Sts)
end
structure Dc where
 at_:Int
 inp:Bool
 nm:ByteArray
 ty:Int
 len:Int
 rng:Bool
 lo:Ex
 hi:Ex
structure Pg where
 ticks:Int
 ds:List Dc
 ini:Sts
 step:Sts
mutual
def Ex.Is(V:qc):Ex→List Value→Prop
 | .mk op p b i f nm as,cs=>∃sl css,cs=[.int .u8 op,.int .i64 p,.bool b,.int .i32 i,.int .u64 f,.string nm,sl]∧Sl 7 V sl css∧Exs.Is V as css
def Exs.Is(V:qc):Exs→List Value→Prop
 | .nil,cs=>cs=[]
 | .cons e r,cs=>∃c cr,cs=c++cr∧Ex.Is V e c∧Exs.Is V r cr
end
mutual
def St_.Is(V:qc):St_→List Value→Prop
 | .mk kd p nm ix ex lo hi tn el,cs=>∃sx cx ce st ct se cE,cs=[.int .u8 kd,.int .i64 p,.string nm,sx]++ce++[.int .i32 lo,.int .i32 hi,st,se]∧Sl 7 V sx cx∧Exs.Is V ix cx∧Ex.Is V ex ce∧Sl 15 V st ct∧Sts.Is V tn ct∧Sl 15 V se cE∧Sts.Is V el cE
def Sts.Is(V:qc):Sts→List Value→Prop
 | .nil,cs=>cs=[]
 | .cons e r,cs=>∃c cr,cs=c++cr∧St_.Is V e c∧Sts.Is V r cr
end
def Dc.Is(V:qc)(d:Dc)(cs:List Value):Prop :=
 ∃cl ch,cs=[.int .i64 d.at_,.bool d.inp,.string d.nm,.int .u8 d.ty,.int .i64 d.len,.bool d.rng]++cl++ch∧Ex.Is V d.lo cl∧Ex.Is V d.hi ch
def QA(V:qc):List Dc→List Value→Prop
 | [],cs=>cs=[]
 | d::r,cs=>∃c cr,cs=c++cr∧Dc.Is V d c∧QA V r cr
def Pg.Is(V:qc)(p:Pg)(cs:List Value):Prop :=
 ∃sd cd si ci ss cS,cs=[.int .i64 p.ticks,sd,si,ss]∧Sl 20 V sd cd∧QA V p.ds cd∧Sl 15 V si ci∧Sts.Is V p.ini ci∧Sl 15 V ss cS∧Sts.Is V p.step cS
mutual
theorem Ex.Is.mono{V V':qc}(hs:Sub V V'):∀(x:Ex) {cs:List Value},Ex.Is V x cs→Ex.Is V' x cs
 | .mk _ _ _ _ _ _ as,cs,h=>by
  simp only[Ex.Is]at h ⊢;obtain⟨sl,css,h1,h2,h3⟩:=h;exact⟨sl,css,h1,h2.mono hs,Exs.Is.mono hs as h3⟩
 termination_by structural x=>x
theorem Exs.Is.mono{V V':qc}(hs:Sub V V'):∀(x:Exs) {cs:List Value},Exs.Is V x cs→Exs.Is V' x cs
 | .nil,cs,h=>by simp only[Exs.Is]at h ⊢;exact h
 | .cons e r,cs,h=>by
  simp only[Exs.Is]at h ⊢;obtain⟨c,cr,h1,h2,h3⟩:=h;exact⟨c,cr,h1,Ex.Is.mono hs e h2,Exs.Is.mono hs r h3⟩
 termination_by structural x=>x
end
mutual
theorem St_.Is.mono{V V':qc}(hs:Sub V V'):∀(x:St_) {cs:List Value},St_.Is V x cs→St_.Is V' x cs
 | .mk _ _ _ ix ex _ _ tn el,cs,h=>by
  simp only[St_.Is]at h ⊢;obtain⟨sx,cx,ce,st,ct,se,cE,h0,h1,h2,h3,h4,h5,h6,h7⟩:=h;exact⟨sx,cx,ce,st,ct,se,cE,h0,h1.mono hs,Exs.Is.mono hs ix h2,Ex.Is.mono hs ex h3,h4.mono hs,Sts.Is.mono hs tn h5,h6.mono hs,Sts.Is.mono hs el h7⟩
 termination_by structural x=>x
theorem Sts.Is.mono{V V':qc}(hs:Sub V V'):∀(x:Sts) {cs:List Value},Sts.Is V x cs→Sts.Is V' x cs
 | .nil,cs,h=>by simp only[Sts.Is]at h ⊢;exact h
 | .cons e r,cs,h=>by
  simp only[Sts.Is]at h ⊢;obtain⟨c,cr,h1,h2,h3⟩:=h;exact⟨c,cr,h1,St_.Is.mono hs e h2,Sts.Is.mono hs r h3⟩
 termination_by structural x=>x
end
theorem Dc.Is.mono{V V':qc}(hs:Sub V V'){x:Dc}{cs:List Value}(h:Dc.Is V x cs):Dc.Is V' x cs:=by
 obtain⟨cl,ch,h0,h1,h2⟩:=h;exact⟨cl,ch,h0,Ex.Is.mono hs _ h1,Ex.Is.mono hs _ h2⟩
theorem QA.mono{V V':qc}(hs:Sub V V'):∀ {x:List Dc} {cs:List Value},QA V x cs→QA V' x cs
 | [],cs,h=>h
 | e::r,cs,h=>by
  obtain⟨c,cr,h1,h2,h3⟩:=h;exact⟨c,cr,h1,h2.mono hs,QA.mono hs h3⟩
theorem Pg.Is.mono{V V':qc}(hs:Sub V V'){p:Pg}{cs:List Value}(h:Pg.Is V p cs):Pg.Is V' p cs:=by
 obtain⟨sd,cd,si,ci,ss,cS,h0,h1,h2,h3,h4,h5,h6⟩:=h;exact⟨sd,cd,si,ci,ss,cS,h0,h1.mono hs,h2.mono hs,h3.mono hs,Sts.Is.mono hs _ h4,h5.mono hs,Sts.Is.mono hs _ h6⟩
def Exs.list:Exs→List Ex
 | .nil=>[]
 | .cons e r=>e::r.list
def Sts.list:Sts→List St_
 | .nil=>[]
 | .cons e r=>e::r.list
theorem Ex.Is.len{V:qc}{x:Ex}{cs:List Value}(h:Ex.Is V x cs):cs.length=7:=by
 cases x with
 | mk op p b i f nm as=>
  simp only[Ex.Is]at h;obtain⟨sl,css,rfl,_⟩:=h;rfl
theorem St_.Is.len{V:qc}{x:St_}{cs:List Value}(h:St_.Is V x cs):cs.length=15:=by
 cases x with
 | mk kd p nm ix ex lo hi tn el=>
  simp only[St_.Is]at h;obtain⟨sx,cx,ce,st,ct,se,cE,rfl,_,_,h,_⟩:=h;simp[h.len]
theorem Dc.Is.len{V:qc}{x:Dc}{cs:List Value}(h:Dc.Is V x cs):cs.length=20:=by
 obtain⟨cl,ch,rfl,h1,h2⟩:=h;simp[h1.len,h2.len]
def Jr(k:Nat)(cs:List Value)(m:Nat)(I:Nat→List Value→Prop):Prop :=
 cs.length=m*k∧∀i,i<m→∃c:List Value,c.length=k∧I i c∧∀j v,c[j]?=some v→cs[i*k+j]?=some v
theorem Jr.cons{k m:Nat}{c cr:List Value}{I:Nat→List Value→Prop}(hc:c.length=k)(hI:I 0 c)(h:Jr k cr m (fun i=>I (i+1))):Jr k (c++cr) (m+1) I:=by
 refine⟨by rw[zb,hc,h.1,zR];omega,fun i hi=>?_⟩
 cases i with
 | zero=>exact⟨c,hc,hI,fun j v hj=>by
  have:j<c.length:=(zu.1 hj).1
  rw[Ve,zt,Ki this];exact hj⟩
 | succ i=>
  obtain⟨c',h1,h2,h3⟩:=h.2 i (by omega)
  refine⟨c',h1,h2,fun j v hj=>?_⟩
  rw[zR,KR,Kl (by omega),hc,show i*k+k+j-k=i*k+j by omega];exact h3 j v hj
theorem Exs.parts{V:qc}:∀ {as:Exs} {cs:List Value},Exs.Is V as cs→Jr 7 cs as.list.length fun i c=>∃x,as.list[i]?=some x∧Ex.Is V x c
 | .nil,cs,h=>by
  simp only[Exs.Is]at h;subst h;exact⟨rfl,fun i hi=>by simp[Exs.list]at hi⟩
 | .cons e r,cs,h=>by
  simp only[Exs.Is]at h;obtain⟨c,cr,rfl,h1,h2⟩:=h;exact Jr.cons h1.len ⟨e,rfl,h1⟩ (Exs.parts h2)
theorem Sts.parts{V:qc}:∀ {as:Sts} {cs:List Value},Sts.Is V as cs→Jr 15 cs as.list.length fun i c=>∃x,as.list[i]?=some x∧St_.Is V x c
 | .nil,cs,h=>by
  simp only[Sts.Is]at h;subst h;exact⟨rfl,fun i hi=>by simp[Sts.list]at hi⟩
 | .cons e r,cs,h=>by
  simp only[Sts.Is]at h;obtain⟨c,cr,rfl,h1,h2⟩:=h;exact Jr.cons h1.len ⟨e,rfl,h1⟩ (Sts.parts h2)
theorem QA.parts{V:qc}:∀ {as:List Dc} {cs:List Value},QA V as cs→Jr 20 cs as.length fun i c=>∃x,as[i]?=some x∧Dc.Is V x c
 | [],cs,h=>by
  simp only[QA]at h;subst h;exact⟨rfl,fun i hi=>by simp at hi⟩
 | e::r,cs,h=>by
  simp only[QA]at h;obtain⟨c,cr,rfl,h1,h2⟩:=h;exact Jr.cons h1.len ⟨e,rfl,h1⟩ (QA.parts h2)
def JK(m:Nat)(n:Nat)(g:Nat→Bool):Bool:=m == n&&(List.range m).all g
mutual
def Yv:Ex→Ex→Bool
 | .mk op _ b i f nm as,.mk op' _ b' i' f' nm' as'=>op == op'&&b == b'&&i == i'&&f == f'&&decide (nm=nm')&&sameEs as as'
def sameEs:Exs→Exs→Bool
 | .nil,.nil=>true
 | .cons e r,.cons e' r'=>Yv e e'&&sameEs r r'
 | _,_=>false
end
mutual
def ZQ:St_→St_→Bool
 | .mk kd _ nm ix ex lo hi tn el,.mk kd' _ nm' ix' ex' lo' hi' tn' el'=>kd == kd'&&decide (nm=nm')&&lo == lo'&&hi == hi'&&sameEs ix ix'&&Yv ex ex'&&sameSs tn tn'&&sameSs el el'
def sameSs:Sts→Sts→Bool
 | .nil,.nil=>true
 | .cons e r,.cons e' r'=>ZQ e e'&&sameSs r r'
 | _,_=>false
end
def qeo(x y:Dc):Bool:=x.inp == y.inp&&decide (x.nm=y.nm)&&x.ty == y.ty&&x.len == y.len&&x.rng == y.rng&&Yv x.lo y.lo&&Yv x.hi y.hi
def Zg:List Dc→List Dc→Bool
 | [],[]=>true
 | e::r,e'::r'=>qeo e e'&&Zg r r'
 | _,_=>false
def qiF(p q:Pg):Bool:=p.ticks == q.ticks&&Zg p.ds q.ds&&sameSs p.ini q.ini&&sameSs p.step q.step
def at2{α:Type}(f:α→α→Bool)(l r:List α)(i:Nat):Bool :=
 match l[i]?,r[i]? with
 | some x,some y=>f x y
 | _,_=>false
theorem qcz{α:Type}(f:α→α→Bool)(x y:α)(l r:List α):JK (l.length+1) (r.length+1) (at2 f (x::l) (y::r))=(f x y&&JK l.length r.length (at2 f l r)):=by
 unfold JK;rw[WG,WH,List.all_map];have:(at2 f (x::l) (y::r) ∘ Nat.succ)=at2 f l r:=by funext i;simp[at2]
 rw[this];have h0:at2 f (x::l) (y::r) 0=f x y:=rfl
 rw[h0];cases f x y <;> simp
theorem qa0:∀(l r:Exs),sameEs l r=JK l.list.length r.list.length (at2 Yv l.list r.list)
 | .nil,.nil=>by simp[sameEs,Exs.list,JK]
 | .nil,.cons _ _=>by simp[sameEs,Exs.list,JK]
 | .cons _ _,.nil=>by simp[sameEs,Exs.list,JK]
 | .cons e l,.cons e' r=>by
  simp only[sameEs,Exs.list,zf];rw[qcz,qa0 l r]
theorem qa1:∀(l r:Sts),sameSs l r=JK l.list.length r.list.length (at2 ZQ l.list r.list)
 | .nil,.nil=>by simp[sameSs,Sts.list,JK]
 | .nil,.cons _ _=>by simp[sameSs,Sts.list,JK]
 | .cons _ _,.nil=>by simp[sameSs,Sts.list,JK]
 | .cons e l,.cons e' r=>by
  simp only[sameSs,Sts.list,zf];rw[qcz,qa1 l r]
theorem qep:∀(l r:List Dc),Zg l r=JK l.length r.length (at2 qeo l r)
 | [],[]=>by simp[Zg,JK]
 | [],_::_=>by simp[Zg,JK]
 | _::_,[]=>by simp[Zg,JK]
 | e::l,e'::r=>by
  simp only[Zg,zf];rw[qcz,qep l r]
mutual
theorem qa2:∀x,Yv x x=true
 | .mk _ _ _ _ _ _ as=>by simp[Yv,sameEs_refl as]
theorem sameEs_refl:∀x,sameEs x x=true
 | .nil=>by simp[sameEs]
 | .cons e r=>by simp[sameEs,qa2 e,sameEs_refl r]
end
mutual
theorem qkD:∀x,ZQ x x=true
 | .mk _ _ _ ix ex _ _ tn el=>by simp[ZQ,sameEs_refl ix,qa2 ex,sameSs_refl tn,sameSs_refl el]
theorem sameSs_refl:∀x,sameSs x x=true
 | .nil=>by simp[sameSs]
 | .cons e r=>by simp[sameSs,qkD e,sameSs_refl r]
end
theorem qkE(x:Dc):qeo x x=true:=by simp[qeo,qa2]
theorem qc0:∀x,Zg x x=true
 | []=>rfl
 | e::r=>by simp[Zg,qkE,qc0 r]
theorem qkF(p:Pg):qiF p p=true:=by simp[qiF,qc0,sameSs_refl]
mutual
def qdm:Ex→Nat
 | .mk _ _ _ _ _ _ as=>1+numEs as
def numEs:Exs→Nat
 | .nil=>0
 | .cons e r=>qdm e+numEs r
end
def qeq:Ex→Nat
 | .mk _ _ _ _ _ _ as=>numEs as
theorem qcA(x:Ex):qdm x=1+qeq x:=by cases x;simp[qdm,qeq]
theorem qfZ:∀es:Exs,numEs es=(es.list.map qdm).sum
 | .nil=>rfl
 | .cons e r=>by simp[numEs,Exs.list,qfZ r]
theorem qiG:∀l:List Ex,(l.map qdm).sum=l.length+(l.map qeq).sum
 | []=>rfl
 | x::l=>by simp only[KH,WI,zf];rw[qiG l,qcA];omega
mutual
def qfG:St_→Nat
 | .mk _ _ _ _ _ _ _ tn el=>1+cntSs tn+cntSs el
def cntSs:Sts→Nat
 | .nil=>0
 | .cons s r=>qfG s+cntSs r
end
mutual
def exS:St_→Nat
 | .mk kd _ _ ix ex _ _ tn el=>exSs tn+exSs el+numEs ix+(if kd=1∨kd=2 then qdm ex else 0)
def exSs:Sts→Nat
 | .nil=>0
 | .cons s r=>exS s+exSs r
end
theorem qf0:∀es:Sts,cntSs es=(es.list.map qfG).sum
 | .nil=>rfl
 | .cons e r=>by simp[cntSs,Sts.list,qf0 r]
theorem qiH:∀es:Sts,exSs es=(es.list.map exS).sum
 | .nil=>rfl
 | .cons e r=>by simp[exSs,Sts.list,qiH r]
end Fly
end
section
namespace Fly
open Go
theorem beq_dec{α:Type}[BEq α][LawfulBEq α][DecidableEq α](a b:α):(a == b)=decide (a=b):=by
 by_cases h:a=b <;> simp[h]
section
variable {P:Program} {n:Nat} {X:Cx} {L:Lo} {V:qc} {G:Own} {K:List KI} {Q:Value→qc→Own→Prop} {all:Array Oper} {ops:List Oper}
variable {ty:TypeId} {pos:String} {af:Array Edge} {gd:Option (Nat×Bool)} {ds:Option Tmp}
theorem qkG{op:BinOp}{t u:TypeId}{x y:Operand}{p q:ByteArray}{v:Value}(hx:ev L x=some (.string p))(hy:ev L y=some (.string q))(h:∀w,(Op.stringOp op p q).run P w = .ok v w)(hb:binOp op t (.string p) (.string q)=Op.stringOp op p q)(k:Q v V G) :
 Opr P n X L V G ⟨ds,.binOp op t x y u,ty,pos,af,gd⟩ Q:=by
 refine qP (fun a w ha=>?_) k
 have hg:(eqGuard op t x y (.string p) (.string q)).run P w = .ok () w:=by cases op <;> simp[eqGuard]
 simp only[execOp,ha.ev hx,ha.ev hy,Sem.run_bind,hg,Result.andThen,hb,h,Sem.run_pure]
theorem qer{t u:TypeId}{x y:Operand}{p q:ByteArray}(hx:ev L x=some (.string p))(hy:ev L y=some (.string q))(k:Q (.bool (decide (p=q))) V G) :
 Opr P n X L V G ⟨ds,.binOp .eql t x y u,ty,pos,af,gd⟩ Q:=qkG hx hy (fun w=>by rw[← qkn,beq_toListBytes];rfl) rfl k
theorem qlN{t u:TypeId}{x y:Operand}{p q:ByteArray}(hx:ev L x=some (.string p))(hy:ev L y=some (.string q))(k:Q (.bool (!decide (p=q))) V G) :
 Opr P n X L V G ⟨ds,.binOp .neq t x y u,ty,pos,af,gd⟩ Q:=qkG hx hy (fun w=>by rw[← qkn,beq_toListBytes];rfl) rfl k
theorem qlO{t u:TypeId}{x y:Operand}{p q:Bool}(hx:ev L x=some (.bool p))(hy:ev L y=some (.bool q))(hu:P.underlying t=some .bool)(k:Q (.bool (decide (p=q))) V G) :
 Opr P n X L V G ⟨ds,.binOp .eql t x y u,ty,pos,af,gd⟩ Q:=qoR hx hy hu (by rw[beq_dec];exact k)
theorem qes{d:Option Tmp}{op:Op}{j:Nat}{b t:Bool}{e:Nat}(_hj:(all[j]?).bind (·.dst)=some e)(hb:lk L e=some (.bool t))
 (ht:t=true→WR P n X ((e,.bool true)::L) V G all (⟨d,op,ty,pos,af,some (j,b)⟩::ops) K)
 (hf:t=false→WR P n X ((e,.bool false)::L) V G all (⟨d,op,ty,pos,af,some (j,b)⟩::ops) K):WR P n X L V G all (⟨d,op,ty,pos,af,some (j,b)⟩::ops) K:=qlr hb ht hf
theorem qwj{c:Operand}{x y:Code}{t:Bool}(hc:ev L c=some (.bool t))(ht:t=true→WC P n X L V G x K)(hf:t=false→WC P n X L V G y K) :
 WC P n X L V G (.cond c x y) K:=qag hc ht hf
theorem qhs{c:Operand}{x y:Code}{t:Bool}(hc:ev L c=some (.bool (!t)))(ht:t=false→WC P n X L V G x K)(hf:t=true→WC P n X L V G y K) :
 WC P n X L V G (.cond c x y) K:=qag hc (fun h=>ht (by simpa using h)) (fun h=>hf (by simpa using h))
theorem qs3(T:Tabs P){f:Nat}{c:Operand}{xs:List Operand}{vs:List Value}{R:Value→qc→Prop}{ts:Array TypeId}(hc:ev L c=some (.func (.func f) #[] #[]))(hx:evs L xs=some vs)(hg:T.go f=true)(hr:Rel P f vs V R)(k:∀v V',Sub V V'→R v V'→Q v V' G) :
 Opr P n X L V G ⟨ds,.call { callee:=.value c,args:=xs.toArray,argTypes:=ts },ty,pos,af,gd⟩ Q :=
 qr T (first:=[]) (cap:=[]) (G0:=[]) (G1:=G) hc hx hg (by simpa using hr.fing) (zr _) (by rintro v V' _ hs ⟨rfl,h⟩;exact k v V' hs h)
theorem qet(T:Tabs P){f:Nat}{c:Operand}{xs:List Operand}{vs:List Value}{v:Value}{ts:Array TypeId}(hc:ev L c=some (.func (.func f) #[] #[]))(hx:evs L xs=some vs)(hg:T.go f=true)(hr:ji P f vs V v)(k:Q v V G) :
 Opr P n X L V G ⟨ds,.call { callee:=.value c,args:=xs.toArray,argTypes:=ts },ty,pos,af,gd⟩ Q :=
 qs3 T hc hx hg hr (by rintro _ _ _ ⟨rfl,rfl⟩;exact k)
theorem jw(T:Tabs P){V0:qc}{t:TypeId}{x:Operand}{k b off:Nat}{vs:List Value}(ht:T.ty t=some (true,k))(hx:ev L x=some (.pointer (some ⟨b,off,none⟩)))(hl:vs.length=k)(hk:0<k)(h:∀j v,vs[j]?=some v→rd V0 b (off+j) v)(hs:Sub V0 V)(k':Q (.agg vs.toArray) V G):Opr P n X L V G ⟨ds,.load t x,ty,pos,af,gd⟩ Q :=
 yl T ht hx hl hk (fun j v hj=>(h j v hj).mono hs) k'
theorem YS(T:Tabs P){V0:qc}{t:TypeId}{x:Operand}{k b off:Nat}{v:Value}(ht:T.ty t=some (false,k))(hx:ev L x=some (.pointer (some ⟨b,off,none⟩)))(h:rd V0 b off v)(hs:Sub V0 V)(k':Q v V G):Opr P n X L V G ⟨ds,.load t x,ty,pos,af,gd⟩ Q :=
 ym T ht hx (h.mono hs) k'
theorem qT{f:FuncId}{fn:Func}{c:Code}{args:List Value}{v:Value}(hf:P.funcs[f]?=some fn)(hb:fn.body=some c)(hn:fn.ntmps=n)(hle:Nat.ble args.length n=true)
 (h:∀(X:Cx) (w:World),X.M=(fun _=>False)→X.w0=w→X.V0=V→X.R=qfy P fn w V (fun v' V' G'=>G'=[]∧v'=v∧V'=V)→WC P n X (qZ 0 args) V [] c []):ji P f args V v :=
 Qq hf hb hn hle h
theorem Qf.v{f:FuncId}{args:List Value}{v:Value}(h:Qf P f args v)(V:qc):ji P f args V v:=fun w hs=>
 (h V w hs).mono (by rintro e w' ⟨v',V',G',rfl,hh,rfl,rfl,rfl⟩;exact⟨_,_,_,rfl,hh,rfl,rfl,rfl⟩)
theorem ji.mono{f:FuncId}{args:List Value}{v:Value}{V1:qc}(h:ji P f args V v)(hs:Sub V V1):ji P f args V1 v:=fun w hw=>
 (h w (fun r o hr=>hw r o (hs r o hr))).mono (by
   rintro e w' ⟨v',V',G',rfl,hh,rfl,rfl,rfl⟩
   have hold:∀r o,V1 r=some o→w'.heap[r]?=some o:=fun r o hr=>by
    have h1:=hw r o hr;rw[hh.ext.block r (zX.1 h1).1 (fun h=>h)];exact h1
   exact⟨_,V1,[],rfl,⟨⟨hh.ext.os,hh.ext.tape,hh.ext.output,hh.ext.size,hh.ext.block⟩,hold,fun _ hp=>(by cases hp),fun _ hp=>(by cases hp),VN,Sub.refl _,fun r h0 hr=>absurd h0 hr⟩,rfl,rfl,rfl⟩)
end
theorem Jr.rd{k m:Nat}{cs:List Value}{I:Nat→List Value→Prop}(h:Jr k cs m I){V:qc}{b off:Nat}(hr:∀i c,cs[i]?=some c→rd V b (off+i) c){i:Nat}(hi:i<m) :
 ∃c:List Value,c.length=k∧I i c∧∀j v,c[j]?=some v→rd V b (off+i*k+j) v:=by
 obtain⟨c,h1,h2,h3⟩:=h.2 i hi;exact⟨c,h1,h2,fun j v hj=>by rw[Kp];exact hr _ _ (h3 j v hj)⟩
theorem qcB{m n:Nat}{g:Nat→Bool}(h:m=n)(h':∀i,i<m→g i=true):JK m n g=true:=by
 subst h;simp only[JK,beq_self_eq_true,Vi,Ko,WT];exact h'
theorem qa3{m n:Nat}{g:Nat→Bool}{i:Nat}(hi:i<m)(h:g i=false):JK m n g=false:=by
 simp only[JK,Bool.and_eq_false_iff];right;rw[List.all_eq_false];exact⟨i,by simpa using hi,by simp[h]⟩
theorem qht{m n:Nat}{g:Nat→Bool}(h:m≠n):JK m n g=false:=by
 simp[JK,h]
end Fly
end
section
namespace Fly
open Go
section
variable {P:Program} {n:Nat} {X:Cx} {L:Lo} {V:qc} {G:Own} {K:List KI} {Q:Value→qc→Own→Prop} {all:Array Oper} {ops:List Oper}
variable {ty:TypeId} {pos:String} {af:Array Edge} {gd:Option (Nat×Bool)} {ds:Option Tmp}
theorem Zh{t:TypeId}{x:Operand}{s:ByteArray}{ts:Array TypeId}(hx:ev L x=some (.string s))(ht:ts[0]?=some t)(hu:P.underlying t=some .string)
 (k':Q (.int .i64 (s.size:Int)) V G):Opr P n X L V G ⟨ds,.call { callee:=.builtin .len,args:=#[x],argTypes:=ts },ty,pos,af,gd⟩ Q:=by
 refine qP (fun a w ha=>?_) k'
 simp[execOp,resolve,invoke,builtin,Builtin.len_,ht,ha.ev hx,run_underlying hu,goInt]
theorem qc1{f:Nat}{xs ys:List Operand}{vs us:List Value}(hx:evs L xs=some vs)(hy:evs L ys=some us)(k':Q (.func (.func f) vs.toArray us.toArray) V G) :
 Opr P n X L V G ⟨ds,.makeFunc (.func f) xs.toArray ys.toArray,ty,pos,af,gd⟩ Q:=by
 refine qP (fun a w ha=>?_) k'
 have hm:=Jm ha xs vs hx;have hn:=Jm ha ys us hy;simp[execOp,Instr.makeFunc,hm,hn]
theorem QB{fn:Func}(hr:fn.results = #[]):∀a w',Knows n L a→Holds X V G w'→(results fn a.tmps).run P w' = .ok (.tuple #[]) w' :=
 res (rs:=[]) (vs:=[]) hr rfl (by simp)
end
theorem qvf(a b:Int):IntKind.i64.wrap (IntKind.i64.wrap a+b)=IntKind.i64.wrap (a+b):=by
 simp only[IntKind.wrap_i64];omega
theorem qvg(a b:Int):IntKind.i64.wrap (a+IntKind.i64.wrap b)=IntKind.i64.wrap (a+b):=by
 simp only[IntKind.wrap_i64];omega
def Wn(m:Nat):Int:=IntKind.i64.wrap (m:Int)
theorem qlP:Wn 0=0:=by decide
theorem qwk(a b:Nat):IntKind.i64.wrap (Wn a+Wn b)=Wn (a+b):=by
 unfold Wn;rw[qvf,qvg];congr 1
theorem qs4(a:Nat):IntKind.i64.wrap (Wn a+1)=Wn (a+1):=by
 unfold Wn;rw[qvf];congr 1
theorem qs5(a:Nat):IntKind.i64.wrap (1+Wn a)=Wn (1+a):=by
 unfold Wn;rw[qvg];congr 1
theorem qyg{a:Nat}(h:a≤9223372036854775807):Wn a=(a:Int):=Yt (by omega) (by omega)
section
variable {P:Program} {n:Nat} {X:Cx} {L:Lo} {V:qc} {G:Own} {K:List KI} {Q:Value→qc→Own→Prop}
variable {ty:TypeId} {pos:String} {af:Array Edge} {gd:Option (Nat×Bool)} {ds:Option Tmp}
theorem qbB{t u:TypeId}{x y:Operand}{a b:Nat}(hx:ev L x=some (.int .i64 (Wn a)))(hy:ev L y=some (.int .i64 (Wn b)))(k:Q (.int .i64 (Wn (a+b))) V G):Opr P n X L V G ⟨ds,.binOp .add t x y u,ty,pos,af,gd⟩ Q :=
 qdW hx hy (by rw[qwk];exact k)
theorem qpc{t u:TypeId}{x y:Operand}{a:Nat}(hx:ev L x=some (.int .i64 (Wn a)))(hy:ev L y=some (.int .i64 1))(k:Q (.int .i64 (Wn (a+1))) V G):Opr P n X L V G ⟨ds,.binOp .add t x y u,ty,pos,af,gd⟩ Q :=
 qdW hx hy (by rw[qs4];exact k)
theorem qiI{t u:TypeId}{x y:Operand}{a:Nat}(hx:ev L x=some (.int .i64 1))(hy:ev L y=some (.int .i64 (Wn a)))(k:Q (.int .i64 (Wn (1+a))) V G):Opr P n X L V G ⟨ds,.binOp .add t x y u,ty,pos,af,gd⟩ Q :=
 qdW hx hy (by rw[qs5];exact k)
end
def Yp{α:Type}(f:α→Nat)(l:List α)(i:Nat):Nat:=((l.take i).map f).sum
theorem qap{α:Type}(f:α→Nat)(l:List α):Yp f l 0=0:=rfl
theorem Jc{α:Type}{f:α→Nat}{l:List α}{i:Nat}{x:α}(h:l[i]?=some x):Yp f l (i+1)=Yp f l i+f x:=by
 unfold Yp;rw[VO,h];simp
theorem qeu{α:Type}(f:α→Nat)(l:List α){i:Nat}(h:l.length≤i):Yp f l i=(l.map f).sum:=by
 unfold Yp;rw[zP h]
end Fly
end
section
namespace Fly
open Go
section
variable {P:Program} {n:Nat} {X:Cx} {L:Lo} {V:qc} {G:Own} {K:List KI} {Q:Value→qc→Own→Prop} {all:Array Oper} {ops:List Oper}
variable {ty:TypeId} {pos:String} {af:Array Edge} {gd:Option (Nat×Bool)} {ds:Option Tmp}
theorem qiJ{t u te:TypeId}{x:Operand}{p:Option Addr}(hx:ev L x=some (.pointer p))(hu:P.underlying t=some (.pointer te))(k:Q (.bool p.isNone) V G) :
 Opr P n X L V G ⟨ds,.binOp .eql t x (.const (.pointer none)) u,ty,pos,af,gd⟩ Q:=by
 refine qhc hx rfl (by cases p <;> rfl) (fun w=>by simp[eqGuard]) (fun w=>?_) k
 show(Op.equalIn (9999+1) t _ _).run P w=_
 unfold Op.equalIn;rw[Sem.run_bind,run_underlying hu];cases p <;> rfl
theorem qkH{t u te:TypeId}{x y:Operand}{p:Addr}{j:TypeInfo}(hx:ev L x=some (.pointer (some p)))(hy:ev L y=some (.pointer (some p)))(hu:P.underlying t=some (.pointer te))(hj:P.info? te=some j)(k:Q (.bool false) V G) :
 Opr P n X L V G ⟨ds,.binOp .neq t x y u,ty,pos,af,gd⟩ Q:=by
 refine qhd (b:=true) hx hy rfl (fun w=>by simp[eqGuard]) (fun w=>?_) k
 have h:∀d:Nat,(Op.equalIn (d+1) t (.pointer (some p)) (.pointer (some p))).run P w = .ok true w:=fun d=>by
  simp[Op.equalIn,run_underlying hu,Go.sizeOf,typeInfo,hj,run_sameAddr_same]
 exact h 9999
theorem qiK{src dst t e:TypeId}{x:Operand}{b off:Nat}{cs:Array Value}{fr:Nat×Nat}{j:TypeInfo}(hx:ev L x=some (.pointer (some ⟨b,off,none⟩)))(hs:P.underlying src=some (.pointer t))(hd:P.underlying dst=some .unsafePointer)(ht:P.info? t=some j)(hj:(j.size == 0)=false)
 (hA:At V G b (.cells cs e fr)) (ho:off<cs.size) (k:Q (.pointer (some ⟨b,off,none⟩)) V G):Opr P n X L V G ⟨ds,.convert src dst x,ty,pos,af,gd⟩ Q:=fun a ha w hw=>by
 have hb:=hA.heap hw;have hr:=Lib.run_to_unsafe (P:=P) w (e:=e) (cells:=cs.size) ⟨b,off,none⟩ hs hd ht (by simpa using hj) (by simp[World.shape?,hb]) ho
 exact .inl ⟨_,w,V,G,.inl (by simp[execOp,ha.ev hx,hr]),k,hw⟩
theorem qfH{src dst u e:TypeId}{x:Operand}{b off:Nat}{cs:Array Value}{fr:Nat×Nat}{j:TypeInfo}(hx:ev L x=some (.pointer (some ⟨b,off,none⟩)))(hs:P.underlying src=some .unsafePointer)(hd:P.underlying dst=some (.pointer u))(hu:P.info? u=some j)
 (hA:At V G b (.cells cs e fr)) (hl:liesAt P P.depth e (cs.size / P.cellsOf e) off u 1=true) (k:Q (.pointer (some ⟨b,off,none⟩)) V G):Opr P n X L V G ⟨ds,.convert src dst x,ty,pos,af,gd⟩ Q:=fun a ha w hw=>by
 have hb:=hA.heap hw;have hr:=Lib.run_from_unsafe (P:=P) w (e:=e) (cells:=cs.size) ⟨b,off,none⟩ hs hd hu (by simp[World.shape?,hb]) hl
 exact .inl ⟨_,w,V,G,.inl (by simp[execOp,ha.ev hx,hr]),k,hw⟩
theorem qf1{t:TypeId}(h:(P.info? t).isSome=true):∃j,P.info? t=some j:=Option.isSome_iff_exists.1 h
theorem qiL{t u te:TypeId}{x y:Operand}{p:Addr}(hx:ev L x=some (.pointer (some p)))(hy:ev L y=some (.pointer (some p)))(hu:P.underlying t=some (.pointer te))(hj:(P.info? te).isSome=true)(k:Q (.bool false) V G) :
 Opr P n X L V G ⟨ds,.binOp .neq t x y u,ty,pos,af,gd⟩ Q:=(qf1 hj).elim fun _ h=>qkH hx hy hu h k
theorem qhu{src dst t e m:TypeId}{x:Operand}{b off:Nat}{cs:List Value}{fr:Nat×Nat}(hx:ev L x=some (.pointer (some ⟨b,off,none⟩)))(hs:P.underlying src=some (.pointer t))(hd:P.underlying dst=some .unsafePointer)(ht:((P.info? t).map fun j=>j.size == 0)=some false)
 (hA:At V G b (.cells cs.toArray e fr)) (hm:cs.length=m) (ho:off<m) (k:Q (.pointer (some ⟨b,off,none⟩)) V G):Opr P n X L V G ⟨ds,.convert src dst x,ty,pos,af,gd⟩ Q:=by
 cases h:P.info? t with
 | none=>rw[h]at ht;cases ht
 | some j=>rw[h]at ht;exact qiK hx hs hd h (by simpa using ht) hA (by simpa[hm]using ho) k
theorem qev{src dst u e m:TypeId}{x:Operand}{b off:Nat}{cs:List Value}{fr:Nat×Nat}(hx:ev L x=some (.pointer (some ⟨b,off,none⟩)))(hs:P.underlying src=some .unsafePointer)(hd:P.underlying dst=some (.pointer u))(hu:(P.info? u).isSome=true)
 (hA:At V G b (.cells cs.toArray e fr)) (hm:cs.length=m) (hl:liesAt P P.depth e (m / P.cellsOf e) off u 1=true) (k:Q (.pointer (some ⟨b,off,none⟩)) V G):Opr P n X L V G ⟨ds,.convert src dst x,ty,pos,af,gd⟩ Q :=
 (qf1 hu).elim fun _ h=>qfH hx hs hd h hA (by simpa[hm]using hl) k
theorem jz{x:Operand}{p:Addr}(hx:ev L x=some (.pointer (some p)))(k:Q (.pointer (some p)) V G):Opr P n X L V G ⟨ds,.nilCheck x,ty,pos,af,gd⟩ Q :=
 qP (fun a w ha=>by simp[execOp,ha.ev hx]) k
def YH(s:List UInt8):List Value:=s.map fun c=>.int .u8 (c.toNat:Int)
theorem qaI(w:World)(t tx ty e:TypeId)(i:TypeInfo)(ht:P.underlying t=some (.slice e))(htx:P.underlying tx=some .string)(hi:P.info? e=some i)(hz:i.size=1)
 (g sLen sCap:Nat) (cur:Array Value) (hg:w.heap[g]?=some (.cells cur e (0,0))) (s:ByteArray) (hroom:sLen+s.size≤sCap) (hfit:sLen+s.size≤cur.size) :
 (Builtin.append_ #[t,tx] ty #[.slice (some ⟨g,0,none⟩) sLen sCap,.string s]).run P w =
   .ok (.slice (some ⟨g,0,none⟩) (sLen+s.size) sCap) (w.setRow g (cur.toList.take sLen++byteCells s++cur.toList.drop (sLen+(byteCells s).length)).toArray):=by
 have hl:=byteCells_length s;have hf:=firstCells_string (P:=P) s w
 have hst:=run_storeCells_at P g sLen e (byteCells s) 0 cur w hg (by rw[hl];simpa using hfit) (fun u hu=>by
  obtain⟨_,_,rfl⟩:=KJ.1 hu;rfl)
 simp only[KQ]at hst;simp[Builtin.append_,run_underlying ht,run_underlying htx,Go.sizeOf,typeInfo,hi,hz,Builtin.lenOf,hroom,hf,Addr.add_lit,hst]
theorem Row.parts{e:TypeId}{v:Value}{Gr:Own}{m:Nat}{xs:List Value}(h:Row e 1 v Gr m xs):(v = .slice none 0 0∧Gr=[]∧m=0∧xs=[])∨∃(g cap:Nat) (cur:Array Value),v = .slice (Option.some ⟨g,0,none⟩) m cap∧Gr=[(g,.cells cur e (0,0))]∧m≤cap∧cap≤maxLen∧cur.size=cap∧cur.toList.take m=xs:=by
 cases h with
 | nil=>exact .inl ⟨rfl,rfl,rfl,rfl⟩
 | @some g m cap cur xs hm hc hs ht=>exact .inr ⟨g,cap,cur,rfl,rfl,hm,hc,by simpa using hs,by simpa using ht⟩
theorem Row.app0{e:TypeId}{v:Value}{Gr:Own}{m:Nat}{xs:List Value}(h:Row e 1 v Gr m xs):Row e 1 v Gr (m+0) (xs++[]):=by simpa using h
theorem qbC(T:Tabs P){t tx e m:Nat}{x y:Operand}{v:Value}{Gr G1:Own}{xs:List Value}{s:ByteArray}(hx:ev L x=some v)(hy:ev L y=some (.string s))(hE:T.el t=some (e,1))(htx:P.underlying tx=some .string)(hb:P.bytesOf e≤256){z:List Value}(hz:T.ze e=some z)(hzl:z.length=1)
 (hR:Row e 1 v Gr m xs) (hp:G.Perm (Gr++G1)) (hmm:m+s.size≤549755813888)
 (k':∀v' Gr',Row e 1 v' Gr' (m+s.size) (xs++byteCells s)→(s.size=0→v'=v∧Gr'=Gr)→Q v' V (Gr'++G1)):Opr P n X L V G ⟨ds,.call { callee:=.builtin .append,args:=#[x,y],argTypes:=#[t,tx] },ty,pos,af,gd⟩ Q:=fun a ha w hw=>by
 obtain⟨hu,g,hT⟩:=yZ (T.el_ok _ _ hE)
 have hq:=hw.perm hp;have hze:=T.ze_ok _ _ hz;unfold Ze at hze;split at hze
 · rename_i i hi
   cases hz0:i.zero with
   | none=>simp[hz0]at hze
   | some zv=>
   simp only[hz0,VQ,za]at hze;have hzs:zv.cells.size=1:=by rw[← hzl,← hze];simp
   have hsz:i.size=1:=by have:=(jK hT w).2.2;simpa[hi]using this
   have hby:i.bytes≤256:=by simpa[Program.bytesOf,hi]using hb
   have hmul:∀q,q≤549755813888→q*i.bytes≤140737488355328:=fun q hq=>by
    have:q*i.bytes≤549755813888*256:=Vu hq hby
    omega
   have hbl:=byteCells_length s;have hsrc:=fun w=>(by have:=Src.ofString (P:=P) w htx s;rw[← hsz]at this;exact this:Src P i.size tx (.string s) s.size (byteCells s) w)
   have fin:∀(v':Value) (w':World) (Gr':Own),(Builtin.append_ #[t,tx] ty #[v,.string s]).run P w = .ok v' w'→Row e 1 v' Gr' (m+s.size) (xs++byteCells s)→(s.size=0→v'=v∧Gr'=Gr)→Holds X V (Gr'++G1) w' →
    ∃v w'' V' G',((execOp a.eval ⟨ds,.call { callee:=.builtin .append,args:=#[x,y],argTypes:=#[t,tx] },ty,pos,af,gd⟩).run P w = .ok (.value v) w''∨((execOp a.eval ⟨ds,.call { callee:=.builtin .append,args:=#[x,y],argTypes:=#[t,tx] },ty,pos,af,gd⟩).run P w = .ok .skip w''∧v=undef))∧Q v V' G'∧Holds X V' G' w'' :=
    fun v' w' Gr' hr hR' hn hh=>⟨v',w',V,_,.inl (by simp[execOp,resolve,invoke,builtin,ha.ev hx,ha.ev hy,hr]),k' v' Gr' hR' hn,hh⟩
   refine .inl ?_
   by_cases h0:s.size=0
   · have hbn:byteCells s=[]:=Va (by rw[hbl,h0])
     have hs0:=hsrc w;rw[h0,hbn]at hs0;cases hR with
     | nil=>
      have hr:=run_append_nothing (P:=P) w t tx ty e i hu hi none 0 0 (zI _) (.string s) hs0
      refine fin _ _ [] hr (by rw[h0,hbn];exact .nil) (fun _=>⟨rfl,rfl⟩) hq
     | @some g m cap cur xs hm hc hs ht=>
      have hr:=run_append_nothing (P:=P) w t tx ty e i hu hi (Option.some ⟨g,0,none⟩) m cap hm (.string s) hs0
      refine fin _ _ _ hr (by rw[h0,hbn];exact(Row.some hm hc hs ht).app0) (fun _=>⟨rfl,rfl⟩) hq
   · cases hR with
     | nil=>
      have hr:=run_append_grow_src (P:=P) w t tx ty e i zv hu hi hz0 none 0 0 [] (run_firstCells_none _ _ _ _ _) (.string s) s.size (byteCells s) (hsrc w) (by omega) (by omega) (growslice_fits (by omega) (hmul _ (by omega)))
      have hge:=grownCap_ge w (0+s.size) 0 e
      have hrow:Row e 1 (.slice (some ⟨w.heap.size,0,none⟩) (0+s.size) (grownCap w (0+s.size) 0 e)) [(w.heap.size,.cells (([]++byteCells s).toArray++Builtin.zeroCells zv.cells (grownCap w (0+s.size) 0 e-(0+s.size))) e (0,0))] (0+s.size) ([]++byteCells s):=by
       refine .some (by omega) (grownCap_le_maxLen w (0+s.size) 0 e (by unfold maxLen;omega)) ?_ ?_
       · simp only[VL,Ky,size_zeroCells,hzs,zy,hbl]
         omega
       · simp only[VB,zy,zt,KK,← hbl]
         exact K4
      exact fin _ _ _ hr hrow (fun h=>absurd h h0) ((hq.drew).alloc _)
     | @some g m cap cur xs hm hc hs ht=>
      have hrl:=(Row.some (e:=e) (g:=g) hm hc hs ht).len
      have hg:w.heap[g]?=some (.cells cur e (0,0)):=hq.own (g,.cells cur e (0,0)) (by simp)
      by_cases hroom:m+s.size≤cap
      · have hr:=qaI (P:=P) w t tx ty e i hu htx hi hsz g m cap cur hg s hroom (by omega)
        rw[YO w g cur _ e hg]at hr;refine fin _ _ _ hr (.some (g:=g) (cur:=(cur.toList.take m++byteCells s++cur.toList.drop (m+(byteCells s).length)).toArray) hroom hc ?_ ?_) (fun h=>absurd h h0) (hq.upd .here)
        · simp only[Ky,zb,Ka,KA,Ks]
          omega
        · simp only[KK]at ht ⊢
          rw[ht];have:(xs++byteCells s).length=m+s.size:=by rw[zb,hrl,hbl,KK]
          rw[← this,K4]
      · have hlt:cap<m+s.size:=by omega
        have hold:∀j u,xs[j]?=some u→w.drew.cell? ((⟨g,0,none⟩:Addr).add j)=some u:=fun j u hj=>by
         rw[j8,World.cell?_drew,yv hg,zt];rw[← ht,zZ]at hj;split at hj
         · simpa using hj
         · cases hj
        have hr:=run_append_grow_src (P:=P) w t tx ty e i zv hu hi hz0 (Option.some ⟨g,0,none⟩) m cap xs (run_firstCells_some (P:=P) w.drew i.size m ⟨g,0,none⟩ m cap xs (by rw[hsz];exact hrl) hold) (.string s) s.size (byteCells s) (hsrc w) hlt (by omega) (growslice_fits hlt (hmul _ (by omega)))
        have hge:=grownCap_ge w (m+s.size) cap e
        have hrow:Row e 1 (.slice (some ⟨w.heap.size,0,none⟩) (m+s.size) (grownCap w (m+s.size) cap e)) [(w.heap.size,.cells ((xs++byteCells s).toArray++Builtin.zeroCells zv.cells (grownCap w (m+s.size) cap e-(m+s.size))) e (0,0))] (m+s.size) (xs++byteCells s):=by
         refine .some (by omega) (grownCap_le_maxLen w (m+s.size) cap e (by unfold maxLen;omega)) ?_ ?_
         · simp only[VL,Ky,size_zeroCells,hzs,zb,hbl,hrl]
           omega
         · have:(xs++byteCells s).length=(m+s.size)*1:=by rw[zb,hrl,hbl];omega
           simp only[VB,← this];exact K4
        refine fin _ _ _ hr hrow (fun h=>absurd h h0) (((hq.drew).alloc _).sublist ?_)
        simp
 · cases hze
theorem qfI{x:Operand}{l c:Nat}{ts:Array TypeId}(hx:ev L x=some (.slice none l c))(k:Q (.pointer none) V G):Opr P n X L V G ⟨ds,.call { callee:=.builtin .unsafeSliceData,args:=#[x],argTypes:=ts },ty,pos,af,gd⟩ Q :=
 qP (fun a w ha=>by simp[execOp,resolve,invoke,builtin,ha.ev hx,Lib.run_unsafeSliceData_nil]) k
theorem qhv{x:Operand}{a:Addr}{l c:Nat}{ts:Array TypeId}(hx:ev L x=some (.slice (some a) l c))(hc:c≠0)(k:Q (.pointer (some a)) V G):Opr P n X L V G ⟨ds,.call { callee:=.builtin .unsafeSliceData,args:=#[x],argTypes:=ts },ty,pos,af,gd⟩ Q :=
 qP (fun a' w ha=>by simp[execOp,resolve,invoke,builtin,ha.ev hx,Lib.run_unsafeSliceData_row w _ _ _ _ _ hc]) k
theorem qcC{x y:Operand}{p:Option Addr}{t1 t2:TypeId}(hx:ev L x=some (.pointer p))(hy:ev L y=some (.int .i64 0))(k:Q (.string .empty) V G):Opr P n X L V G ⟨ds,.call { callee:=.builtin .unsafeString,args:=#[x,y],argTypes:=#[t1,t2] },ty,pos,af,gd⟩ Q :=
 qP (fun a' w ha=>by simp[execOp,resolve,invoke,builtin,ha.ev hx,ha.ev hy,Lib.run_unsafeString_none]) k
theorem qny(w:World)(g m:Nat)(cur:Array Value)(e:TypeId)(h:w.heap[g]?=some (.cells cur e (0,0)))(hm:m≠0):w.freeze ⟨g,0,none⟩ m = { w with heap:=w.heap.setIfInBounds g (.cells cur e (0,m)) }:=by
 unfold World.freeze;rw[zQ hm]
 congr 1
 apply Array.ext
 · simp
 · intro k h1 h2
   have hlt:g<w.heap.size:=(zX.1 h).1
   have hv:w.heap[g] = .cells cur e (0,0):=(zX.1 h).2
   simp only[Array.getElem_modify];split
   · rename_i hk
     subst hk;simp[hv]
   · rename_i hk
     rw[Array.getElem_setIfInBounds_ne (h:=hk)]
theorem qdn{x y:Operand}{g e t1 t2:Nat}{cur:Array Value}{s:List UInt8}{z:Int}{G':Own}(hx:ev L x=some (.pointer (some ⟨g,0,none⟩)))(hy:ev L y=some (.int .i64 z))(hz:z=s.length)(h0:s≠[])(hl:s.length≤cur.size)(h63:s.length≤9223372036854775807)(ht:cur.toList.take s.length=YH s)
 (hp:P.underlying t1=some (.pointer e)) (hc:P.cellsOf e=1) (hu:Upd G g (.cells cur e (0,0)) (.cells cur e (0,s.length)) G') (k:Q (.string ⟨s.toArray⟩) V G'):Opr P n X L V G ⟨ds,.call { callee:=.builtin .unsafeString,args:=#[x,y],argTypes:=#[t1,t2] },ty,pos,af,gd⟩ Q:=fun a ha w hw=>by
 have hg:=hw.own _ hu.has.mem;have hlz:s.length≠0:=by simpa using h0
 have hr:=Lib.run_unsafeString_row (P:=P) w t1 t2 ty e hp hc g cur.size (by simp[World.shape?,hg]) s h0 hl h63 (fun j u hj=>by
  rw[j8,yv hg,zt];have hlt:j<s.length:=(zu.1 hj).1
  have:(cur.toList.take s.length)[j]?=some (.int .u8 (u.toNat:Int)):=by rw[ht];simp[YH,hj]
  rw[zZ,z6 hlt]at this;simpa using this)
 rw[qny w g _ cur e hg hlz]at hr;refine .inl ⟨_,_,V,G',.inl ?_,k,hw.upd hu⟩
 subst hz;simp[execOp,resolve,invoke,builtin,ha.ev hx,ha.ev hy,hr]
theorem qw(T:Tabs P){t e k m:Nat}{z r:List Value}{parts:List (Nat×Operand)}(_hM:∀r,X.M r→r<X.w0.heap.size)(hE:T.el t=some (e,k))(hz:T.ze e=some z)(hm:parts.length=m)(hs:m*k≤16777216)(hc:Cat L k 0 parts r)
 (k':∀b,V b=none→Q (.slice (some ⟨b,0,none⟩) m m) (addV V b (.cells r.toArray e (0,0))) G):Opr P n X L V G ⟨ds,.buildSlice t m parts.toArray,ty,pos,af,gd⟩ Q:=fun a ha w hw=>by
 refine .inl ⟨_,_,addV V w.heap.size (.cells r.toArray e (0,0)),G,.inl ?_,k' w.heap.size ?_,(hw.alloc (.cells r.toArray e (0,0))).freeze⟩
 · exact qha T hE hz hm hs hc ha w
 · cases h:V w.heap.size with
   | none=>rfl
   | some o=>exact absurd (hw.vlt (r:=w.heap.size) (by simp[h])) (by omega)
theorem Sl.made{V:qc}{b m k:Nat}{r:List Value}{e:TypeId}(h:V b=none)(hr:r.length=m*k)(hm:m≤16777216):Sl k (addV V b (.cells r.toArray e (0,0))) (.slice (some ⟨b,0,none⟩) m m) r :=
 ⟨_,m,m,rfl,zI _,by unfold maxLen;omega,hr,.inr ⟨b,0,rfl,fun i c hi=>⟨r.toArray,e,(0,0),by simp,by simpa using hi⟩⟩⟩
end
end Fly
end
section
namespace Fly
open Go
def Qe(P:Program)(f:FuncId)(args:Array Value)(V:qc)(G0:Own)(Q:Value→qc→Own→Prop):Prop :=
 ∀w u,qaS V w→(∀p∈G0,w.heap[p.1]?=some p.2)→(∀p∈G0,V p.1=none)→(G0.map (·.1)).Nodup →
  CallsD P f args u w fun e u' w'=>u'=u∧∃v V' G',e = .returned v∧Holds ⟨keys G0,w,V,fun _ _ _=>False⟩ V' G' w'∧Q v V' G'
def Zi(a:Act)(D:List Deferred):Act:={ a with defers:=a.defers++D }
theorem YU(a:Act)(D:List Deferred)(d:Option Tmp)(v:Value):(Zi a D).put d v=Zi (a.put d v) D:=by cases d <;> rfl
theorem qf2(a:Act)(D:List Deferred):(Zi a D).eval=a.eval:=by funext x;cases x <;> rfl
theorem qkI{P:Program}{o:Oper}{a:Act}{D:List Deferred}{N N':Act→World→Prop}{Q Q':Exit→Act→World→Prop}(hN:∀a w,N a w→N' (Zi a D) w)(hQ:∀e a w,Q e a w→Q' e (Zi a D) w) :
 ∀r:Result Next,o.upon P a N Q r→o.upon P (Zi a D) N' Q' r:=by
 intro r h;have hl:LetsOut Q→LetsOut Q':=fun⟨a,w,q⟩=>⟨_,w,hQ _ a w q⟩
 unfold Oper.upon at h ⊢
 split at h
 · rw[YU];exact hN _ _ h
 · rw[YU];exact hN _ _ h
 · rename_i d w'
   have e:({ (Zi a D)with defers:=d::(Zi a D).defers }:Act)=Zi { a with defers:=d::a.defers } D:=rfl
   rw[e,YU];exact hN _ _ h
 · refine h.mono fun e w' q=>?_
   cases e with
   | returned v=>simp only at q ⊢;rw[YU];exact hN _ _ q
   | panicked ch=>exact hQ _ _ _ q
   | outgrown=>exact hl q
 · rename_i row args w'
   exact fun c cs=>let⟨v,w2,q,s⟩:=h c cs;⟨v,w2,by show N' ((Zi a D).put o.dst v) w2;rw[YU];exact hN _ _ q,s⟩
 · exact hQ _ _ _ h
 · exact h.elim
theorem Zj{P:Program}{all:Array Oper}{D:List Deferred}{Q Q':Exit→Act→World→Prop}(hQ:∀e a w,Q e a w→Q' e (Zi a D) w):∀(l:List Oper) (a:Act) (w:World),wpList P all Q l a w→wpList P all Q' l (Zi a D) w
 | [],a,w,h=>hQ _ _ _ h
 | o::l,a,w,h=>by
  have hl:LetsOut Q→LetsOut Q':=fun⟨a,w,q⟩=>⟨_,w,hQ _ a w q⟩
  unfold wpList at h ⊢
  have ht:(Zi a D).tmps=a.tmps:=rfl
  rw[ht];split at h
  · rename_i hw
    rw[z6 hw];rcases h with h|⟨h1,h2⟩
    · left
      unfold Oper.wp at h ⊢
      rw[qf2];exact qkI (fun a w q=>Zj hQ l a w q) hQ _ h
    · right
      refine⟨?_,hl h2⟩
      unfold Oper.asks at h1 ⊢
      rw[qf2];exact h1
  · rename_i hw
    rw[zQ hw,YU];exact Zj hQ l _ w h
section
variable {P:Program} {n:Nat} {X:Cx} {L:Lo} {V:qc} {G:Own} {K:List KI} {Q:Value→qc→Own→Prop} {all:Array Oper}
variable {ty:TypeId} {pos:String} {af:Array Edge} {gd:Option (Nat×Bool)} {ds:Option Tmp}
def qs6(w:World)(V:qc)(G0:Own)(Q:Value→qc→Own→Prop):Ending→World→Prop :=
 fun e w'=>∃v V' G',e = .returned v∧Holds ⟨keys G0,w,V,fun _ _ _=>False⟩ V' G' w'∧Q v V' G'
theorem qiM{f:FuncId}{fn:Func}{c:Code}{args:List Value}{n:Nat}{G0:Own}
 (hf:P.funcs[f]?=some fn) (hb:fn.body=some c) (hn:fn.ntmps=n) (hle:Nat.ble args.length n=true)
 (h:∀(X:Cx) (w:World),X.M=keys G0→(∀r,X.M r→r<X.w0.heap.size)→X.w0=w→X.V0=V→X.R=fing P fn w V G0 Q→WC P n X (qZ 0 args) V G0 c []):jk P f args.toArray V G0 Q∧Qe P f args.toArray V G0 Q:=by
 refine⟨qH hf hb hn hle h,?_⟩
 intro w u hV hG hVn hnd;refine callsD_of_wp hf hb ?_
 have h1:=h ⟨keys G0,w,V,fing P fn w V G0 Q⟩ w rfl (fun r hr=>by
  obtain⟨p,hp,e⟩:=KJ.1 hr;have:=(zX.1 (hG p hp)).1
  rw[← e];exact this) rfl rfl rfl
 refine h1 _ w ⟨rfl,?_,fun t v ht=>?_⟩ ⟨Ext.refl _ _,hV,hG,fun p hp=>⟨.inr (KJ.2 ⟨p,hp,rfl⟩),hVn p hp⟩,hnd,Sub.refl _,fun r h0 hr=>absurd h0 hr⟩
 · have:args.length≤n:=zx hle
   simp[hn];omega
 · have:=(qah args 0 t v ht).2
   simp only[Vz]at this;have hlt:t<args.length:=(zu.1 this).1
   rw[Vr (by simpa using hlt)];simpa using this
theorem ZR{f:FuncId}{fn:Func}{c:Code}{args:List Value}{n:Nat}{G0:Own}
 (hf:P.funcs[f]?=some fn) (hb:fn.body=some c) (hn:fn.ntmps=n) (hle:Nat.ble args.length n=true)
 (h:∀(X:Cx) (w:World),X.M=keys G0→(∀r,X.M r→r<X.w0.heap.size)→X.w0=w→X.V0=V→X.R=bodyPostD P fn (qs6 w V G0 Q)→WC P n X (qZ 0 args) V G0 c []):jk P f args.toArray V G0 Q:=by
 intro w hV hG hVn hnd;refine calls_of_wp_defers hf hb ?_
 have h1:=h ⟨keys G0,w,V,bodyPostD P fn (qs6 w V G0 Q)⟩ w rfl (fun r hr=>by
  obtain⟨p,hp,e⟩:=KJ.1 hr;have:=(zX.1 (hG p hp)).1
  rw[← e];exact this) rfl rfl rfl
 refine h1 _ w ⟨rfl,?_,fun t v ht=>?_⟩ ⟨Ext.refl _ _,hV,hG,fun p hp=>⟨.inr (KJ.2 ⟨p,hp,rfl⟩),hVn p hp⟩,hnd,Sub.refl _,fun r h0 hr=>absurd h0 hr⟩
 · have:args.length≤n:=zx hle
   simp[hn];omega
 · have:=(qah args 0 t v ht).2
   simp only[Vz]at this;have hlt:t<args.length:=(zu.1 this).1
   rw[Vr (by simpa using hlt)];simpa using this
theorem qf3{w0 w:World}{V0:qc}{G0 G':Own}(hM:X.M=keys G0)(hw:X.w0=w0)(hV:X.V0=V0)(h:Holds X V G' w):Holds ⟨keys G0,w0,V0,fun _ _ _=>False⟩ V G' w:=by
 obtain⟨M,ww,VV,RR⟩:=X;simp only at hM hw hV;subst hM hw hV
 exact⟨h.ext,h.view,h.own,h.free,h.nodup,h.sub,h.newer⟩
theorem qf4{fn:Func}{w0:World}{V0:qc}{G0:Own}(hM:X.M=keys G0)(hw:X.w0=w0)(hV:X.V0=V0)(hR:X.R=bodyPostD P fn (qs6 w0 V0 G0 Q)){v:Value}(G':Own)
 (hG:G'.Sublist G) (hv:∀a w',Knows n L a→Holds X V G w'→(results fn a.tmps).run P w' = .ok v w') (hQ:Q v V G'):WE P n X L V G .normal []:=by
 refine qdV fun a w ha hh=>?_
 rw[hR];show Leaves P fn a.tmps _ a.defers .returning w
 rw[ha.defers];exact⟨v,hv a w ha hh,v,V,G',rfl,qf3 hM hw hV (hh.sublist hG),hQ⟩
def qvh(P:Program)(fn:Func)(R:Ending→World→Prop)(d:Deferred)(X:Cx):Cx:={ X with R:=fun e a w=>e = .normal∧a.defers=[]∧Leaves P fn a.tmps R [d] .returning w }
theorem qpd{f:Nat}{xs:List Operand}{vs:List Value}{ts:Array TypeId}{fn:Func}{R:Ending→World→Prop}{id:Nat}{l:List Oper}(hx:evs L xs=some vs)(hR:X.R=bodyPostD P fn R)
 (h:WR P n (qvh P fn R { target:=.fn (.func f) #[],args:=vs.toArray } X) L V G l.toArray l []) :
 WR P n X L V G all [⟨none,.defer { callee:=.value (.func f),args:=xs.toArray,argTypes:=ts },ty,pos,af,none⟩] [.code (.region id l.toArray false)]:=by
 intro a w ha hw;have h1:=h a w ha ⟨hw.ext,hw.view,hw.own,hw.free,hw.nodup,hw.sub,hw.newer⟩
 have hm:=Jm ha xs vs hx;unfold wpList;rw[z6 (by simp[Region.wanted])];left;have hr:(execOp a.eval ⟨none,.defer { callee:=.value (.func f),args:=xs.toArray,argTypes:=ts },ty,pos,af,none⟩).run P w = .ok (.defer { target:=.fn (.func f) #[],args:=vs.toArray }) w:=by
  simp[execOp,resolve,Deferred.ofValue,Act.eval,hm]
 unfold Oper.wp;rw[hr,Oper.upon_defer];show Code.wp P (.region id l.toArray false) (Qp P X.R []) _ w
 refine wp_region_lit ?_
 have e:({ a with defers:=({ target:=.fn (.func f) #[],args:=vs.toArray }:Deferred)::a.defers }:Act).put none undef=Zi a [{ target:=.fn (.func f) #[],args:=vs.toArray }]:=by
  simp[Act.put,Zi,ha.defers]
 rw[e];refine Zj (fun e a w q=>?_) l a w h1
 obtain⟨rfl,hd,hL⟩:=q;simp only[Qp];rw[hR];show Leaves P fn (Zi a _).tmps R (Zi a _).defers .returning w
 have:(Zi a [({ target:=.fn (.func f) #[],args:=vs.toArray }:Deferred)]).defers=[{ target:=.fn (.func f) #[],args:=vs.toArray }]:=by simp[Zi,hd]
 rw[this];exact hL
theorem qkJ{f:Nat}{vs:List Value}{fn:Func}{w0:World}{V0:qc}{G0 Ga Gb:Own}{R2:Value→qc→Own→Prop}{X0:Cx}(T:Tabs P)(hg:T.go f=true)(hM:X0.M=keys G0)(hw:X0.w0=w0)(hV:X0.V0=V0)
 (hF:Qe P f vs.toArray V Ga R2) (hp:G.Perm (Ga++Gb)) (hr:fn.results = #[]) (k:∀v V' G',R2 v V' G'→∃G2,G2.Sublist (G'++Gb)∧Q (.tuple #[]) V' G2) :
 WE P n (qvh P fn (qs6 w0 V0 G0 Q) { target:=.fn (.func f) #[],args:=vs.toArray } X0) L V G .normal []:=by
 refine qdV fun a w ha hh=>?_
 refine⟨rfl,ha.defers,?_⟩
 have hq:=hh.perm hp;have hnd:=hq.nodup;rw[Kr,VM]at hnd;refine leaves_cons (f:=f) (args:=vs.toArray) (by simp) (by simp[invoke,qoI (T.go_ok f hg)]) ?_
 refine(hF w .returning hq.seen (fun p hp=>hq.own p (zS.2 (.inl hp))) (fun p hp=>(hq.free p (zS.2 (.inl hp))).2) hnd.1).mono ?_
 rintro e u' w' ⟨rfl,v,V',G',rfl,hh',hr2⟩
 have hc:=hq.callg rfl rfl rfl hh';obtain⟨G2,hs,hQ⟩:=k v V' G' hr2;have hres:=QB (P:=P) hr a w' ha hc
 have hc':Holds X0 V' G2 w':=by
  have:=hc.sublist hs
  exact⟨this.ext,this.view,this.own,this.free,this.nodup,this.sub,this.newer⟩
 exact⟨.tuple #[],hres,.tuple #[],V',G2,rfl,qf3 hM hw hV hc',hQ⟩
theorem qiN{t:TypeId}{x l h:Operand}{s:ByteArray}{κ κ':IntKind}{j i:Int}(hx:ev L x=some (.string s))(hl:ev L l=some (.int κ j))(hh:ev L h=some (.int κ' i))(hu:P.underlying t=some .string)(h0:0≤j)(h1:j≤i)(h2:i≤(s.size:Int))
 (k':Q (.string (s.extract j.toNat i.toNat)) V G):Opr P n X L V G ⟨ds,.slice t x (some l) (some h) none,ty,pos,af,gd⟩ Q:=by
 refine qP (fun ac w ha=>?_) k'
 have h3:0≤i:=by omega
 have h4 : ¬(max i 0<j):=by omega
 simp[execOp,ha.ev hx,ha.ev hl,ha.ev hh,Instr.sliceAt,Instr.slice,run_underlying hu,Instr.sliceBounds,Instr.sliceBound,asIntOf,h0,h2,h3,h4]
theorem qfJ{t e:TypeId}{x y:Operand}{b off m k:Nat}{κ:IntKind}{j:Int}{g:Bool}(hx:ev L x=some (.pointer (some ⟨b,off,none⟩)))(hy:ev L y=some (.int κ j))(hu:P.underlying t=some (.array m e))(hk:Ty P e=some (g,k))
 (h0:0≤j) (h1:j<(m:Int)) (k':Q (.pointer (some ⟨b,off+j.toNat*k,none⟩)) V G):Opr P n X L V G ⟨ds,.indexAddr t x y,ty,pos,af,gd⟩ Q:=by
 refine qP (fun a w ha=>?_) k'
 have h2:j.toNat<m:=by omega
 simp[execOp,ha.ev hx,ha.ev hy,Instr.indexAt,Instr.sureAddr,asIntOf,run_underlying hu,h0,h1,h2,(jK hk w).2.1,j8]
theorem qiO{t u:TypeId}{x y:Operand}{p q:Int}(hx:ev L x=some (.int .u8 p))(hy:ev L y=some (.int .u8 q))(h1:0≤p-q)(h2:p-q<256)(k:Q (.int .u8 (p-q)) V G):Opr P n X L V G ⟨ds,.binOp .sub t x y u,ty,pos,af,gd⟩ Q :=
 qkc hx hy (by rw[qkd h1 h2];exact k)
theorem qhw{t u:TypeId}{x y:Operand}{p q:ByteArray}(hx:ev L x=some (.string p))(hy:ev L y=some (.string q))(h:p.size+q.size≤9223372036854775807)(k:Q (.string (p++q)) V G):Opr P n X L V G ⟨ds,.binOp .add t x y u,ty,pos,af,gd⟩ Q:=by
 refine qkG hx hy (fun w=>?_) rfl k
 have hm:IntKind.i64.max=9223372036854775807:=rfl
 simp[Op.stringOp,hm];omega
theorem Qr{t u:TypeId}{x y:Operand}{κ:IntKind}{p q:Int}(hx:ev L x=some (.int κ p))(hy:ev L y=some (.int κ q))(h:p<q)(k:Q (.bool true) V G):Opr P n X L V G ⟨ds,.binOp .lss t x y u,ty,pos,af,gd⟩ Q :=
 jV hx hy (by rw[zh h];exact k)
theorem QD{t u:TypeId}{x y:Operand}{κ:IntKind}{p q:Int}(hx:ev L x=some (.int κ p))(hy:ev L y=some (.int κ q))(h : ¬p<q)(k:Q (.bool false) V G):Opr P n X L V G ⟨ds,.binOp .lss t x y u,ty,pos,af,gd⟩ Q :=
 jV hx hy (by rw[zq h];exact k)
theorem qbD{t u:TypeId}{x y:Operand}{κ:IntKind}{p q:Int}(hx:ev L x=some (.int κ p))(hy:ev L y=some (.int κ q))(h:q<p)(k:Q (.bool true) V G):Opr P n X L V G ⟨ds,.binOp .gtr t x y u,ty,pos,af,gd⟩ Q :=
 qaT hx hy (by rw[zh h];exact k)
theorem qbE{t u:TypeId}{x y:Operand}{κ:IntKind}{p q:Int}(hx:ev L x=some (.int κ p))(hy:ev L y=some (.int κ q))(h : ¬q<p)(k:Q (.bool false) V G):Opr P n X L V G ⟨ds,.binOp .gtr t x y u,ty,pos,af,gd⟩ Q :=
 qaT hx hy (by rw[zq h];exact k)
theorem qaq{t u:TypeId}{x y:Operand}{κ:IntKind}{p q:Int}(hx:ev L x=some (.int κ p))(hy:ev L y=some (.int κ q))(h : ¬p=q)(k:Q (.bool false) V G):Opr P n X L V G ⟨ds,.binOp .eql t x y u,ty,pos,af,gd⟩ Q :=
 jI hx hy (by rw[zq h];exact k)
theorem qar(T:Tabs P){t u:TypeId}{x:Operand}{κ κ'':IntKind}{p:Int}(hx:ev L x=some (.int κ p))(ht:T.ik t=some κ'')(hu:T.ik u=some .i64)(h1 : -9223372036854775808≤p)(h2:p≤9223372036854775807)(k:Q (.int .i64 p) V G) :
 Opr P n X L V G ⟨ds,.convert t u x,ty,pos,af,gd⟩ Q:=qdY T hx ht hu (by rw[Yt h1 h2];exact k)
end
end Fly
end
