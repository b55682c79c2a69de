/-
  A logic of walks. No condition.
-/
import Derived.Test.YtldhknmacepeiaaGreatDoorFlyA
import Derived.Laws.CopyRow
import Derived.Laws.AppendOwn
import Derived.Laws.MakeOwn
set_option linter.unusedVariables false
set_option linter.unusedSimpArgs false
section
namespace Fly
open Go
inductive At (V:qc) (G:Own) (b:Nat) (o:Obj):Prop
 | own (h:Has G b o)
 | seen (h:V b=some o)
theorem At.heap{X:Cx}{V:qc}{G:Own}{b:Nat}{o:Obj}(h:At V G b o){w:World}(hw:Holds X V G w):w.heap[b]?=some o:=by
 cases h with
 | own h=>exact hw.own _ h.mem
 | seen h=>exact hw.view _ _ h
def qaU:List Value→Nat→Nat→Option (List Value)
 | _,0,0=>some []
 | [],_,_=>none
 | x::l,0,k+1=>match qaU l 0 k with|some r=>some (x::r)|none=>none
 | _::l,o+1,k=>qaU l o k
def yx:List Value→List Value→Option (List Value)
 | l,[]=>some l
 | [],_::_=>none
 | _::l,v::vs=>match yx l vs with|some r=>some (v::r)|none=>none
def Qh:List Value→Nat→List Value→Option (List Value)
 | l,0,vs=>yx l vs
 | [],_+1,_=>none
 | x::l,o+1,vs=>match Qh l o vs with|some r=>some (x::r)|none=>none
theorem qcl:∀(l:List Value) (o k:Nat) (r:List Value),qaU l o k=some r→r.length=k∧∀j,j<k→l[o+j]?=r[j]?
 | l,0,0,r,h=>by simp[qaU]at h;subst h;simp
 | [],0,k+1,r,h=>by simp[qaU]at h
 | [],o+1,k,r,h=>by simp[qaU]at h
 | x::l,0,k+1,r,h=>by
  simp only[qaU]at h;split at h
  · rename_i r' hr
    simp only[za]at h;subst h;obtain⟨h1,h2⟩:=qcl l 0 k r' hr
    refine⟨by simp[h1],fun j hj=>?_⟩
    cases j with
    | zero=>simp
    | succ j=>have:=h2 j (by omega);simpa using this
  · cases h
 | x::l,o+1,k,r,h=>by
  have h':qaU l o k=some r:=by cases k <;> simpa[qaU]using h
  obtain⟨h1,h2⟩:=qcl l o k r h';refine⟨h1,fun j hj=>?_⟩
  rw[show o+1+j=(o+j)+1 by omega];simpa using h2 j hj
theorem qdZ:∀(l vs r:List Value),yx l vs=some r→r=vs++l.drop vs.length∧vs.length≤l.length
 | l,[],r,h=>by simp[yx]at h;simp[h]
 | [],v::vs,r,h=>by simp[yx]at h
 | x::l,v::vs,r,h=>by
  simp only[yx]at h;split at h
  · rename_i r' hr
    simp only[za]at h;subst h;obtain⟨h1,h2⟩:=qdZ l vs r' hr;subst h1;exact⟨by simp,by simpa using h2⟩
  · cases h
theorem qcm:∀(l:List Value) (o:Nat) (vs r:List Value),Qh l o vs=some r→r=l.take o++vs++l.drop (o+vs.length)∧o+vs.length≤l.length
 | l,0,vs,r,h=>by
  have h':yx l vs=some r:=by simpa[Qh]using h
  obtain⟨h1,h2⟩:=qdZ l vs r h';exact⟨by simpa using h1,by simpa using h2⟩
 | [],o+1,vs,r,h=>by simp[Qh]at h
 | x::l,o+1,vs,r,h=>by
  simp only[Qh]at h;split at h
  · rename_i r' hr
    simp only[za]at h;subst h;obtain⟨h1,h2⟩:=qcm l o vs r' hr;subst h1;refine⟨by simp[show o+1+vs.length=(o+vs.length)+1 by omega],by simp;omega⟩
  · cases h
theorem j8(b o k:Nat):(⟨b,o,none⟩:Addr).add k=⟨b,o+k,none⟩:=by unfold Addr.add;split <;> simp_all
theorem yv{w:World}{b off:Nat}{cs:Array Value}{e:TypeId}{fr:Nat×Nat}(h:w.heap[b]?=some (.cells cs e fr)):w.cell? ⟨b,off,none⟩=cs[off]?:=by
 simp[World.cell?,h]
theorem jK{P:Program}{t:TypeId}{g:Bool}{k:Nat}(h:Ty P t=some (g,k))(w:World):(isAgg t).run P w = .ok g w∧(Go.sizeOf t).run P w = .ok k w∧(P.info? t).map (·.size)=some k:=by
 unfold Ty at h;split at h
 · rename_i i d hi hd
   simp only[za,Km]at h;obtain⟨h1,h2⟩:=h;refine⟨?_,by simp[Go.sizeOf,typeInfo,hi,h2],by simp[hi,h2]⟩
   simp only[isAgg,Sem.run_bind,run_underlying hd,Result.andThen];subst h1;cases d <;> rfl
 · cases h
theorem qls{P:Program}{w:World}{t:TypeId}{k b off:Nat}{v:Value}(ht:Ty P t=some (false,k))(hc:w.cell? ⟨b,off,none⟩=some v) :
 (loadVar t ⟨b,off,none⟩).run P w = .ok v w:=by
 simp[loadVar,Sem.run_bind,(jK ht w).1,Result.andThen,hc]
theorem qlt{P:Program}{w:World}{t:TypeId}{k b off:Nat}{vs:List Value}(ht:Ty P t=some (true,k))(hl:vs.length=k)(hc:∀j v,vs[j]?=some v→w.cell? ⟨b,off+j,none⟩=some v) :
 (loadVar t ⟨b,off,none⟩).run P w = .ok (.agg vs.toArray) w:=by
 have h1:=run_loadCells_list (P:=P) w ⟨b,off,none⟩ vs (fun j v hv=>by rw[j8];exact hc j v hv)
 simp[loadVar,Sem.run_bind,(jK ht w).1,(jK ht w).2.1,Result.andThen,← hl,h1]
section
variable {P:Program} {n:Nat} {X:Cx} {L:Lo} {V:qc} {G:Own} {Q:Value→qc→Own→Prop}
variable {ty:TypeId} {pos:String} {af:Array Edge} {gd:Option (Nat×Bool)} {ds:Option Tmp}
theorem rd1(T:Tabs P){t:TypeId}{k b off:Nat}{l:List Value}{e:TypeId}{fr:Nat×Nat}{v:Value}(ht:T.ty t=some (false,k))(hA:At V G b (.cells l.toArray e fr))(hv:l[off]?=some v)
 {w:World} (hw:Holds X V G w):(loadVar t ⟨b,off,none⟩).run P w = .ok v w :=
 qls (T.ty_ok _ _ ht) (by rw[yv (hA.heap hw)];simpa using hv)
theorem rdN(T:Tabs P){t:TypeId}{k b off:Nat}{l vs:List Value}{e:TypeId}{fr:Nat×Nat}(ht:T.ty t=some (true,k))(hA:At V G b (.cells l.toArray e fr))(hv:qaU l off k=some vs)
 {w:World} (hw:Holds X V G w):(loadVar t ⟨b,off,none⟩).run P w = .ok (.agg vs.toArray) w:=by
 obtain⟨h1,h2⟩:=qcl _ _ _ _ hv;refine qlt (T.ty_ok _ _ ht) h1 fun j v hj=>?_
 rw[yv (hA.heap hw)];have hlt:j<k:=by rw[← h1];exact(zu.1 hj).1
 simpa[h2 j hlt]using hj
theorem qlu{t:TypeId}{x:Operand}{p:Addr}{v:Value}(hx:ev L x=some (.pointer (some p)))(h:∀w,Holds X V G w→(loadVar t p).run P w = .ok v w)(k:Q v V G) :
 Opr P n X L V G ⟨ds,.load t x,ty,pos,af,gd⟩ Q:=fun a ha w hw=>
 .inl ⟨v,w,V,G,.inl (by simp[execOp,ha.ev hx,Instr.loadAt,Instr.sureAddr,h w hw]),k,hw⟩
theorem qp(T:Tabs P){t:TypeId}{x:Operand}{k b off:Nat}{l:List Value}{e:TypeId}{fr:Nat×Nat}{v:Value}(ht:T.ty t=some (false,k))(hx:ev L x=some (.pointer (some ⟨b,off,none⟩)))
 (hA:At V G b (.cells l.toArray e fr)) (hv:l[off]?=some v) (k':Q v V G):Opr P n X L V G ⟨ds,.load t x,ty,pos,af,gd⟩ Q :=
 qlu hx (fun _ hw=>rd1 T ht hA hv hw) k'
theorem qK(T:Tabs P){t:TypeId}{x:Operand}{k b off:Nat}{l vs:List Value}{e:TypeId}{fr:Nat×Nat}(ht:T.ty t=some (true,k))(hx:ev L x=some (.pointer (some ⟨b,off,none⟩)))
 (hA:At V G b (.cells l.toArray e fr)) (hv:qaU l off k=some vs) (k':Q (.agg vs.toArray) V G):Opr P n X L V G ⟨ds,.load t x,ty,pos,af,gd⟩ Q :=
 qlu hx (fun _ hw=>rdN T ht hA hv hw) k'
theorem qd0(T:Tabs P){t:TypeId}{x:Operand}{k b off:Nat}{cs:Array Value}{e:TypeId}{fr:Nat×Nat}{v:Value}(ht:T.ty t=some (false,k))(hx:ev L x=some (.pointer (some ⟨b,off,none⟩)))
 (hA:At V G b (.cells cs e fr)) (hv:cs[off]?=some v) (k':Q v V G):Opr P n X L V G ⟨ds,.load t x,ty,pos,af,gd⟩ Q :=
 qlu hx (fun _ hw=>qls (T.ty_ok _ _ ht) (by rw[yv (hA.heap hw)];exact hv)) k'
theorem qfM(T:Tabs P){t:TypeId}{x:Operand}{k b off:Nat}{cs:Array Value}{e:TypeId}{fr:Nat×Nat}{vs:List Value}(ht:T.ty t=some (true,k))(hx:ev L x=some (.pointer (some ⟨b,off,none⟩)))
 (hA:At V G b (.cells cs e fr)) (hl:vs.length=k) (hv:∀j v,vs[j]?=some v→cs[off+j]?=some v) (k':Q (.agg vs.toArray) V G):Opr P n X L V G ⟨ds,.load t x,ty,pos,af,gd⟩ Q :=
 qlu hx (fun _ hw=>qlt (T.ty_ok _ _ ht) hl (fun j v hj=>by rw[yv (hA.heap hw)];exact hv j v hj)) k'
theorem qb(T:Tabs P){s f:Nat}{x:Operand}{b off o k:Nat}{g:Bool}(hx:ev L x=some (.pointer (some ⟨b,off,none⟩)))(hf:T.fo s f=some (o,g,k))
 (k':Q (.pointer (some ⟨b,off+o,none⟩)) V G):Opr P n X L V G ⟨ds,.fieldAddr s x f,ty,pos,af,gd⟩ Q:=by
 have h:=T.fo_ok _ _ _ hf;unfold Fo at h;split at h
 · rename_i fs hu
   split at h
   · rename_i y hy
     split at h
     · rename_i g' k'' ht
       split at h
       · cases h
       · rename_i hk
         simp only[za,Km]at h;obtain⟨rfl,rfl,rfl⟩:=h;refine qP (fun a w ha=>?_) k'
         simp[execOp,ha.ev hx,Instr.fieldAt,run_underlying hu,hy,Instr.sureAddr,fieldPlace,(jK ht w).2.1,hk,j8]
     · cases h
   · cases h
 · cases h
theorem qfN(T:Tabs P){s f:Nat}{x:Operand}{l:List Value}{o k:Nat}{v:Value}(hx:ev L x=some (.agg l.toArray))(hf:T.fo s f=some (o,false,k))(hv:l[o]?=some v)
 (k':Q v V G):Opr P n X L V G ⟨ds,.field s x f,ty,pos,af,gd⟩ Q:=by
 have h:=T.fo_ok _ _ _ hf;unfold Fo at h;split at h
 · rename_i fs hu
   split at h
   · rename_i y hy
     split at h
     · rename_i g' k'' ht
       split at h
       · cases h
       · rename_i hk
         simp only[za,Km]at h;obtain⟨rfl,rfl,rfl⟩:=h;refine qP (fun a w ha=>?_) k'
         simp[execOp,ha.ev hx,Instr.field,run_underlying hu,hy,asAgg,part,(jK ht w).1,hv]
     · cases h
   · cases h
 · cases h
theorem qB(T:Tabs P){t e:TypeId}{x y:Operand}{b off len cap k:Nat}{κ:IntKind}{j:Int}(hx:ev L x=some (.slice (some ⟨b,off,none⟩) len cap))(hy:ev L y=some (.int κ j))(hE:T.el t=some (e,k))
 (h0:0≤j) (h1:j<(len:Int)) (k':Q (.pointer (some ⟨b,off+j.toNat*k,none⟩)) V G):Opr P n X L V G ⟨ds,.indexAddr t x y,ty,pos,af,gd⟩ Q:=by
 have h:=T.el_ok _ _ hE;unfold El at h;split at h
 · rename_i e' hu
   split at h
   · rename_i g' k'' ht
     simp only[za,Km]at h;obtain⟨rfl,rfl⟩:=h;refine qP (fun a w ha=>?_) k'
     simp[execOp,ha.ev hx,ha.ev hy,Instr.indexAt,asIntOf,run_underlying hu,h0,h1,(jK ht w).2.1,j8]
   · cases h
 · cases h
theorem yZ{t e:TypeId}{k:Nat}(h:El P t=some (e,k)):P.underlying t=some (.slice e)∧∃g,Ty P e=some (g,k):=by
 unfold El at h;split at h
 · rename_i e' hu
   split at h
   · rename_i g' k'' ht
     simp only[za,Km]at h;obtain⟨rfl,rfl⟩:=h;exact⟨hu,g',ht⟩
   · cases h
 · cases h
theorem jP(T:Tabs P){t e:TypeId}{k:Nat}{x:Operand}{a:Option Addr}{len cap:Nat}{ts:Array TypeId}(hx:ev L x=some (.slice a len cap))(ht:ts[0]?=some t)(hE:T.el t=some (e,k))
 (k':Q (.int .i64 (len:Int)) V G):Opr P n X L V G ⟨ds,.call { callee:=.builtin .len,args:=#[x],argTypes:=ts },ty,pos,af,gd⟩ Q:=by
 obtain⟨hu,_⟩:=yZ (T.el_ok _ _ hE)
 refine qP (fun a w ha=>?_) k'
 simp[execOp,resolve,invoke,builtin,Builtin.len_,ht,ha.ev hx,run_underlying hu,goInt]
theorem qkg{op:Op}{cs:Array Value}{e:TypeId}(h:∀a w,Knows n L a→(execOp a.eval ⟨ds,op,ty,pos,af,gd⟩).run P w = .ok (.value (.pointer (some ⟨w.heap.size,0,none⟩))) { w with heap:=w.heap.push (.cells cs e) })
 (k:∀b,Q (.pointer (some ⟨b,0,none⟩)) V ((b,.cells cs e (0,0))::G)):Opr P n X L V G ⟨ds,op,ty,pos,af,gd⟩ Q:=fun a ha w hw=>
 .inl ⟨_,_,V,_,.inl (h a w ha),k w.heap.size,hw.alloc _⟩
theorem qlv{e:TypeId}{x:Operand}{v:Value}(hx:ev L x=some v)(hv:v.cells = #[v])(k:∀b,Q (.pointer (some ⟨b,0,none⟩)) V ((b,.cells #[v] e (0,0))::G)):Opr P n X L V G ⟨ds,.box e x,ty,pos,af,gd⟩ Q :=
 qkg (cs:=#[v]) (e:=e) (fun a w ha=>by simp[execOp,ha.ev hx,Instr.box,newVar,newRow,hv]) k
theorem qJ{e:TypeId}{x:Operand}{l:List Value}(hx:ev L x=some (.agg l.toArray))(k:∀b,Q (.pointer (some ⟨b,0,none⟩)) V ((b,.cells l.toArray e (0,0))::G)):Opr P n X L V G ⟨ds,.box e x,ty,pos,af,gd⟩ Q :=
 qkg (cs:=l.toArray) (e:=e) (fun a w ha=>by simp[execOp,ha.ev hx,Instr.box,newVar,newRow,Value.cells]) k
theorem qd1{e:TypeId}{z:List Value}(h:Ze P e=some z)(w:World):∃v,(zeroValue e).run P w = .ok v w∧v.cells=z.toArray:=by
 unfold Ze at h;split at h
 · rename_i i hi
   cases hz:i.zero with
   | none=>simp[hz]at h
   | some v=>
    simp only[hz,VQ,za]at h;exact⟨v,by simp[zeroValue,typeInfo,hi,hz],by rw[← h]⟩
 · cases h
theorem yA(T:Tabs P){e:TypeId}{z:List Value}(hz:T.ze e=some z)(k:∀b,Q (.pointer (some ⟨b,0,none⟩)) V ((b,.cells z.toArray e (0,0))::G)):Opr P n X L V G ⟨ds,.alloc e,ty,pos,af,gd⟩ Q :=
 qkg (cs:=z.toArray) (e:=e) (fun a w _=>by
  obtain⟨v,h1,h2⟩:=qd1 (T.ze_ok _ _ hz) w
  simp[execOp,Instr.alloc,newVar,newRow,h1,h2]) k
theorem YO(w:World)(g:Nat)(cur cs:Array Value)(t:TypeId)(h:w.heap[g]?=some (.cells cur t (0,0))):w.setRow g cs = { w with heap:=w.heap.setIfInBounds g (.cells cs t (0,0)) }:=by
 unfold World.setRow
 congr 1
 apply Array.ext
 · simp
 · intro k h1 h2
   simp only[Array.getElem_modify];split
   · rename_i hk
     subst hk;have hlt:g<w.heap.size:=by simpa using h1
     have:w.heap[g] = .cells cur t (0,0):=by
      have:=(zX.1 h).2;simpa using this
     simp[this]
   · rename_i hk
     have h3:((w.heap.setIfInBounds g (Obj.cells cs t))[k]'h2)=w.heap[k]'(by simpa using h2):=Array.getElem_setIfInBounds_ne (by simpa using h2) hk
     exact h3.symm
theorem qoG{w:World}{g o:Nat}{t:TypeId}{l vs r:List Value}(hg:w.heap[g]?=some (.cells l.toArray t (0,0)))(hp:Qh l o vs=some r)(h1:∀v∈vs,v.oneCell'=true) :
 (storeCells ⟨g,o,none⟩ vs 0).run P w = .ok () { w with heap:=w.heap.setIfInBounds g (.cells r.toArray t (0,0)) }:=by
 obtain⟨hr,hle⟩:=qcm _ _ _ _ hp;have:=run_storeCells_at P g o t vs 0 l.toArray w hg (by simpa using hle) h1
 rw[this,YO w g l.toArray _ t hg];simp[hr]
theorem qoH(T:Tabs P){t:TypeId}{x y:Operand}{b off k:Nat}{v:Value}{l vs r:List Value}{e:TypeId}{g:Bool}{G':Own}(hx:ev L x=some (.pointer (some ⟨b,off,none⟩)))(hy:ev L y=some v)(hc:v.cells=vs.toArray)
 (h1:∀u∈vs,u.oneCell'=true) (ht:T.ty t=some (g,k)) (hk:vs.length=k) (hu:Upd G b (.cells l.toArray e (0,0)) (.cells r.toArray e (0,0)) G') (hp:Qh l off vs=some r) (k':Q undef V G') :
 Opr P n X L V G ⟨ds,.store t x y,ty,pos,af,gd⟩ Q:=fun a ha w hw=>by
 have hg:=hw.own _ hu.has.mem;have hs:=qoG (P:=P) (w:=w) hg hp h1
 refine .inl ⟨undef,_,V,G',.inr ⟨?_,rfl⟩,k',hw.upd hu⟩
 simp[execOp,ha.ev hx,ha.ev hy,Instr.storeAt,Instr.sureAddr,storeVar,hc,(jK (T.ty_ok _ _ ht) w).2.1,hk,hs]
theorem yk(T:Tabs P){t:TypeId}{x y:Operand}{b off:Nat}{v:Value}{l r:List Value}{e:TypeId}{g:Bool}{G':Own}(hx:ev L x=some (.pointer (some ⟨b,off,none⟩)))(hy:ev L y=some v)(hc:v.cells = #[v])
 (h1:v.oneCell'=true) (ht:T.ty t=some (g,1)) (hu:Upd G b (.cells l.toArray e (0,0)) (.cells r.toArray e (0,0)) G') (hp:Qh l off [v]=some r) (k':Q undef V G') :
 Opr P n X L V G ⟨ds,.store t x y,ty,pos,af,gd⟩ Q:=qoH T hx hy hc (by simpa using h1) ht rfl hu hp k'
theorem yX(T:Tabs P){t:TypeId}{x y:Operand}{b off k:Nat}{l vs r:List Value}{e:TypeId}{g:Bool}{G':Own}(hx:ev L x=some (.pointer (some ⟨b,off,none⟩)))(hy:ev L y=some (.agg vs.toArray))
 (h1:vs.all (·.oneCell')=true) (ht:T.ty t=some (g,k)) (hk:vs.length=k) (hu:Upd G b (.cells l.toArray e (0,0)) (.cells r.toArray e (0,0)) G') (hp:Qh l off vs=some r) (k':Q undef V G') :
 Opr P n X L V G ⟨ds,.store t x y,ty,pos,af,gd⟩ Q:=qoH T hx hy rfl (Ko.1 h1) ht hk hu hp k'
theorem qoI{f:FuncId}(h:qij P f=true)(args:Array Value)(w:World):(callFunc f args).run P w = .ok (.enter f args) w:=by
 unfold qij at h;split at h
 · rename_i fn hf
   simp only[zp,Wb]at h;simp only[callFunc,Sem.run_bind,run_program,Result.andThen,hf,h.1];have hb:fn.body.isNone=false:=by cases hb:fn.body <;> simp[hb]at h ⊢
   simp[hb]
 · cases h
def evs(L:Lo):List Operand→Option (List Value)
 | []=>some []
 | x::xs=>match ev L x with
  | some v=>match evs L xs with
   | some vs=>some (v::vs)
   | none=>none
  | none=>none
theorem Jm{a:Act}(ha:Knows n L a):∀(xs:List Operand) (vs:List Value),evs L xs=some vs→xs.map a.eval=vs
 | [],vs,h=>by simp[evs]at h;simp[h]
 | x::xs,vs,h=>by
  simp only[evs]at h;split at h
  · rename_i v hv
    split at h
    · rename_i us hu
      simp only[za]at h;subst h;simp[ha.ev hv,Jm ha xs us hu]
    · cases h
  · cases h
theorem qsN(T:Tabs P){f:Nat}{xs:List Operand}{vs:List Value}{ts:Array TypeId}{R:Value→qc→Own→Prop}(hx:evs L xs=some vs)(hg:T.go f=true)
 (hc:∀w,qaS V w→Qy P f vs.toArray V w R) (k:∀v V' G',R v V' G'→Q v V' (G'++G)) :
 Opr P n X L V G ⟨ds,.call { callee:=.value (.func f),args:=xs.toArray,argTypes:=ts },ty,pos,af,gd⟩ Q:=fun a ha w hw=>by
 refine .inr ⟨f,vs.toArray,w,?_,?_⟩
 · have hm:=Jm ha xs vs hx
   simp[execOp,resolve,Deferred.ofValue,Act.eval,invoke,qoI (T.go_ok f hg),hm]
 · refine(hc w hw.seen).mono ?_
   rintro e w' ⟨v,V',G',rfl,hh,hr⟩
   exact⟨v,V',G'++G,rfl,k v V' G' hr,hw.call rfl rfl (fun _ h=>h) hh⟩
end
end Fly
end
section
namespace Fly
open Go
def Qf(P:Program)(f:FuncId)(args:List Value)(v:Value):Prop :=
 ∀V w,qaS V w→Qy P f args.toArray V w fun v' V' G'=>v'=v∧V'=V∧G'=[]
section
variable {P:Program} {n:Nat} {X:Cx} {L:Lo} {V:qc} {G:Own} {K:List KI} {Q:Value→qc→Own→Prop}
variable {ty:TypeId} {pos:String} {af:Array Edge} {gd:Option (Nat×Bool)} {ds:Option Tmp}
theorem yK(T:Tabs P){f:Nat}{xs:List Operand}{vs:List Value}{v:Value}{ts:Array TypeId}(hx:evs L xs=some vs)(hg:T.go f=true)(hc:Qf P f vs v)(k:Q v V G) :
 Opr P n X L V G ⟨ds,.call { callee:=.value (.func f),args:=xs.toArray,argTypes:=ts },ty,pos,af,gd⟩ Q :=
 qsN T hx hg (fun w hw=>hc V w hw) (by rintro _ _ _ ⟨rfl,rfl,rfl⟩;exact k)
theorem ZL{fn:Func}{w:World}{V0:qc}{v:Value}(hM:X.M=(fun _=>False))(hw:X.w0=w)(hV:X.V0=V0)(hR:X.R=qfy P fn w V0 fun v' V' G'=>v'=v∧V'=V0∧G'=[]){u:Value}
 (hr:∀a w',Knows n L a→Holds X V G w'→(results fn a.tmps).run P w' = .ok u w') (he:u=v):WE P n X L V G .ret K:=by
 refine qg5 (fun a w' ha hh=>?_)
 have h1:Holds X V0 [] w':=⟨hh.ext,fun r o h=>hh.view r o (hh.sub r o (by rw[hV];exact h)),fun _ hp=>(by cases hp),fun _ hp=>(by cases hp),VN,fun r o h=>by rw[hV]at h;exact h,fun r h0 h1=>by rw[hV]at h0;exact absurd h0 h1⟩
 rw[hR];subst he;obtain⟨M,w0,VV,RR⟩:=X;simp only at hM hw hV;subst hM hw hV
 exact⟨ha.defers,u,hr a w' ha hh,u,VV,[],rfl,⟨h1.ext,h1.view,h1.own,h1.free,h1.nodup,h1.sub,h1.newer⟩,rfl,rfl,rfl⟩
theorem Zb{f:FuncId}{fn:Func}{c:Code}{args:List Value}{v:Value}{n:Nat}(hf:P.funcs[f]?=some fn)(hb:fn.body=some c)(hn:fn.ntmps=n)(hle:Nat.ble args.length n=true)
 (h:∀(X:Cx) (w:World) (V:qc),X.M=(fun _=>False)→X.w0=w→X.V0=V→X.R=qfy P fn w V (fun v' V' G'=>v'=v∧V'=V∧G'=[])→WC P n X (qZ 0 args) V [] c []):Qf P f args v :=
 fun V w hV=>enter hf hb hn hle hV fun X h1 h2 h3 h4=>h X w V h1 h2 h3 h4
end
end Fly
end
section
namespace Fly
open Go
theorem qlw(off:Nat):∀(vs:List Value) (j:Nat) (cur:Array Value),off+j+vs.length≤cur.size →
 (vs.zipIdx j).foldl (fun cs p=>cs.setIfInBounds (off+p.2) p.1) cur=(cur.toList.take (off+j)++vs++cur.toList.drop (off+j+vs.length)).toArray
 | [],j,cur,_=>by simp
 | v::vs,j,cur,h=>by
  simp only[zf]at h;simp only[List.zipIdx_cons,List.foldl_cons];rw[qlw off vs (j+1) _ (by simp;omega)];have hlt:off+j<cur.toList.length:=by simp;omega
  simp only[Array.toList_setIfInBounds,zf]
  congr 1
  have h1:(cur.toList.set (off+j) v).take (off+(j+1))=cur.toList.take (off+j)++[v]:=by
   rw[show off+(j+1)=(off+j)+1 by omega,List.take_succ_eq_append_getElem (by simpa using hlt)];rw[List.take_set_of_le (zI _)];simp
  have h2:(cur.toList.set (off+j) v).drop (off+(j+1)+vs.length)=cur.toList.drop (off+j+(vs.length+1)):=by
   rw[List.drop_set,z6 (by omega)];congr 1;omega
  rw[h1,h2];simp
section
variable {P:Program} {n:Nat} {X:Cx} {L:Lo} {V:qc} {G:Own} {K:List KI} {all:Array Oper} {ops:List Oper} {Q:Value→qc→Own→Prop}
variable {ty:TypeId} {pos:String} {af:Array Edge} {gd:Option (Nat×Bool)} {ds:Option Tmp}
theorem qcn{place:Nat→Option (Nat×Nat)}{l vs r:List Value}{i off k:Nat}{v:Value}{rest:List (Nat×Value)}(hp:place i=some (off,k))(hv:v.cells=vs.toArray)(hk:vs.length=k)(hr:Qh l off vs=some r) :
 Instr.fill place l.toArray ((i,v)::rest)=Instr.fill place r.toArray rest:=by
 obtain⟨h1,h2⟩:=qcm _ _ _ _ hr;have hf:=qlw off vs 0 l.toArray (by simpa using h2)
 simp only[Instr.fill,hp,hv];rw[zQ (by simp;omega)]
 congr 1
 simp only[KQ]at hf;rw[← Array.foldl_toList,h1];simpa using hf
inductive Fill (T:Tabs P) (L:Lo) (t:TypeId):List Value→List (Nat×Operand)→List Value→Prop
 | nil {z:List Value}:Fill T L t z [] z
 | cons {z z' r vs:List Value} {i o k:Nat} {g:Bool} {x:Operand} {v:Value} {rest:List (Nat×Operand)} (hf:T.fo t i=some (o,g,k)) (hx:ev L x=some v) (hv:v.cells=vs.toArray) (hk:vs.length=k)
  (hp:Qh z o vs=some z') (h:Fill T L t z' rest r):Fill T L t z ((i,x)::rest) r
theorem qkh{fs:List Field}(h:∀f∈fs,∃g k,Ty P f.type=some (g,k))(w:World):∃pl,(fs.mapM fun f=>do pure (f.offset,← Go.sizeOf f.type):Sem (List (Nat×Nat))).run P w = .ok pl w ∧
 ∀(i:Nat) f g k,fs[i]?=some f→Ty P f.type=some (g,k)→pl[i]?=some (f.offset,k):=by
 induction fs with
 | nil=>exact⟨[],rfl,fun i f g k hi=>by simp at hi⟩
 | cons f fs ih=>
  obtain⟨pl,h1,h2⟩:=ih (fun x hx=>h x (by simp[hx]))
  obtain⟨g,k,hk⟩:=h f (by simp)
  refine⟨(f.offset,k)::pl,?_,fun i f' g' k' hi ht=>?_⟩
  · rw[List.mapM_cons]
    simp only[bind_assoc,pure_bind,Sem.run_bind,(jK hk w).2.1,Result.andThen,h1];rfl
  · cases i with
    | zero=>simp at hi;subst hi;rw[hk]at ht;simp at ht;simp[ht]
    | succ i=>simp at hi ⊢;exact h2 i f' g' k' hi ht
theorem qki{t i:Nat}{r:Nat×Bool×Nat}(h:Fo P t i=some r):∃fs f,P.underlying t=some (.struct fs)∧fs[i]?=some f∧f.offset=r.1∧Ty P f.type=some (r.2.1,r.2.2):=by
 unfold Fo at h;split at h
 · rename_i fs hu
   split at h
   · rename_i y hy
     split at h
     · rename_i g' k'' ht
       split at h
       · cases h
       · simp only[za]at h
         subst h;exact⟨fs,y,hu,hy,rfl,ht⟩
     · cases h
   · cases h
 · cases h
def qil(P:Program)(t:TypeId):Bool :=
 match P.underlying t with
 | some (.struct fs)=>fs.all fun f=>(Ty P f.type).isSome
 | _=>false
theorem qoJ(T:Tabs P){t:TypeId}{place:Nat→Option (Nat×Nat)}(hpl:∀i o g k,T.fo t i=some (o,g,k)→place i=some (o,k)){a:Act}(ha:Knows n L a){z r:List Value}{parts:List (Nat×Operand)}(h:Fill T L t z parts r) :
 Instr.fill place z.toArray (parts.map fun p=>(p.1,a.eval p.2))=some r.toArray:=by
 induction h with
 | nil=>rfl
 | cons hf hx hv hk hp _ ih=>
  rw[KH];simp only[ha.ev hx];rw[qcn (hpl _ _ _ _ hf) hv hk hp];exact ih
theorem Jo(T:Tabs P){t i0:Nat}{r0:Nat×Bool×Nat}{z r:List Value}{parts:List (Nat×Operand)}(ht:qil P t=true)(hz:T.ze t=some z)(h0:T.fo t i0=some r0)(hf:Fill T L t z parts r)(k:Q (.agg r.toArray) V G) :
 Opr P n X L V G ⟨ds,.build t parts.toArray,ty,pos,af,gd⟩ Q:=by
 refine qP (fun a w ha=>?_) k
 obtain⟨fs,_,hu,_⟩:=qki (T.fo_ok _ _ _ h0)
 obtain⟨zv,hz1,hz2⟩:=qd1 (T.ze_ok _ _ hz) w
 have hall:∀f∈fs.toList,∃g k,Ty P f.type=some (g,k):=by
  simp only[qil,hu,Array.all_eq_true_iff_forall_mem]at ht;intro f hm;have:=ht f (by simpa using hm)
  cases hq:Ty P f.type with
  | none=>rw[hq]at this;simp at this
  | some p=>exact⟨p.1,p.2,rfl⟩
 obtain⟨pl,hp1,hp2⟩:=qkh hall w;have hfill:=qoJ T (place:=fun i=>pl.toArray[i]?) (fun i o g k hi=>by
  obtain⟨fs',f,hu',hf',ho,hty⟩:=qki (T.fo_ok _ _ _ hi)
  rw[hu]at hu';simp only[za,TypeDesc.struct.injEq]at hu';subst hu';have:=hp2 i f g k (by simpa using hf') hty
  simp[this,ho]) ha hf
 have hm:(fs.mapM fun f=>do pure (f.offset,← Go.sizeOf f.type):Sem (Array (Nat×Nat))).run P w = .ok pl.toArray w:=by
  rw[← Vq (xs:=fs),List.mapM_toArray];simp only[map_eq_pure_bind,Sem.run_bind]at hp1 ⊢;rw[hp1];rfl
 have hparts:(parts.toArray.map fun x:Nat×Operand=>(x.1,a.eval x.2)).toList=parts.map fun p=>(p.1,a.eval p.2):=by simp
 simp only[execOp,Instr.build,Sem.run_bind,hz1,Result.andThen,run_underlying hu,hm,hparts,hz2,hfill];rfl
inductive App:List Value→List Value→List Value→Prop
 | nil {r:List Value}:App [] r r
 | cons {x:Value} {l r s:List Value} (h:App l r s):App (x::l) r (x::s)
theorem App.eq{l r s:List Value}(h:App l r s):s=l++r:=by
 induction h with
 | nil=>rfl
 | cons _ ih=>simp[ih]
inductive Cat (L:Lo) (k:Nat):Nat→List (Nat×Operand)→List Value→Prop
 | nil {i:Nat}:Cat L k i [] []
 | cons {i:Nat} {x:Operand} {v:Value} {vs r s:List Value} {rest:List (Nat×Operand)} (hx:ev L x=some v) (hv:v.cells=vs.toArray) (hk:vs.length=k) (h:Cat L k (i+1) rest r) (ha:App vs r s):Cat L k i ((i,x)::rest) s
theorem qim:∀(vs l:List Value),vs.length≤l.length→yx l vs=some (vs++l.drop vs.length)
 | [],l,_=>by simp[yx]
 | v::vs,[],h=>by simp at h
 | v::vs,x::l,h=>by
  simp only[yx,qim vs l (by simpa using h)];simp
theorem qg9:∀(l:List Value) (o:Nat) (vs:List Value),o+vs.length≤l.length→Qh l o vs=some (l.take o++vs++l.drop (o+vs.length))
 | l,0,vs,h=>by simp[Qh,qim vs l (by omega)]
 | [],o+1,vs,h=>by simp at h
 | x::l,o+1,vs,h=>by
  simp only[Qh,qg9 l o vs (by simp at h;omega)];simp[show o+1+vs.length=(o+vs.length)+1 by omega]
theorem qoK{k:Nat}{a:Act}(ha:Knows n L a){i:Nat}{parts:List (Nat×Operand)}{r:List Value}(h:Cat L k i parts r):∀(z:List Value),z.length=(i+parts.length)*k →
 Instr.fill (fun i=>some (i*k,k)) z.toArray (parts.map fun p=>(p.1,a.eval p.2))=some (z.take (i*k)++r).toArray:=by
 induction h with
 | nil=>
  intro z hz;simp only[zk,KQ]at hz;rw[← hz];simp[Instr.fill]
 | @cons i x v vs r s rest hx hv hk h happ ih=>
  intro z hz;simp only[zf]at hz;have e0:(i+(rest.length+1))*k=i*k+k+rest.length*k:=by rw[zR,zR];omega
  rw[KH];simp only[ha.ev hx];rw[qcn (r:=z.take (i*k)++vs++z.drop (i*k+vs.length)) rfl hv hk (qg9 z (i*k) vs (by omega))];have e2:(i+1)*k=i*k+k:=by rw[zR];omega
  rw[ih _ (by
   have:(i+1+rest.length)*k=i*k+k+rest.length*k:=by rw[zR,zR];omega
   simp only[zb,Ka,KA];omega)]
  congr 2
  rw[happ.eq,e2,← zw]
  congr 1
  have hl:(z.take (i*k)++vs).length=i*k+k:=by simp;omega
  rw[← hl,K4]
theorem qha(T:Tabs P){t e k m:Nat}{z r:List Value}{parts:List (Nat×Operand)}(hE:T.el t=some (e,k))(hz:T.ze e=some z)(hm:parts.length=m)(hs:m*k≤16777216)(hc:Cat L k 0 parts r){a:Act}(ha:Knows n L a)(w:World) :
 (execOp a.eval ⟨ds,.buildSlice t m parts.toArray,ty,pos,af,gd⟩).run P w = .ok (.value (.slice (some ⟨w.heap.size,0,none⟩) m m)) { w with heap:=w.heap.push (.cells r.toArray e) }:=by
 obtain⟨hu,g,hT⟩:=yZ (T.el_ok _ _ hE)
 obtain⟨zv,hz1,hz2⟩:=qd1 (T.ze_ok _ _ hz) w
 have hparts:(parts.toArray.map fun x:Nat×Operand=>(x.1,a.eval x.2)).toList=parts.map fun p=>(p.1,a.eval p.2):=by simp
 have hrun:(if m*k=0 then pure #[]else do pure (← zeroValue e).cells:Sem (Array Value)).run P w = .ok (if m*k=0 then#[]else z.toArray) w:=by
  split
  · rfl
  · simp[hz1,hz2]
 have hfill:∀zz:List Value,zz.length=m*k→Instr.fill (fun i=>some (i*k,k)) zz.toArray (parts.map fun p=>(p.1,a.eval p.2))=some r.toArray:=fun zz hzz=>by
  have:=qoK ha hc zz (by simpa[hm]using hzz)
  simpa using this
 have hl2:=hfill ((Array.range (m*k)).map fun j=>(if m*k=0 then#[]else z.toArray)[j % (if m*k=0 then#[]else z.toArray).size]!).toList (by simp)
 rw[Vq]at hl2;have hno : ¬(m*k > 2^24):=by omega
 simp only[execOp,Instr.buildSlice,Sem.run_bind,run_underlying hu,Result.andThen,(jK hT w).2.1,Sem.run_ite,zQ hno,hparts];by_cases h0:m*k=0
 · simp only[h0,VG,Sem.run_pure]at hl2 ⊢
   simp only[hl2];simp[newRow]
 · simp only[h0,Vv]at hl2 ⊢
   simp only[hz1,Sem.run_bind,Result.andThen,Sem.run_pure,hz2,hl2];simp[newRow]
theorem yh(T:Tabs P){t e k m:Nat}{z r:List Value}{parts:List (Nat×Operand)}(hE:T.el t=some (e,k))(hz:T.ze e=some z)(hm:parts.length=m)(hs:m*k≤16777216)(hc:Cat L k 0 parts r)
 (k':∀b,Q (.slice (some ⟨b,0,none⟩) m m) V ((b,.cells r.toArray e (0,0))::G)):Opr P n X L V G ⟨ds,.buildSlice t m parts.toArray,ty,pos,af,gd⟩ Q:=fun _ ha w hw=>
 .inl ⟨_,_,V,_,.inl (qha T hE hz hm hs hc ha w),k' w.heap.size,hw.alloc _⟩
theorem JW(T:Tabs P){t e k m:Nat}{z r:List Value}{parts:List (Nat×Operand)}(hM:X.M=fun _=>False)(hE:T.el t=some (e,k))(hz:T.ze e=some z)(hm:parts.length=m)(hs:m*k≤16777216)(hc:Cat L k 0 parts r)
 (k':∀b,V b=none→Q (.slice (some ⟨b,0,none⟩) m m) (addV V b (.cells r.toArray e (0,0))) G):Opr P n X L V G ⟨ds,.buildSlice t m parts.toArray,ty,pos,af,gd⟩ Q:=fun _ ha w hw=>by
 have h1:=hw.alloc (.cells r.toArray e)
 exact .inl ⟨_,_,_,G,.inl (qha T hE hz hm hs hc ha w),k' w.heap.size (h1.free _ (zM ..)).2,h1.freeze⟩
theorem qni(T:Tabs P){t e k:Nat}{x h:Operand}{a:Option Addr}{len cap:Nat}{κ:IntKind}{j:Int}(hx:ev L x=some (.slice a len cap))(hh:ev L h=some (.int κ j))(hE:T.el t=some (e,k))(h0:0≤j)(h1:j≤(cap:Int))
 (k':Q (.slice a j.toNat cap) V G):Opr P n X L V G ⟨ds,.slice t x none (some h) none,ty,pos,af,gd⟩ Q:=by
 obtain⟨hu,g,hT⟩:=yZ (T.el_ok _ _ hE)
 refine qP (fun ac w ha=>?_) k'
 have e1:(a.map fun q:Addr=>q.add 0)=a:=by cases a <;> simp[Addr.add]
 simp[execOp,ha.ev hx,ha.ev hh,Instr.sliceAt,Instr.slice,run_underlying hu,Instr.sliceBounds,Instr.sliceBound,asIntOf,h0,h1,(jK hT w).2.1,e1]
def YF(a:Option Addr)(l cap k:Nat):Option Addr:=if cap=l then a else a.map (·.add (l*k))
theorem qnj(T:Tabs P){t e k:Nat}{x l:Operand}{a:Option Addr}{len cap:Nat}{κ:IntKind}{j:Int}(hx:ev L x=some (.slice a len cap))(hl:ev L l=some (.int κ j))(hE:T.el t=some (e,k))(h0:0≤j)(h1:j≤(len:Int))
 (k':Q (.slice (YF a j.toNat cap k) (len-j.toNat) (cap-j.toNat)) V G):Opr P n X L V G ⟨ds,.slice t x (some l) none none,ty,pos,af,gd⟩ Q:=by
 obtain⟨hu,g,hT⟩:=yZ (T.el_ok _ _ hE)
 refine qP (fun ac w ha=>?_) k'
 simp[execOp,ha.ev hx,ha.ev hl,Instr.sliceAt,Instr.slice,run_underlying hu,Instr.sliceBounds,Instr.sliceBound,asIntOf,h0,h1,(jK hT w).2.1,YF]
theorem qkj(T:Tabs P){t e k:Nat}{x l h:Operand}{a:Option Addr}{len cap:Nat}{κ κ':IntKind}{j i:Int}(hx:ev L x=some (.slice a len cap))(hl:ev L l=some (.int κ j))(hh:ev L h=some (.int κ' i))(hE:T.el t=some (e,k))(h0:0≤j)(h1:j≤i)(h2:i≤(cap:Int))
 (k':Q (.slice (YF a j.toNat cap k) (i.toNat-j.toNat) (cap-j.toNat)) V G):Opr P n X L V G ⟨ds,.slice t x (some l) (some h) none,ty,pos,af,gd⟩ Q:=by
 obtain⟨hu,g,hT⟩:=yZ (T.el_ok _ _ hE)
 refine qP (fun ac w ha=>?_) k'
 have h3:0≤i:=by omega
 have h4 : ¬(max i 0<j):=by omega
 simp[execOp,ha.ev hx,ha.ev hl,ha.ev hh,Instr.sliceAt,Instr.slice,run_underlying hu,Instr.sliceBounds,Instr.sliceBound,asIntOf,h0,h2,h3,h4,(jK hT w).2.1,YF]
inductive Row (e:TypeId) (k:Nat):Value→Own→Nat→List Value→Prop
 | nil:Row e k (.slice none 0 0) [] 0 []
 | some {g m cap:Nat} {cur:Array Value} {xs:List Value} (hm:m≤cap) (hc:cap≤maxLen) (hs:cur.size=cap*k) (ht:cur.toList.take (m*k)=xs):Row e k (.slice (some ⟨g,0,none⟩) m cap) [(g,.cells cur e (0,0))] m xs
theorem Row.len{e:TypeId}{k m:Nat}{v:Value}{Gr:Own}{xs:List Value}(h:Row e k v Gr m xs):xs.length=m*k:=by
 cases h with
 | nil=>simp
 | some hm hc hs ht=>rw[← ht];simp only[Ka,Ks,hs];exact Vg (zG _ hm)
theorem Holds.perm{G':Own}{w:World}(h:Holds X V G w)(hp:G.Perm G'):Holds X V G' w :=
 ⟨h.ext,h.view,fun p hm=>h.own p (hp.mem_iff.2 hm),fun p hm=>h.free p (hp.mem_iff.2 hm),(hp.map _).nodup_iff.1 h.nodup,h.sub,h.newer⟩
theorem Holds.sublist{G':Own}{w:World}(h:Holds X V G w)(hp:G'.Sublist G):Holds X V G' w :=
 ⟨h.ext,h.view,fun p hm=>h.own p (hp.subset hm),fun p hm=>h.free p (hp.subset hm),(hp.map _).nodup h.nodup,h.sub,h.newer⟩
theorem Holds.drew{w:World}(h:Holds X V G w):Holds X V G w.drew :=
 ⟨⟨h.ext.os,h.ext.tape,h.ext.output,h.ext.size,h.ext.block⟩,h.view,h.own,h.free,h.nodup,h.sub,h.newer⟩
theorem qnk(T:Tabs P){t e k m m' c2 b2:Nat}{x y:Operand}{v:Value}{Gr G1:Own}{xs news:List Value}{e2:TypeId}{fr2:Nat×Nat}(hx:ev L x=some v)(hy:ev L y=some (.slice (some ⟨b2,0,none⟩) m' c2))(hE:T.el t=some (e,k))(hk:0<k)(hb:P.bytesOf e≤256){z:List Value}(hz:T.ze e=some z)(hzl:z.length=k)
 (hA:At V G b2 (.cells news.toArray e2 fr2)) (hl:news.length=m'*k) (h1:news.all (·.oneCell')=true) (hR:Row e k v Gr m xs) (hp:G.Perm (Gr++G1)) (hm':0<m') (hmm:m+m'≤549755813888)
 (k':∀v' Gr',Row e k v' Gr' (m+m') (xs++news)→Q v' V (Gr'++G1)):Opr P n X L V G ⟨ds,.call { callee:=.builtin .append,args:=#[x,y],argTypes:=#[t,t] },ty,pos,af,gd⟩ Q:=fun a ha w hw=>by
 obtain⟨hu,g,hT⟩:=yZ (T.el_ok _ _ hE)
 have hq:=hw.perm hp;have hcell:∀j u,news[j]?=some u→w.cell? ((⟨b2,0,none⟩:Addr).add j)=some u:=fun j u hj=>by
  rw[j8,yv (hA.heap hw)];simpa using hj
 have hze:=T.ze_ok _ _ hz;unfold Ze at hze;split at hze
 · rename_i i hi
   cases hz0:i.zero with
   | none=>simp[hz0]at hze
   | some zv=>
   simp only[hz0,VQ,za]at hze;have hzs:zv.cells.size=k:=by rw[← hzl,← hze];simp
   have hsz:i.size=k:=by have:=(jK hT w).2.2;simpa[hi]using this
   have hby:i.bytes≤256:=by simpa[Program.bytesOf,hi]using hb
   have hmul:∀q,q≤549755813888→q*i.bytes≤140737488355328:=fun q hq=>by
    have:q*i.bytes≤549755813888*256:=Vu hq hby
    omega
   have fin:∀(v':Value) (w':World) (Gr':Own),(Builtin.append_ #[t,t] ty #[v,.slice (some ⟨b2,0,none⟩) m' c2]).run P w = .ok v' w'→Row e k v' Gr' (m+m') (xs++news)→Holds X V (Gr'++G1) w' →
    ∃v w'' V' G',((execOp a.eval ⟨ds,.call { callee:=.builtin .append,args:=#[x,y],argTypes:=#[t,t] },ty,pos,af,gd⟩).run P w = .ok (.value v) w''∨((execOp a.eval ⟨ds,.call { callee:=.builtin .append,args:=#[x,y],argTypes:=#[t,t] },ty,pos,af,gd⟩).run P w = .ok .skip w''∧v=undef))∧Q v V' G'∧Holds X V' G' w'' :=
    fun v' w' Gr' hr hR' hh=>⟨v',w',V,_,.inl (by simp[execOp,resolve,invoke,builtin,ha.ev hx,ha.ev hy,hr]),k' v' Gr' hR',hh⟩
   refine .inl ?_
   cases hR with
   | nil=>
    have hr:=run_append_nil (P:=P) w t ty e i zv hu hi hz0 ⟨b2,0,none⟩ m' c2 news (by rw[hsz];exact hl) hcell hm' (by omega) (by have:=hmul m' (by omega);omega)
    have hge:=grownCap_ge w m' 0 e
    have hrow:Row e k (.slice (some ⟨w.heap.size,0,none⟩) m' (grownCap w m' 0 e)) [(w.heap.size,.cells (news.toArray++Builtin.zeroCells zv.cells (grownCap w m' 0 e-m')) e (0,0))] m' news:=by
     refine .some (by omega) (grownCap_le_maxLen w m' 0 e (by unfold maxLen;omega)) ?_ ?_
     · simp only[VL,Ky,size_zeroCells,hzs,hl,← zR]
       congr 1;omega
     · simp only[VB,← hl]
       exact K4
    exact fin _ _ _ hr (by simpa using hrow) ((hq.drew).alloc _)
   | @some g m cap cur xs hm hc hs ht=>
    have hrl:=(Row.some (e:=e) (g:=g) hm hc hs ht).len
    have hg:w.heap[g]?=some (.cells cur e (0,0)):=hq.own (g,.cells cur e (0,0)) (by simp)
    by_cases hroom:m+m'≤cap
    · have hfit:m*k+news.length≤cur.size:=by rw[hl,hs,← zR];exact zG _ hroom
      have hr:=run_append_room (P:=P) w t ty e i hu hi g m cap cur hg ⟨b2,0,none⟩ m' c2 news (by rw[hsz];exact hl) hcell (by simpa using h1) hroom (by rw[hsz];exact hfit)
      rw[hsz,YO w g cur _ e hg]at hr;refine fin _ _ _ hr (.some (g:=g) (cur:=(cur.toList.take (m*k)++news++cur.toList.drop (m*k+news.length)).toArray) hroom hc ?_ ?_) (hq.upd .here)
      · simp only[Ky,zb,Ka,KA,Ks]
        omega
      · simp only[]
        rw[ht];have:(xs++news).length=(m+m')*k:=by rw[zb,hrl,hl,zR]
        rw[← this,K4]
    · have hlt:cap<m+m':=by omega
      have hold:∀j u,xs[j]?=some u→w.cell? ((⟨g,0,none⟩:Addr).add j)=some u:=fun j u hj=>by
       rw[j8,yv hg,zt];rw[← ht,zZ]at hj;split at hj
       · simpa using hj
       · cases hj
      have hr:=run_append_grow (P:=P) w t ty e i zv hu hi hz0 ⟨g,0,none⟩ m cap xs (by rw[hsz];exact hrl) hold ⟨b2,0,none⟩ m' c2 news (by rw[hsz];exact hl) hcell hlt (by omega) (growslice_fits hlt (hmul _ (by omega)))
      have hge:=grownCap_ge w (m+m') cap e
      have hrow:Row e k (.slice (some ⟨w.heap.size,0,none⟩) (m+m') (grownCap w (m+m') cap e)) [(w.heap.size,.cells (xs.toArray++news.toArray++Builtin.zeroCells zv.cells (grownCap w (m+m') cap e-(m+m'))) e (0,0))] (m+m') (xs++news):=by
       refine .some (by omega) (grownCap_le_maxLen w (m+m') cap e (by unfold maxLen;omega)) ?_ ?_
       · simp only[VL,Ky,size_zeroCells,hzs,hl,hrl,← zR]
         congr 1;omega
       · have:(xs++news).length=(m+m')*k:=by rw[zb,hrl,hl,zR]
         simp only[VB,← this];exact K4
      refine fin _ _ _ hr hrow (((hq.drew).alloc _).sublist ?_)
      simp
 · cases hze
end
end Fly
end
