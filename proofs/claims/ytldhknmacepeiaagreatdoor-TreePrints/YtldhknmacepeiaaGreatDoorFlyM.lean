/-
  A logic of walks. No condition.
-/
import Derived.Test.YtldhknmacepeiaaGreatDoorFlyH
import Derived.Laws.Externs
import Derived.Laws.StructEq
set_option linter.unusedVariables false
set_option linter.unusedSimpArgs false
section
namespace Fly
open Go
section
variable {P:Program} {n:Nat} {X:Cx} {L:Lo} {V:qc} {G:Own} {K:List KI} {all:Array Oper} {ops:List Oper}
variable {ty:TypeId} {pos:String} {af:Array Edge}
theorem yB{d:Option Tmp}{op:Op}{j:Nat}{b:Bool}{e:Nat}{p:Prop}[Decidable p](_hj:(all[j]?).bind (·.dst)=some e)(hb:lk L e=some (.bool (decide p)))
 (ht:p→WR P n X ((e,.bool true)::L) V G all (⟨d,op,ty,pos,af,some (j,b)⟩::ops) K)
 (hf : ¬p→WR P n X ((e,.bool false)::L) V G all (⟨d,op,ty,pos,af,some (j,b)⟩::ops) K):WR P n X L V G all (⟨d,op,ty,pos,af,some (j,b)⟩::ops) K :=
 qlr hb (fun h=>ht (KM h)) (fun h=>hf (of_decide_eq_false h))
end
theorem qoP(κ:IntKind)(a:Nat):(BitVec.ofInt κ.bits (a:Int)).toNat=a % 2^κ.bits:=by
 simp
theorem qbs{a:Nat}(h:a<18446744073709551616):IntKind.u64.wrap (a:Int)=(a:Int):=qik (by omega) (by omega)
theorem qsO{a b:Nat}(ha:a<18446744073709551616)(hb:b<18446744073709551616):jj .and .u64 (a:Int) (b:Int)=((a &&& b:Nat):Int):=by
 have e:IntKind.u64.bits=64:=rfl
 simp only[jj,WU,qoP,e];rw[KT (by omega),KT (by omega)];exact qbs (K5 Nat.and_le_left ha)
theorem qd8{a b:Nat}(ha:a<18446744073709551616)(hb:b<18446744073709551616):jj .or .u64 (a:Int) (b:Int)=((a ||| b:Nat):Int):=by
 have e:IntKind.u64.bits=64:=rfl
 simp only[jj,BitVec.toNat_or,qoP,e];rw[KT (by omega),KT (by omega)];exact qbs (Nat.or_lt_two_pow (n:=64) (by omega) (by omega))
theorem and_mask(a k:Nat):a &&& (2^k-1)=a % 2^k:=Nat.and_two_pow_sub_one_eq_mod a k
def fexp(f:Nat):Nat:=f / 4503599627370496 % 2048
def qlz(f:Nat):Nat:=f % 4503599627370496
def fcls(f:Nat):Nat :=
 if fexp f=2047 then(if qlz f=0 then 3 else 4)
 else if fexp f=0 then(if qlz f=0 then 0 else 1)else 2
def fm(f:Nat):Nat:=if fcls f=2 then 4503599627370496+qlz f else if fcls f=1 then qlz f else 0
end Fly
end
section
namespace Fly
open Go
inductive SubL:Lo→Lo→Prop
 | nil {L:Lo}:SubL [] L
 | cons {L2 L:Lo} {t:Nat} {v:Value} (h:lk L t=some v) (r:SubL L2 L):SubL ((t,v)::L2) L
theorem SubL.get{L2 L:Lo}(h:SubL L2 L):∀t v,lk L2 t=some v→lk L t=some v:=by
 induction h with
 | nil=>intro t v h;simp[lk]at h
 | @cons L2 L t0 v0 h0 _ ih=>
  intro t v h;simp only[lk]at h;cases hb:Nat.beq t0 t with
  | true=>rw[hb]at h;have:=zd hb;subst this;simp at h;subst h;exact h0
  | false=>rw[hb]at h;exact ih t v h
section
variable {P:Program} {n:Nat} {X:Cx} {L:Lo} {V:qc} {G:Own} {K:List KI} {Q:Value→qc→Own→Prop}
variable {ty:TypeId} {pos:String} {af:Array Edge} {gd:Option (Nat×Bool)} {ds:Option Tmp}
theorem Knows.sub{L2:Lo}{a:Act}(h:Knows n L a)(hL:SubL L2 L):Knows n L2 a:=⟨h.defers,h.size,fun t v e=>h.get t v (hL.get t v e)⟩
theorem jC{c:Code}(I:Lo→qc→Own→Nat→Prop){m0:Nat}{L0:Lo}{G0:Own}(hL:SubL L0 L)(hG:G0.Sublist G)
 (h0:I L0 V G0 m0) (round:∀L' V' G' m,I L' V' G' m→WC P n X L' V' G' c (.lp (fun a w=>∃L2 V2 G2 m2,I L2 V2 G2 m2∧m2<m∧Knows n L2 a∧Holds X V2 G2 w)::K)) :
 WC P n X L V G (.loop c) K:=fun a w ha hw=>qg7 I h0 round a w (ha.sub hL) (hw.sublist hG)
theorem jb{I:Lo→qc→Own→Nat→Prop}{m m2:Nat}{L2:Lo}{G2:Own}(hL:SubL L2 L)(hG:G2.Sublist G)(hI:I L2 V G2 m2)(hm:m2<m) :
 WE P n X L V G .normal (.lp (fun a w=>∃L2 V2 G2 m2,I L2 V2 G2 m2∧m2<m∧Knows n L2 a∧Holds X V2 G2 w)::K) :=
 qlq fun _ _ ha hw=>⟨L2,V,G2,m2,hI,hm,ha.sub hL,hw.sublist hG⟩
def rd(V:qc)(b o:Nat)(c:Value):Prop:=∃arr e fr,V b=some (.cells arr e fr)∧arr[o]?=some c
theorem rd.mono{V V':qc}{b o:Nat}{c:Value}(h:rd V b o c)(hs:Sub V V'):rd V' b o c:=by
 obtain⟨arr,e,fr,h1,h2⟩:=h;exact⟨arr,e,fr,hs _ _ h1,h2⟩
theorem ym(T:Tabs P){t:TypeId}{x:Operand}{k b off:Nat}{v:Value}(ht:T.ty t=some (false,k))(hx:ev L x=some (.pointer (some ⟨b,off,none⟩)))(h:rd V b off v)(k':Q v V G):Opr P n X L V G ⟨ds,.load t x,ty,pos,af,gd⟩ Q:=by
 obtain⟨arr,e,fr,h1,h2⟩:=h;exact qd0 T ht hx (.seen h1) h2 k'
theorem yl(T:Tabs P){t:TypeId}{x:Operand}{k b off:Nat}{vs:List Value}(ht:T.ty t=some (true,k))(hx:ev L x=some (.pointer (some ⟨b,off,none⟩)))(hl:vs.length=k)(hk:0<k)(h:∀j v,vs[j]?=some v→rd V b (off+j) v)(k':Q (.agg vs.toArray) V G):Opr P n X L V G ⟨ds,.load t x,ty,pos,af,gd⟩ Q:=by
 obtain⟨v0,hv0⟩:∃v0,vs[0]?=some v0:=⟨vs[0]'(by omega),by simp[zA (show 0<vs.length by omega)]⟩
 obtain⟨arr,e,fr,h1,_⟩:=h 0 v0 hv0
 refine qfM T ht hx (.seen h1) hl (fun j v hj=>?_) k'
 obtain⟨arr',e',fr',h1',h2'⟩:=h j v hj;rw[h1]at h1';simp only[za,Obj.cells.injEq]at h1';rw[h1'.1];exact h2'
def Sl(k:Nat)(V:qc)(v:Value)(cs:List Value):Prop :=
 ∃a len cap,v = .slice a len cap∧len≤cap∧cap≤maxLen∧cs.length=len*k∧(len=0∨∃b off,a=some ⟨b,off,none⟩∧∀i c,cs[i]?=some c→rd V b (off+i) c)
theorem Sl.mono{k:Nat}{V V':qc}{v:Value}{cs:List Value}(h:Sl k V v cs)(hs:Sub V V'):Sl k V' v cs:=by
 obtain⟨a,len,cap,h1,h2,h3,h4,h5⟩:=h;refine⟨a,len,cap,h1,h2,h3,h4,h5.imp id ?_⟩
 rintro⟨b,off,h6,h7⟩
 exact⟨b,off,h6,fun i c hi=>(h7 i c hi).mono hs⟩
theorem Sl.nil(k:Nat)(V:qc):Sl k V (.slice none 0 0) []:=⟨none,0,0,rfl,zI _,by simp[maxLen],by simp,.inl rfl⟩
theorem qX(T:Tabs P){t e:TypeId}{k k2:Nat}{x:Operand}{v:Value}{cs:List Value}{ts:Array TypeId}(hx:ev L x=some v)(hS:Sl k2 V v cs)(ht:ts[0]?=some t)(hE:T.el t=some (e,k)){m:Nat}(hm:cs.length=m*k2)(hk:0<k2)
 (k':Q (.int .i64 (m:Int)) V G):Opr P n X L V G ⟨ds,.call { callee:=.builtin .len,args:=#[x],argTypes:=ts },ty,pos,af,gd⟩ Q:=by
 obtain⟨a,len,cap,rfl,_,_,h4,_⟩:=hS;have:len=m:=Nat.eq_of_mul_eq_mul_right hk (h4.symm.trans hm)
 subst this;exact jP T hx ht hE k'
theorem qv5(T:Tabs P){t e:TypeId}{x y:Operand}{k:Nat}{κ:IntKind}{j:Int}{v:Value}{cs:List Value}(hx:ev L x=some v)(hS:Sl k V v cs)(hy:ev L y=some (.int κ j))(hE:T.el t=some (e,k))
 (h0:0≤j) (h1:j.toNat*k<cs.length) (k':∀b off,(∀i c,cs[j.toNat*k+i]?=some c→rd V b (off+i) c)→Q (.pointer (some ⟨b,off,none⟩)) V G):Opr P n X L V G ⟨ds,.indexAddr t x y,ty,pos,af,gd⟩ Q:=by
 obtain⟨a,len,cap,rfl,_,_,h4,h5⟩:=hS;have hlt:j.toNat<len:=by
  rw[h4]at h1;exact VP h1
 rcases h5 with h5|⟨b,off,rfl,h7⟩
 · omega
 · exact qB T hx hy hE h0 (by omega) (k' b _ fun i c hi=>by rw[Kp];exact h7 _ c hi)
def Rel(P:Program)(f:FuncId)(args:List Value)(V:qc)(R:Value→qc→Prop):Prop :=
 ∀w,qaS V w→Qy P f args.toArray V w fun v' V' G'=>G'=[]∧R v' V'
theorem jW(T:Tabs P){f:Nat}{xs:List Operand}{vs:List Value}{R:Value→qc→Prop}{ts:Array TypeId}(hx:evs L xs=some vs)(hg:T.go f=true)(hc:Rel P f vs V R)(k:∀v V',Sub V V'→R v V'→Q v V' G) :
 Opr P n X L V G ⟨ds,.call { callee:=.value (.func f),args:=xs.toArray,argTypes:=ts },ty,pos,af,gd⟩ Q:=fun a ha w hw=>by
 refine .inr ⟨f,vs.toArray,w,?_,?_⟩
 · have hm:=Jm ha xs vs hx
   simp[execOp,resolve,Deferred.ofValue,Act.eval,invoke,qoI (T.go_ok f hg),hm]
 · refine(hc w hw.seen).mono ?_
   rintro e w' ⟨v,V',G',rfl,hh,rfl,hr⟩
   exact⟨v,V',G,rfl,k v V' hh.sub hr,by simpa using hw.call rfl rfl (fun _ h=>h) hh⟩
theorem Qq{f:FuncId}{fn:Func}{c:Code}{args:List Value}{R:Value→qc→Prop}(hf:P.funcs[f]?=some fn)(hb:fn.body=some c)(hn:fn.ntmps=n)(hle:Nat.ble args.length n=true)
 (h:∀(X:Cx) (w:World),X.M=(fun _=>False)→X.w0=w→X.V0=V→X.R=qfy P fn w V (fun v' V' G'=>G'=[]∧R v' V')→WC P n X (qZ 0 args) V [] c []):Rel P f args V R :=
 fun w hV=>enter hf hb hn hle hV fun X h1 h2 h3 h4=>h X w h1 h2 h3 h4
theorem qoQ{fn:Func}{w:World}{V0:qc}{R:Value→qc→Prop}(hM:X.M=(fun _=>False))(hw:X.w0=w)(hV:X.V0=V0)(hR:X.R=qfy P fn w V0 fun v' V' G'=>G'=[]∧R v' V'){u:Value}
 (hr:∀a w',Knows n L a→Holds X V G w'→(results fn a.tmps).run P w' = .ok u w') (he:R u V):∀e,(e = .ret∨e = .normal)→St n X L V G fun a w=>X.R e a w :=
 fin hM hw hV hR (G':=[]) (fun _ h=>h.drop) hr ⟨rfl,he⟩
theorem yS{fn:Func}{w:World}{V0:qc}{R:Value→qc→Prop}(hM:X.M=(fun _=>False))(hw:X.w0=w)(hV:X.V0=V0)(hR:X.R=qfy P fn w V0 fun v' V' G'=>G'=[]∧R v' V'){u:Value}
 (hr:∀a w',Knows n L a→Holds X V G w'→(results fn a.tmps).run P w' = .ok u w') (he:R u V):WE P n X L V G .ret K :=
 qg5 (qoQ hM hw hV hR hr he .ret (.inl rfl))
theorem qd9{c:Code}{p:Nat×Obj}(hM:X.M=fun _=>False)(h:V p.1=none→WC P n X L (addV V p.1 p.2) G c K):WC P n X L V (p::G) c K:=fun a w ha hw=>h (hw.free _ (zM ..)).2 a w ha hw.freeze
def ji(P:Program)(f:FuncId)(args:List Value)(V:qc)(v:Value):Prop:=Rel P f args V fun v' V'=>v'=v∧V'=V
theorem qA(T:Tabs P){f:Nat}{xs:List Operand}{vs:List Value}{v:Value}{ts:Array TypeId}(hx:evs L xs=some vs)(hg:T.go f=true)(hc:ji P f vs V v)(k:Q v V G) :
 Opr P n X L V G ⟨ds,.call { callee:=.value (.func f),args:=xs.toArray,argTypes:=ts },ty,pos,af,gd⟩ Q :=
 jW T hx hg hc (by rintro _ _ _ ⟨rfl,rfl⟩;exact k)
theorem qR{fn:Func}{w:World}{V0:qc}{v:Value}(hM:X.M=(fun _=>False))(hw:X.w0=w)(hV:X.V0=V0)(hR:X.R=qfy P fn w V0 fun v' V' G'=>G'=[]∧v'=v∧V'=V0){u:Value}
 (hr:∀a w',Knows n L a→Holds X V G w'→(results fn a.tmps).run P w' = .ok u w') (he:u=v):WE P n X L V G .ret K :=
 ZL hM hw hV (by rw[hR];congr 1;funext a b c;apply propext;constructor <;> (rintro⟨h1,h2,h3⟩;simp_all)) hr he
end
end Fly
end
section
namespace Fly
open Go
section
variable {P:Program} {n:Nat} {X:Cx} {L:Lo} {V:qc} {G:Own} {K:List KI} {Q:Value→qc→Own→Prop}
variable {ty:TypeId} {pos:String} {af:Array Edge} {gd:Option (Nat×Bool)} {ds:Option Tmp}
theorem qv6{x y:Operand}{κ:IntKind}{p q:Int}{ts:Array TypeId}(hx:ev L x=some (.int κ p))(hy:ev L y=some (.int κ q))(k:Q (.int κ (max p q)) V G) :
 Opr P n X L V G ⟨ds,.call { callee:=.builtin .max,args:=#[x,y],argTypes:=ts },ty,pos,af,gd⟩ Q:=by
 refine qP (fun a w ha=>?_) k
 have e:(if q > p then q else p)=max p q:=by rw[Int.max_def];split <;> split <;> omega
 simp[execOp,resolve,invoke,builtin,Builtin.max_,Builtin.max2,ha.ev hx,ha.ev hy,e]
theorem qhb{x y:Operand}{κ:IntKind}{p q:Int}{ts:Array TypeId}(hx:ev L x=some (.int κ p))(hy:ev L y=some (.int κ q))(k:Q (.int κ (min p q)) V G) :
 Opr P n X L V G ⟨ds,.call { callee:=.builtin .min,args:=#[x,y],argTypes:=ts },ty,pos,af,gd⟩ Q:=by
 refine qP (fun a w ha=>?_) k
 have e:(if q<p then q else p)=min p q:=by rw[Int.min_def];split <;> split <;> omega
 simp[execOp,resolve,invoke,builtin,Builtin.min_,Builtin.min2,ha.ev hx,ha.ev hy,e]
theorem qno{f:Nat}{xs:List Operand}{vs:List Value}{v:Value}{ts:Array TypeId}(hx:evs L xs=some vs)(h:∀w,(callFunc f vs.toArray).run P w = .ok (.value v) w)(k:Q v V G) :
 Opr P n X L V G ⟨ds,.call { callee:=.value (.func f),args:=xs.toArray,argTypes:=ts },ty,pos,af,gd⟩ Q:=by
 refine qP (fun a w ha=>?_) k
 have hm:=Jm ha xs vs hx;simp[execOp,resolve,Deferred.ofValue,Act.eval,invoke,hm,h w]
theorem qhc{t u:TypeId}{x y:Operand}{vx vy:Value}{b:Bool}(hx:ev L x=some vx)(hy:ev L y=some vy)(hb:binOp .eql t vx vy=do pure (.bool (← Op.equal t vx vy)))(hg:∀w,(eqGuard .eql t x y vx vy).run P w = .ok () w)
 (h:∀w,(Op.equal t vx vy).run P w = .ok b w) (k:Q (.bool b) V G):Opr P n X L V G ⟨ds,.binOp .eql t x y u,ty,pos,af,gd⟩ Q:=by
 refine qP (fun a w ha=>?_) k
 simp only[execOp,ha.ev hx,ha.ev hy,Sem.run_bind,hg,Result.andThen,hb,h,Sem.run_pure]
theorem qhd{t u:TypeId}{x y:Operand}{vx vy:Value}{b:Bool}(hx:ev L x=some vx)(hy:ev L y=some vy)(hb:binOp .neq t vx vy=do pure (.bool (!(← Op.equal t vx vy))))(hg:∀w,(eqGuard .neq t x y vx vy).run P w = .ok () w)
 (h:∀w,(Op.equal t vx vy).run P w = .ok b w) (k:Q (.bool (!b)) V G):Opr P n X L V G ⟨ds,.binOp .neq t x y u,ty,pos,af,gd⟩ Q:=by
 refine qP (fun a w ha=>?_) k
 simp only[execOp,ha.ev hx,ha.ev hy,Sem.run_bind,hg,Result.andThen,hb,h,Sem.run_pure]
theorem qfP{op:BinOp}{t:TypeId}{x y:Operand}{xs ys:Array Value}(hg:P.eqGuardType P.depth t=false)(w:World):(eqGuard op t x y (.agg xs) (.agg ys)).run P w = .ok () w:=by
 cases op <;> simp[eqGuard,hg]
theorem qv7{t u:TypeId}{x y:Operand}{xs ys:Array Value}{b:Bool}(hx:ev L x=some (.agg xs))(hy:ev L y=some (.agg ys))(hg:P.eqGuardType P.depth t=false)(h:∀w,(Op.equal t (.agg xs) (.agg ys)).run P w = .ok b w)(k:Q (.bool b) V G) :
 Opr P n X L V G ⟨ds,.binOp .eql t x y u,ty,pos,af,gd⟩ Q:=qhc hx hy rfl (qfP hg) h k
theorem qsP{t u:TypeId}{x y:Operand}{xs ys:Array Value}{b:Bool}(hx:ev L x=some (.agg xs))(hy:ev L y=some (.agg ys))(hg:P.eqGuardType P.depth t=false)(h:∀w,(Op.equal t (.agg xs) (.agg ys)).run P w = .ok b w)(k:Q (.bool (!b)) V G) :
 Opr P n X L V G ⟨ds,.binOp .neq t x y u,ty,pos,af,gd⟩ Q:=qhd hx hy rfl (qfP hg) h k
theorem qea{t:TypeId}{p q:Bool}(hu:P.underlying t=some .bool)(w:World):(Op.equal t (.bool p) (.bool q)).run P w = .ok (p == q) w:=by
 show(Op.equalIn (9999+1) t (.bool p) (.bool q)).run P w=_
 unfold Op.equalIn;rw[Sem.run_bind,run_underlying hu];rfl
theorem qoR{t u:TypeId}{x y:Operand}{p q:Bool}(hx:ev L x=some (.bool p))(hy:ev L y=some (.bool q))(hu:P.underlying t=some .bool)(k:Q (.bool (p == q)) V G) :
 Opr P n X L V G ⟨ds,.binOp .eql t x y u,ty,pos,af,gd⟩ Q:=qhc hx hy rfl (fun w=>by simp[eqGuard]) (qea hu) k
theorem qsQ{t u:TypeId}{x y:Operand}{p q:Bool}(hx:ev L x=some (.bool p))(hy:ev L y=some (.bool q))(hu:P.underlying t=some .bool)(k:Q (.bool (!(p == q))) V G) :
 Opr P n X L V G ⟨ds,.binOp .neq t x y u,ty,pos,af,gd⟩ Q:=qhd hx hy rfl (fun w=>by simp[eqGuard]) (qea hu) k
theorem qkn(a b:ByteArray):(a == b)=decide (a=b):=by
 cases a with|mk a=>cases b with|mk b=>
 show(a == b)=_
 by_cases h:a=b
 · subst h;simp
 · simp[h]
def qoS:TypeDesc→Value→Value→Option Bool
 | .bool,.bool a,.bool b=>some (a == b)
 | .int _,.int κ a,.int κ' b=>if κ=κ' then some (decide (a=b))else none
 | .string,.string a,.string b=>some (decide (a=b))
 | _,_,_=>none
def qaL:List TypeDesc→List Value→List Value→Option Bool
 | [],[],[]=>some true
 | t::ts,x::xs,y::ys=>match qoS t x y,qaL ts xs ys with
  | some a,some b=>some (a&&b)
  | _,_=>none
 | _,_,_=>none
theorem qnp{d:Nat}{t:TypeId}{u:TypeDesc}(hu:P.underlying t=some u){x y:Value}{b:Bool}(h:qoS u x y=some b)(w:World):(Op.equalIn (d+1) t x y).run P w = .ok b w:=by
 unfold Op.equalIn;rw[Sem.run_bind,run_underlying hu];simp only[Result.andThen];unfold qoS at h;split at h
 · simp only[za]at h;subst h;rfl
 · split at h
   · rename_i hk
     simp only[za]at h;subst h;subst hk;simp;rfl
   · cases h
 · rename_i a b
   simp only[za]at h;subst h;rw[← qkn];rfl
 · cases h
def qeb(P:Program):Nat→List Field→Option (List TypeDesc)
 | _,[]=>some []
 | k,f::fs=>if f.name != "_"&&f.offset == k then
  match Ty P f.type,P.underlying f.type,qeb P (k+1) fs with
  | some (false,_),some u,some us=>some (u::us)
  | _,_,_=>none
  else none
def qcs(P:Program)(t:TypeId):Option (List TypeDesc) :=
 if P.eqGuardType P.depth t||P.stoodInHeld t then none else
 match P.underlying t with
 | some (.struct fs)=>qeb P 0 fs.toList
 | _=>none
theorem qaM{d:Nat}{w:World}{xs ys:List Value}:∀(fs:List Field) (k:Nat) (us:List TypeDesc) (b:Bool),qeb P k fs=some us→qaL us (xs.drop k) (ys.drop k)=some b →
 (Op.eqFields (d+1) xs.toArray ys.toArray fs).run P w = .ok b w
 | [],k,us,b,hf,he=>by
  simp only[qeb,za]at hf;subst hf;have:b=true:=by
   cases hx:xs.drop k <;> cases hy:ys.drop k <;> rw[hx,hy]at he <;> simp[qaL]at he
   exact he
  subst this;rfl
 | f::fs,k,us,b,hf,he=>by
  simp only[qeb]at hf;split at hf
  · rename_i hn
    simp only[zp,bne_iff_ne,beq_iff_eq]at hn;obtain⟨hn,ho⟩:=hn;split at hf
    · rename_i kk u us' ht hu hr
      simp only[za]at hf;subst hf;cases hx:xs.drop k with
      | nil=>rw[hx]at he;simp[qaL]at he
      | cons x xr=>
       cases hy:ys.drop k with
       | nil=>rw[hx,hy]at he;simp[qaL]at he
       | cons y yr=>
        rw[hx,hy]at he;simp only[qaL]at he;split at he
        · rename_i a c h1 h2
          simp only[za]at he;subst he;have hxk:xs[k]?=some x:=by have:=congrArg List.head? hx;simpa[List.head?_drop]using this
          have hyk:ys[k]?=some y:=by have:=congrArg List.head? hy;simpa[List.head?_drop]using this
          have hxr:xs.drop (k+1)=xr:=by have:=congrArg List.tail hx;simpa[List.tail_drop]using this
          have hyr:ys.drop (k+1)=yr:=by have:=congrArg List.tail hy;simpa[List.tail_drop]using this
          have ih:=qaM (d:=d) (w:=w) (xs:=xs) (ys:=ys) fs (k+1) us' c hr (by rw[hxr,hyr];exact h2)
          have hp:∀(zs:List Value) (z:Value),zs[k]?=some z→(part f.type zs.toArray f.offset).run P w = .ok z w:=fun zs z hz=>by
           simp[part,(jK ht w).1,ho,hz]
          simp only[Op.eqFields,ne_eq,hn,not_false_eq_true,VG,Sem.run_bind,hp xs x hxk,hp ys y hyk,Result.andThen,qnp hu h1,Sem.run_ite,Sem.run_pure];cases a with
          | true=>simpa using ih
          | false=>simp
        · cases he
    · cases hf
  · cases hf
theorem Zc{t:TypeId}{us:List TypeDesc}{xs ys:List Value}{b:Bool}(hf:qcs P t=some us)(he:qaL us xs ys=some b):P.eqGuardType P.depth t=false∧∀w,(Op.equal t (.agg xs.toArray) (.agg ys.toArray)).run P w = .ok b w:=by
 unfold qcs at hf;split at hf
 · cases hf
 · rename_i hg
   simp only[VR,not_or,Bool.not_eq_true]at hg;split at hf
   · rename_i fs hu
     refine⟨hg.1,fun w=>?_⟩
     have h1:P.fieldsOf t=fs:=by simp[Program.fieldsOf,hu]
     have:=run_equalIn_struct (P:=P) w (9998+1) t xs.toArray ys.toArray (by rw[h1];exact hu) hg.2
     show(Op.equalIn (9998+1+1) t (.agg xs.toArray) (.agg ys.toArray)).run P w=_
     rw[this,h1];exact qaM fs.toList 0 us b hf (by simpa using he)
   · cases hf
theorem qv8{t u:TypeId}{x y:Operand}{us:List TypeDesc}{xs ys:List Value}{b:Bool}(hx:ev L x=some (.agg xs.toArray))(hy:ev L y=some (.agg ys.toArray))(hf:qcs P t=some us)(he:qaL us xs ys=some b)(k:Q (.bool b) V G) :
 Opr P n X L V G ⟨ds,.binOp .eql t x y u,ty,pos,af,gd⟩ Q:=qv7 hx hy (Zc hf he).1 (Zc hf he).2 k
theorem qsR{t u:TypeId}{x y:Operand}{us:List TypeDesc}{xs ys:List Value}{b:Bool}(hx:ev L x=some (.agg xs.toArray))(hy:ev L y=some (.agg ys.toArray))(hf:qcs P t=some us)(he:qaL us xs ys=some b)(k:Q (.bool (!b)) V G) :
 Opr P n X L V G ⟨ds,.binOp .neq t x y u,ty,pos,af,gd⟩ Q:=qsP hx hy (Zc hf he).1 (Zc hf he).2 k
theorem qnq{t:TypeId}{x y:Operand}{s:ByteArray}{κ:IntKind}{j:Int}{c:UInt8}(hx:ev L x=some (.string s))(hy:ev L y=some (.int κ j))(hu:P.underlying t=some .string)(h0:0≤j)(hc:s[j.toNat]?=some c)(k:Q (.int .u8 (c.toNat:Int)) V G) :
 Opr P n X L V G ⟨ds,.index t x y,ty,pos,af,gd⟩ Q :=
 qP (fun a w ha=>by simp[execOp,ha.ev hx,ha.ev hy,Instr.index,asIntOf,run_underlying hu,h0,hc]) k
end
end Fly
end
section
namespace Fly
open Go
def keys(G:Own):Nat→Prop:=fun r=>r∈G.map (·.1)
def jk(P:Program)(f:FuncId)(args:Array Value)(V:qc)(G0:Own)(Q:Value→qc→Own→Prop):Prop :=
 ∀w,qaS V w→(∀p∈G0,w.heap[p.1]?=some p.2)→(∀p∈G0,V p.1=none)→(G0.map (·.1)).Nodup →
  Calls P f args w fun e w'=>∃v V' G',e = .returned v∧Holds ⟨keys G0,w,V,fun _ _ _=>False⟩ V' G' w'∧Q v V' G'
theorem Holds.callg{X:Cx}{V:qc}{G0 G:Own}{w:World}(h:Holds X V (G0++G) w){Y:Cx}{V':qc}{G':Own}{w':World}
 (hw:Y.w0=w) (hV:Y.V0=V) (hM:Y.M=keys G0) (k:Holds Y V' G' w'):Holds X V' (G'++G) w':=by
 subst hw hV
 have hnd:=h.nodup;rw[Kr,VM]at hnd;have inG:∀p∈G,p∈G0++G:=fun p hp=>zS.2 (.inr hp)
 have apart:∀p∈G,¬Y.M p.1:=fun p hp hm=>by
  rw[hM]at hm;exact hnd.2.2 p.1 hm p.1 (KJ.2 ⟨p,hp,rfl⟩) rfl
 have given:∀r,Y.M r→∃o,(r,o)∈G0:=fun r hr=>by
  rw[hM]at hr;obtain⟨p,hp,e⟩:=KJ.1 hr;exact⟨p.2,by rw[← e];exact hp⟩
 refine⟨⟨k.ext.os.trans h.ext.os,k.ext.tape.trans h.ext.tape,k.ext.output.trans h.ext.output,KF h.ext.size k.ext.size,fun r hr hm=>?_⟩,k.view,fun p hp=>?_,fun p hp=>?_,?_,h.sub.trans k.sub,fun r h0 hr=>?_⟩
 · rw[k.ext.block r (Kv hr h.ext.size) (fun hy=>by
    obtain⟨o,ho⟩:=given r hy;rcases(h.free (r,o) (zS.2 (.inl ho))).1 with h1|h1
    · exact absurd hr (Nat.not_lt.2 h1)
    · exact hm h1)]
   exact h.ext.block r hr hm
 · rcases zS.1 hp with hp|hp
   · exact k.own p hp
   · rw[k.ext.block p.1 (h.lt (inG p hp)) (apart p hp)];exact h.own p (inG p hp)
 · rcases zS.1 hp with hp|hp
   · have:=k.free p hp
     refine⟨?_,this.2⟩
     rcases this.1 with h1|h1
     · exact .inl (KF h.ext.size h1)
     · obtain⟨o,ho⟩:=given _ h1
       exact(h.free (p.1,o) (zS.2 (.inl ho))).1
   · have h1:=h.free p (inG p hp)
     refine⟨h1.1,?_⟩
     cases e:V' p.1 with
     | none=>rfl
     | some u=>exact absurd (k.newer p.1 h1.2 (by simp[e])) (by
      have:=h.lt (inG p hp)
      rintro(h2|h2)
      · omega
      · exact apart p hp h2)
 · rw[Kr,VM]
   refine⟨k.nodup,hnd.2.1,fun a ha b hb e=>?_⟩
   obtain⟨p,hp,rfl⟩:=KJ.1 ha;obtain⟨q,hq,rfl⟩:=KJ.1 hb;rcases(k.free p hp).1 with h1|h1
   · have h2:=h.lt (inG q hq)
     omega
   · rw[e]at h1;exact apart q hq h1
 · by_cases e:Y.V0 r=none
   · rcases k.newer r e hr with h2|h2
     · exact .inl (KF h.ext.size h2)
     · obtain⟨o,ho⟩:=given _ h2
       exact(h.free (r,o) (zS.2 (.inl ho))).1
   · exact h.newer r h0 e
def fing(P:Program)(fn:Func)(w:World)(V:qc)(G0:Own)(Q:Value→qc→Own→Prop):Exit→Act→World→Prop :=
 bodyPost P fn fun e w'=>∃v V' G',e = .returned v∧Holds ⟨keys G0,w,V,fun _ _ _=>False⟩ V' G' w'∧Q v V' G'
section
variable {P:Program} {n:Nat} {X:Cx} {L:Lo} {V:qc} {G:Own} {K:List KI} {Q:Value→qc→Own→Prop}
variable {ty:TypeId} {pos:String} {af:Array Edge} {gd:Option (Nat×Bool)} {ds:Option Tmp}
theorem qH{f:FuncId}{fn:Func}{c:Code}{args:List Value}{n:Nat}{G0:Own}
 (hf:P.funcs[f]?=some fn) (hb:fn.body=some c) (hn:fn.ntmps=n) (hle:Nat.ble args.length n=true)
 (h:∀(X:Cx) (w:World),X.M=keys G0→(∀r,X.M r→r<X.w0.heap.size)→X.w0=w→X.V0=V→X.R=fing P fn w V G0 Q→WC P n X (qZ 0 args) V G0 c []):jk P f args.toArray V G0 Q:=by
 intro w hV hG hVn hnd;refine calls_of_wp hf hb ?_
 have h1:=h ⟨keys G0,w,V,fing P fn w V G0 Q⟩ w rfl (fun r hr=>by
  obtain⟨p,hp,e⟩:=KJ.1 hr;have:=(zX.1 (hG p hp)).1
  rw[← e];exact this) rfl rfl rfl
 refine h1 _ w ⟨rfl,?_,fun t v ht=>?_⟩ ⟨Ext.refl _ _,hV,hG,fun p hp=>⟨.inr (KJ.2 ⟨p,hp,rfl⟩),hVn p hp⟩,hnd,Sub.refl _,fun r h0 hr=>absurd h0 hr⟩
 · have:args.length≤n:=zx hle
   simp[hn];omega
 · have:=(qah args 0 t v ht).2
   simp only[Vz]at this;have hlt:t<args.length:=(zu.1 this).1
   rw[Vr (by simpa using hlt)];simpa using this
theorem qfQ{fn:Func}{w:World}{V0:qc}{G0:Own}(hM:X.M=keys G0)(hw:X.w0=w)(hV:X.V0=V0)(hR:X.R=fing P fn w V0 G0 Q){v:Value}{G':Own}
 (hG:∀w',Holds X V G w'→Holds X V G' w') (hv:∀a w',Knows n L a→Holds X V G w'→(results fn a.tmps).run P w' = .ok v w') (hQ:Q v V G') :
 ∀e,(e = .ret∨e = .normal)→St n X L V G fun a w=>X.R e a w:=by
 intro e he a w' ha hw';rw[hR];have h1:=hG w' hw';have hk:Holds ⟨keys G0,w,V0,fun _ _ _=>False⟩ V G' w':=by
  obtain⟨M,w0,VV,RR⟩:=X;simp only at hM hw hV;subst hM hw hV
  exact⟨h1.ext,h1.view,h1.own,h1.free,h1.nodup,h1.sub,h1.newer⟩
 rcases he with rfl|rfl <;> exact⟨ha.defers,v,hv a w' ha hw',v,V,G',rfl,hk,hQ⟩
theorem QQ{fn:Func}{w:World}{V0:qc}{G0:Own}(hM:X.M=keys G0)(hw:X.w0=w)(hV:X.V0=V0)(hR:X.R=fing P fn w V0 G0 Q){v:Value}(G':Own)
 (hG:G'.Sublist G) (hv:∀a w',Knows n L a→Holds X V G w'→(results fn a.tmps).run P w' = .ok v w') (hQ:Q v V G'):WE P n X L V G .ret K :=
 qg5 (qfQ hM hw hV hR (fun _ h=>h.sublist hG) hv hQ .ret (.inl rfl))
theorem je{fn:Func}{w:World}{V0:qc}{G0:Own}(hM:X.M=keys G0)(hw:X.w0=w)(hV:X.V0=V0)(hR:X.R=fing P fn w V0 G0 Q){v:Value}(G':Own)
 (hG:G'.Sublist G) (hv:∀a w',Knows n L a→Holds X V G w'→(results fn a.tmps).run P w' = .ok v w') (hQ:Q v V G'):WE P n X L V G .normal [] :=
 qdV (qfQ hM hw hV hR (fun _ h=>h.sublist hG) hv hQ .normal (.inr rfl))
theorem qsS{c:Code}{G':Own}(hp:G.Perm G')(h:WC P n X L V G' c K):WC P n X L V G c K:=fun a w ha hw=>h a w ha (hw.perm hp)
theorem jF{all:Array Oper}{ops:List Oper}{G':Own}(hp:G.Perm G')(h:WR P n X L V G' all ops K):WR P n X L V G all ops K:=fun a w ha hw=>h a w ha (hw.perm hp)
theorem qlA{e:Exit}{G':Own}(hp:G.Perm G')(h:WE P n X L V G' e K):WE P n X L V G e K:=fun a w ha hw=>h a w ha (hw.perm hp)
theorem qr(T:Tabs P){f:Nat}{c:Operand}{first cap:List Value}{xs:List Operand}{vs:List Value}{ts:Array TypeId}{G0 G1:Own}{R:Value→qc→Own→Prop}
 (hc:ev L c=some (.func (.func f) first.toArray cap.toArray)) (hx:evs L xs=some vs) (hg:T.go f=true)
 (hF:jk P f (first++vs++cap).toArray V G0 R) (hp:G.Perm (G0++G1)) (k:∀v V' G',Sub V V'→R v V' G'→Q v V' (G'++G1)) :
 Opr P n X L V G ⟨ds,.call { callee:=.value c,args:=xs.toArray,argTypes:=ts },ty,pos,af,gd⟩ Q:=fun a ha w hw=>by
 have hq:=hw.perm hp;refine .inr ⟨f,(first++vs++cap).toArray,w,?_,?_⟩
 · have hm:=Jm ha xs vs hx
   simp[execOp,resolve,Deferred.ofValue,ha.ev hc,invoke,qoI (T.go_ok f hg),hm]
 · have hnd:=hq.nodup
   rw[Kr,VM]at hnd;refine(hF w hw.seen (fun p hp=>hq.own p (zS.2 (.inl hp))) (fun p hp=>(hq.free p (zS.2 (.inl hp))).2) hnd.1).mono ?_
   rintro e w' ⟨v,V',G',rfl,hh,hr⟩
   exact⟨v,V',G'++G1,rfl,k v V' G' hh.sub hr,hq.callg rfl rfl rfl hh⟩
theorem Rel.fing{f:FuncId}{args:List Value}{R:Value→qc→Prop}(h:Rel P f args V R):jk P f args.toArray V [] fun v V' G'=>G'=[]∧R v V':=by
 intro w hs _ _ _;refine(h w hs).mono ?_
 rintro e w' ⟨v,V',G',rfl,hh,hr⟩
 refine⟨v,V',G',rfl,⟨⟨hh.ext.os,hh.ext.tape,hh.ext.output,hh.ext.size,fun k hk _=>hh.ext.block k hk (fun h=>h)⟩,hh.view,hh.own,fun p hp=>⟨.inl ((hh.free p hp).1.resolve_right (fun h=>h)),(hh.free p hp).2⟩,hh.nodup,hh.sub,fun r h0 h1=>.inl ((hh.newer r h0 h1).resolve_right (fun h=>h))⟩,hr⟩
end
end Fly
end
