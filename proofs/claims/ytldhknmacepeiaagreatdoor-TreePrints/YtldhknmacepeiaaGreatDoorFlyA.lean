/-
  A logic of walks. No condition.
-/
import Derived.Test.YtldhknmacepeiaaGreatDoorAb
import Derived.Calls
import Derived.Tactics
import Derived.Orders
import Derived.Below
import Derived.Laws.Cells
import Derived.Laws.Rows
import Derived.Laws.Bits64
import Derived.Laws.BitsLemmas
set_option linter.unusedVariables false
set_option linter.unusedSimpArgs false
section
namespace Fly
open Go
abbrev qc:=Nat→Option Obj
abbrev Own:=List (Nat×Obj)
abbrev Lo:=List (Nat×Value)
structure Ext (M:Nat→Prop) (w0 w:World):Prop where
 os:w.os=w0.os
 tape:w.tape=w0.tape
 output:w.output=w0.output
 size:w0.heap.size≤w.heap.size
 block:∀k,k<w0.heap.size→¬M k→w.heap[k]?=w0.heap[k]?
theorem Ext.refl(M)(w:World):Ext M w w:=⟨rfl,rfl,rfl,zI _,fun _ _ _=>rfl⟩
theorem Ext.trans{M}{a b c:World}(h:Ext M a b)(k:Ext M b c):Ext M a c :=
 ⟨k.os.trans h.os,k.tape.trans h.tape,k.output.trans h.output,KF h.size k.size,
  fun i hi hm=>(k.block i (Kv hi h.size) hm).trans (h.block i hi hm)⟩
theorem Ext.below{w0 w:World}(h:Ext (fun _=>False) w0 w):Go.RowKit.Below w0.heap.size w0 w :=
 ⟨h.os,h.tape,h.output,h.size,fun k hk=>h.block k hk (fun h=>h)⟩
structure Cx where
 M:Nat→Prop
 w0:World
 V0:qc
 R:Exit→Act→World→Prop
def Sub(V V':qc):Prop:=∀r o,V r=some o→V' r=some o
theorem Sub.refl(V):Sub V V:=fun _ _ h=>h
theorem Sub.trans{A B C:qc}(h:Sub A B)(k:Sub B C):Sub A C:=fun r o x=>k r o (h r o x)
structure Holds (X:Cx) (V:qc) (G:Own) (w:World):Prop where
 ext:Ext X.M X.w0 w
 view:∀r o,V r=some o→w.heap[r]?=some o
 own:∀p∈G,w.heap[p.1]?=some p.2
 free:∀p∈G,(X.w0.heap.size≤p.1∨X.M p.1)∧V p.1=none
 nodup:(G.map (·.1)).Nodup
 sub:Sub X.V0 V
 newer:∀r,X.V0 r=none→V r≠none→X.w0.heap.size≤r∨X.M r
def lk:Lo→Nat→Option Value
 | [],_=>none
 | (k,v)::l,t=>bif Nat.beq k t then some v else lk l t
def ev(L:Lo):Operand→Option Value
 | .tmp t=>lk L t
 | .const v=>some v
 | .global g=>some (.pointer (some ⟨g,0,none⟩))
 | .func f=>some (.func (.func f) #[] #[])
structure Knows (n:Nat) (L:Lo) (a:Act):Prop where
 defers:a.defers=[]
 size:a.tmps.size=n
 get:∀t v,lk L t=some v→a.tmps[t]?=some v
theorem Knows.ev{n:Nat}{L:Lo}{a:Act}(h:Knows n L a){x:Operand}{v:Value}(hx:ev L x=some v):a.eval x=v:=by
 cases x with
 | tmp t=>simp only[Fly.ev]at hx;simp[Act.eval,h.get t v hx]
 | const c=>simp only[Fly.ev,za]at hx;exact hx
 | global g=>simp only[Fly.ev,za]at hx;exact hx
 | func f=>simp only[Fly.ev,za]at hx;exact hx
def okd(n:Nat):Option Tmp→Bool
 | none=>true
 | some d=>Nat.blt d n
def qdT(d:Option Tmp)(v:Value)(L:Lo):Lo :=
 match d with
 | none=>L
 | some d=>(d,v)::L
theorem Knows.put{n:Nat}{L:Lo}{a:Act}(h:Knows n L a){d:Option Tmp}(hd:okd n d=true)(v:Value):Knows n (qdT d v L) (a.put d v):=by
 cases d with
 | none=>exact h
 | some d=>
  have hd':d<n:=by simpa[okd]using hd
  refine⟨h.defers,by simp[Act.put,h.size],fun t u ht=>?_⟩
  simp only[qdT,lk]at ht;by_cases e:d=t
  · subst e
    simp at ht;subst ht;have:d<a.tmps.size:=by rw[h.size];exact hd'
    simp[Act.put,this]
  · have:Nat.beq d t=false:=by
     cases hb:Nat.beq d t with
     | false=>rfl
     | true=>exact absurd (zd hb) e
    rw[this]at ht;simp only[zo]at ht;simp[Act.put,KO e,h.get t u ht]
inductive KI where
 | code (c:Code)
 | blk (id:Nat)
 | lp (J:Act→World→Prop)
def Qp(P:Program)(R:Exit→Act→World→Prop):List KI→Exit→Act→World→Prop
 | [],e,a,w=>R e a w
 | .code c::K,.normal,a,w=>c.wp P (Qp P R K) a w
 | .code _::K,e,a,w=>Qp P R K e a w
 | .blk _::K,.normal,a,w=>Qp P R K .normal a w
 | .blk id::K,.exit id',a,w=>if id'=id then Qp P R K .normal a w else Qp P R K (.exit id') a w
 | .blk _::K,e,a,w=>Qp P R K e a w
 | .lp J::_,.normal,a,w=>J a w
 | .lp _::K,e,a,w=>Qp P R K e a w
def St(n:Nat)(X:Cx)(L:Lo)(V:qc)(G:Own)(F:Act→World→Prop):Prop :=
 ∀a w,Knows n L a→Holds X V G w→F a w
def WC(P:Program)(n:Nat)(X:Cx)(L:Lo)(V:qc)(G:Own)(c:Code)(K:List KI):Prop :=
 St n X L V G fun a w=>c.wp P (Qp P X.R K) a w
def WE(P:Program)(n:Nat)(X:Cx)(L:Lo)(V:qc)(G:Own)(e:Exit)(K:List KI):Prop :=
 St n X L V G fun a w=>Qp P X.R K e a w
def WR(P:Program)(n:Nat)(X:Cx)(L:Lo)(V:qc)(G:Own)(all:Array Oper)(ops:List Oper)(K:List KI):Prop :=
 St n X L V G fun a w=>wpList P all (Qp P X.R K) ops a w
section
variable {P:Program} {n:Nat} {X:Cx} {L:Lo} {V:qc} {G:Own} {K:List KI}
theorem qdU{y:Code}:∀(e:Exit) (a:Act) (w:World),Qp P X.R (.code y::K) e a w→Exit.then (y.wp P (Qp P X.R K)) (Qp P X.R K) e a w:=by
 intro e a w h;cases e <;> simpa[Exit.then,Qp]using h
theorem qq{x y:Code}(h:WC P n X L V G x (.code y::K)):WC P n X L V G (.seq x y) K :=
 fun a w ha hw=>wp_seq (Code.wp_mono (fun e a w q=>qdU e a w q) (h a w ha hw))
theorem qt{id:Nat}{c:Code}(h:WC P n X L V G c (.blk id::K)):WC P n X L V G (.block id c) K :=
 fun a w ha hw=>wp_block (Code.wp_mono (fun e a w q=>by
  cases e <;> simp only[Exit.inBlock,Qp]at q ⊢ <;> exact q) (h a w ha hw))
theorem qF(h:WE P n X L V G .normal K):WC P n X L V G .skip K:=fun a w ha hw=>wp_skip (h a w ha hw)
theorem jh{id:Nat}(h:WE P n X L V G (.exit id) K):WC P n X L V G (.exit id) K:=fun a w ha hw=>wp_exit (h a w ha hw)
theorem qO(h:WE P n X L V G .ret K):WC P n X L V G .ret K:=fun a w ha hw=>wp_ret (h a w ha hw)
theorem qag{c:Operand}{x y:Code}{t:Bool}(hc:ev L c=some (.bool t))(ht:t=true→WC P n X L V G x K)(hf:t=false→WC P n X L V G y K) :
 WC P n X L V G (.cond c x y) K:=fun a w ha hw=>wp_cond_split (ha.ev hc) (fun e=>ht e a w ha hw) (fun e=>hf e a w ha hw)
theorem qE{c:Operand}{x y:Code}(hc:ev L c=some (.bool true))(h:WC P n X L V G x K):WC P n X L V G (.cond c x y) K :=
 qag hc (fun _=>h) (fun e=>nomatch e)
theorem qz{c:Operand}{x y:Code}(hc:ev L c=some (.bool false))(h:WC P n X L V G y K):WC P n X L V G (.cond c x y) K :=
 qag hc (fun e=>nomatch e) (fun _=>h)
theorem qa{id:Nat}{l:List Oper}(h:WR P n X L V G l.toArray l K):WC P n X L V G (.region id l.toArray false) K :=
 fun a w ha hw=>wp_region_lit (h a w ha hw)
theorem qe{c:Code}(h:WC P n X L V G c K):WE P n X L V G .normal (.code c::K):=fun a w ha hw=>h a w ha hw
theorem qS{id:Nat}(h:WE P n X L V G .normal K):WE P n X L V G .normal (.blk id::K):=fun a w ha hw=>h a w ha hw
theorem qlq{J:Act→World→Prop}(h:St n X L V G J):WE P n X L V G .normal (.lp J::K):=fun a w ha hw=>h a w ha hw
theorem qG{id:Nat}{c:Code}(h:WE P n X L V G (.exit id) K):WE P n X L V G (.exit id) (.code c::K):=fun a w ha hw=>h a w ha hw
theorem qI{id:Nat}{J:Act→World→Prop}(h:WE P n X L V G (.exit id) K):WE P n X L V G (.exit id) (.lp J::K):=fun a w ha hw=>h a w ha hw
theorem qD{id:Nat}(h:WE P n X L V G .normal K):WE P n X L V G (.exit id) (.blk id::K):=fun a w ha hw=>by
 simp only[Qp,VG];exact h a w ha hw
theorem qka{id id':Nat}(hne:Nat.beq id id'=false)(h:WE P n X L V G (.exit id) K):WE P n X L V G (.exit id) (.blk id'::K):=fun a w ha hw=>by
 have : ¬id=id':=fun e=>by subst e;simp at hne
 simp only[Qp,zQ this];exact h a w ha hw
theorem qbp:∀(K:List KI) (a:Act) (w:World),X.R .ret a w→Qp P X.R K .ret a w
 | [],_,_,h=>h
 | .code _::K,a,w,h=>qbp K a w h
 | .blk _::K,a,w,h=>qbp K a w h
 | .lp _::K,a,w,h=>qbp K a w h
theorem qg5(h:St n X L V G fun a w=>X.R .ret a w):WE P n X L V G .ret K:=fun a w ha hw=>qbp K a w (h a w ha hw)
theorem qdV(h:St n X L V G fun a w=>X.R .normal a w):WE P n X L V G .normal []:=fun a w ha hw=>h a w ha hw
def Qg(P:Program)(X:Cx)(V:qc)(G:Own)(s:Sem Next)(Q:Value→qc→Own→Prop):Prop :=
 ∀w,Holds X V G w →
  (∃v w' V' G',(s.run P w = .ok (.value v) w'∨(s.run P w = .ok .skip w'∧v=undef))∧Q v V' G'∧Holds X V' G' w') ∨
  (∃f args w',s.run P w = .ok (.enter f args) w'∧Calls P f args w' fun e w''=>∃v V' G',e = .returned v∧Q v V' G'∧Holds X V' G' w'')
def Opr(P:Program)(n:Nat)(X:Cx)(L:Lo)(V:qc)(G:Own)(o:Oper)(Q:Value→qc→Own→Prop):Prop :=
 ∀a,Knows n L a→Qg P X V G (execOp a.eval o) Q
theorem qo{all:Array Oper}(h:WE P n X L V G .normal K):WR P n X L V G all [] K:=fun a w ha hw=>h a w ha hw
theorem Qg.wp{o:Oper}{a:Act}{s:Sem Next}{Q:Value→qc→Own→Prop}{w:World}{N:Act→World→Prop}{E:Exit→Act→World→Prop}
 (hs:execOp a.eval o=s) (h:Qg P X V G s Q) (hw:Holds X V G w)
 (hN:∀v V' G' w',Q v V' G'→Holds X V' G' w'→N (a.put o.dst v) w'):o.wp P a w N E:=by
 unfold Oper.wp;rw[hs];rcases h w hw with⟨v,w',V',G',hr,hq,hh⟩|⟨f,args,w',hr,hc⟩
 · rcases hr with hr|⟨hr,rfl⟩
   · rw[hr];exact hN v V' G' w' hq hh
   · rw[hr];exact hN _ V' G' w' hq hh
 · rw[hr]
   refine hc.mono ?_
   rintro e w'' ⟨v,V',G',rfl,hq,hh⟩
   exact hN v V' G' w'' hq hh
theorem qg6{all:Array Oper}{o:Oper}{ops:List Oper}(hg:o.guard=none)(hd:okd n o.dst=true)
 (h:Opr P n X L V G o fun v V' G'=>WR P n X (qdT o.dst v L) V' G' all ops K):WR P n X L V G all (o::ops) K:=by
 intro a w ha hw;refine wpList_plain hg fun K' hK'=>?_
 exact Qg.wp rfl (h a ha) hw fun v V' G' w' hq hh=>hK' _ _ (hq _ _ (ha.put hd v) hh)
theorem qoE{all:Array Oper}{o:Oper}{ops:List Oper}{j:Nat}{b:Bool}{d:Nat}(hg:o.guard=some (j,b))(hj:(all[j]?).bind (·.dst)=some d)(hb:lk L d=some (.bool b))
 (hd:okd n o.dst=true) (h:Opr P n X L V G o fun v V' G'=>WR P n X (qdT o.dst v L) V' G' all ops K):WR P n X L V G all (o::ops) K:=by
 intro a w ha hw;have hw':Region.wanted o (yielded all a.tmps)=true:=by
  simp[Region.wanted,hg,yielded,hj,ha.get d _ hb]
 refine wpList_step fun K' hK'=>?_
 rw[z6 hw'];exact Qg.wp rfl (h a ha) hw fun v V' G' w' hq hh=>hK' _ _ (hq _ _ (ha.put hd v) hh)
theorem qu9{all:Array Oper}{o:Oper}{ops:List Oper}{j:Nat}{b:Bool}{d:Nat}(hg:o.guard=some (j,b))(hj:(all[j]?).bind (·.dst)=some d)(hb:lk L d=some (.bool !b))
 (hd:okd n o.dst=true) (h:WR P n X (qdT o.dst undef L) V G all ops K):WR P n X L V G all (o::ops) K:=by
 intro a w ha hw;have hw':Region.wanted o (yielded all a.tmps)=false:=by
  simp[Region.wanted,hg,yielded,hj,ha.get d _ hb]
 refine wpList_step fun K' hK'=>?_
 rw[zQ (by simp[hw'])];exact hK' _ _ (h _ _ (ha.put hd undef) hw)
theorem qg7{c:Code}(I:Lo→qc→Own→Nat→Prop){m0:Nat}
 (h0:I L V G m0) (round:∀L' V' G' m,I L' V' G' m→WC P n X L' V' G' c (.lp (fun a w=>∃L2 V2 G2 m2,I L2 V2 G2 m2∧m2<m∧Knows n L2 a∧Holds X V2 G2 w)::K)) :
 WC P n X L V G (.loop c) K:=by
 intro a w ha hw b k cs;have key:∀m L V G,I L V G m→∀a w,Knows n L a→Holds X V G w →
  ∃e a' w',Qp P X.R K e a' w'∧Arrives P (lone (b.at a (.code c::.inLoop c::k)) cs w) b k cs e a' w':=by
  intro m;induction m using Nat.strongRecOn with
  | _ m ih=>
   intro L V G hI a w ha hw;obtain⟨e,a₁,w₁,hq,harr⟩:=round L V G m hI a w ha hw b (.inLoop c::k) cs
   cases e with
   | normal=>
    simp only[Qp]at hq;obtain⟨L2,V2,G2,m2,hI2,hlt,ha2,hw2⟩:=hq;obtain⟨e₂,a₂,w₂,hq₂,harr₂⟩:=ih m2 hlt L2 V2 G2 hI2 a₁ w₁ ha2 hw2;exact⟨e₂,a₂,w₂,hq₂,.of_steps (Steps.trans harr (.one step_inLoop)) harr₂⟩
   | exit id=>exact⟨_,a₁,w₁,hq,.pass (x:=.inLoop c) rfl (fun _ _=>.inl (by simp)) harr⟩
   | goto l=>exact⟨_,a₁,w₁,hq,.pass (x:=.inLoop c) rfl (fun _ _=>.inl (by simp)) harr⟩
   | ret=>exact⟨_,a₁,w₁,hq,.pass (x:=.inLoop c) rfl (fun _ _=>.inl (by simp)) harr⟩
   | panic ch=>exact⟨_,a₁,w₁,hq,.pass (x:=.inLoop c) rfl (fun _ _=>.inl (by simp)) harr⟩
   | outgrown=>exact⟨_,a₁,w₁,hq,.pass (x:=.inLoop c) rfl (fun _ _=>.inl (by simp)) harr⟩
 obtain⟨e,a',w',hq,harr⟩:=key m0 L V G h0 a w ha hw;exact⟨e,a',w',hq,.of_steps (.one step_loop) harr⟩
end
end Fly
end
section
namespace Fly
open Go
theorem Holds.drop{X:Cx}{V:qc}{G:Own}{w:World}(h:Holds X V G w):Holds X V [] w :=
 ⟨h.ext,h.view,fun _ hp=>(by cases hp),fun _ hp=>(by cases hp),VN,h.sub,h.newer⟩
theorem Holds.lt{X:Cx}{V:qc}{G:Own}{w:World}(h:Holds X V G w){p:Nat×Obj}(hp:p∈G):p.1<w.heap.size :=
 (zX.1 (h.own p hp)).1
theorem Holds.vlt{X:Cx}{V:qc}{G:Own}{w:World}(h:Holds X V G w){r:Nat}(hr:V r≠none):r<w.heap.size:=by
 cases e:V r with
 | none=>exact absurd e hr
 | some o=>exact(zX.1 (h.view r o e)).1
theorem YE(w:World)(o:Obj){k:Nat}(h:k<w.heap.size):(w.heap.push o)[k]?=w.heap[k]?:=by
 rw[Array.getElem?_push,zQ (by omega)]
theorem Holds.alloc{X:Cx}{V:qc}{G:Own}{w:World}(h:Holds X V G w)(o:Obj):Holds X V ((w.heap.size,o)::G) { w with heap:=w.heap.push o }:=by
 refine⟨⟨h.ext.os,h.ext.tape,h.ext.output,by have:=h.ext.size;simp;omega,fun k hk hm=>?_⟩,fun r u hr=>?_,?_,?_,?_,h.sub,h.newer⟩
 · have:=h.ext.size
   show(w.heap.push o)[k]?=_
   rw[YE _ _ (by omega)];exact h.ext.block k hk hm
 · show(w.heap.push o)[r]?=_
   rw[YE _ _ (h.vlt (by simp[hr]))];exact h.view r u hr
 · intro p hp
   rcases zK.1 hp with rfl|hp
   · simp
   · show(w.heap.push o)[p.1]?=_
     rw[YE _ _ (h.lt hp)];exact h.own p hp
 · intro p hp
   rcases zK.1 hp with rfl|hp
   · refine⟨.inl h.ext.size,?_⟩
     cases e:V w.heap.size with
     | none=>rfl
     | some u=>exact absurd (h.vlt (r:=w.heap.size) (by simp[e])) (by omega)
   · exact h.free p hp
 · simp only[KH,Vn]
   refine⟨fun hm=>?_,h.nodup⟩
   obtain⟨p,hp,e⟩:=KJ.1 hm;have:=h.lt hp
   omega
def addV(V:qc)(b:Nat)(o:Obj):qc:=fun r=>if r=b then some o else V r
theorem Sub.addV{V:qc}{b:Nat}{o:Obj}(h:V b=none):Sub V (addV V b o):=fun r u hr=>by
 unfold Fly.addV;by_cases e:r=b
 · subst e;rw[h]at hr;cases hr
 · rw[zQ e];exact hr
@[simp] theorem addV_same (V:qc) (b:Nat) (o:Obj):addV V b o b=some o:=by simp[addV]
theorem Holds.freeze{X:Cx}{V:qc}{G:Own}{w:World}{b:Nat}{o:Obj}(h:Holds X V ((b,o)::G) w):Holds X (addV V b o) G w:=by
 have hv:=(h.free _ (zM ..)).2
 have hn:=Vn.1 h.nodup;refine⟨h.ext,fun r u hr=>?_,fun p hp=>h.own p (zE _ hp),fun p hp=>?_,hn.2,h.sub.trans (Sub.addV hv),fun r h0 hr=>?_⟩
 · unfold addV at hr
   by_cases e:r=b
   · rw[z6 e]at hr;cases hr;subst e;exact h.own (r,o) (zM ..)
   · rw[zQ e]at hr;exact h.view r u hr
 · have h1:=h.free p (zE _ hp)
   refine⟨h1.1,?_⟩
   unfold addV;rw[zQ];exact h1.2;intro e;exact hn.1 (KJ.2 ⟨p,hp,e⟩)
 · unfold addV at hr
   by_cases e:r=b
   · subst e;exact(h.free _ (zM ..)).1
   · rw[zQ e]at hr;exact h.newer r h0 hr
inductive Has:Own→Nat→Obj→Prop
 | here {G:Own} {b:Nat} {o:Obj}:Has ((b,o)::G) b o
 | there {G:Own} {b:Nat} {o:Obj} {p:Nat×Obj} (h:Has G b o):Has (p::G) b o
theorem Has.mem{G:Own}{b:Nat}{o:Obj}(h:Has G b o):(b,o)∈G:=by
 induction h with
 | here=>exact zM ..
 | there _ ih=>exact zE _ ih
inductive Upd:Own→Nat→Obj→Obj→Own→Prop
 | here {G:Own} {b:Nat} {o o':Obj}:Upd ((b,o)::G) b o o' ((b,o')::G)
 | there {G G':Own} {b:Nat} {o o':Obj} {p:Nat×Obj} (h:Upd G b o o' G'):Upd (p::G) b o o' (p::G')
theorem Upd.has{G G':Own}{b:Nat}{o o':Obj}(h:Upd G b o o' G'):Has G b o:=by
 induction h with
 | here=>exact .here
 | there _ ih=>exact .there ih
theorem Upd.keys{G G':Own}{b:Nat}{o o':Obj}(h:Upd G b o o' G'):G'.map (·.1)=G.map (·.1):=by
 induction h with
 | here=>rfl
 | there _ ih=>simp[ih]
theorem Upd.mem{G G':Own}{b:Nat}{o o':Obj}(h:Upd G b o o' G'){p:Nat×Obj}(hn:(G.map (·.1)).Nodup)(hp:p∈G'):p=(b,o')∨(p∈G∧p.1≠b):=by
 induction h with
 | here=>
  rcases zK.1 hp with rfl|hp
  · exact .inl rfl
  · exact .inr ⟨zE _ hp,fun e=>(Vn.1 hn).1 (KJ.2 ⟨p,hp,e⟩)⟩
 | there h ih=>
  rcases zK.1 hp with rfl|hp
  · exact .inr ⟨zM ..,fun e=>(Vn.1 hn).1 (KJ.2 ⟨_,h.has.mem,e.symm⟩)⟩
  · rcases ih (Vn.1 hn).2 hp with h|h
    · exact .inl h
    · exact .inr ⟨zE _ h.1,h.2⟩
theorem Holds.upd{X:Cx}{V:qc}{G G':Own}{w:World}{b:Nat}{o o':Obj}(h:Holds X V G w)(hu:Upd G b o o' G') :
 Holds X V G' { w with heap:=w.heap.setIfInBounds b o' }:=by
 have hbm:=hu.has.mem;have hblt:=h.lt hbm;refine⟨⟨h.ext.os,h.ext.tape,h.ext.output,by simpa using h.ext.size,fun k hk hm=>?_⟩,fun r u hr=>?_,fun p hp=>?_,fun p hp=>?_,by rw[hu.keys];exact h.nodup,h.sub,h.newer⟩
 · show(w.heap.setIfInBounds b o')[k]?=_
   rw[KO]
   · exact h.ext.block k hk hm
   · rintro rfl
     rcases(h.free _ hbm).1 with h1|h1
     · simp at h1;omega
     · exact hm h1
 · show(w.heap.setIfInBounds b o')[r]?=_
   rw[KO]
   · exact h.view r u hr
   · rintro rfl
     have:=(h.free _ hbm).2
     simp[this]at hr
 · show(w.heap.setIfInBounds b o')[p.1]?=_
   rcases hu.mem h.nodup hp with rfl|⟨hp,hne⟩
   · rw[Array.getElem?_setIfInBounds_self_of_lt hblt]
   · rw[KO (Ne.symm hne)];exact h.own p hp
 · rcases hu.mem h.nodup hp with rfl|⟨hp,_⟩
   · exact h.free (b,o) hbm
   · exact h.free p hp
theorem Holds.call{X:Cx}{V:qc}{G:Own}{w:World}(h:Holds X V G w){Y:Cx}{V':qc}{G':Own}{w':World}
 (hw:Y.w0=w) (hV:Y.V0=V) (hM:∀r,¬Y.M r) (k:Holds Y V' G' w'):Holds X V' (G'++G) w':=by
 subst hw hV
 have old:∀r,r<Y.w0.heap.size→w'.heap[r]?=Y.w0.heap[r]?:=fun r hr=>k.ext.block r hr (hM r)
 refine⟨⟨k.ext.os.trans h.ext.os,k.ext.tape.trans h.ext.tape,k.ext.output.trans h.ext.output,KF h.ext.size k.ext.size,fun r hr hm=>?_⟩,k.view,fun p hp=>?_,fun p hp=>?_,?_,h.sub.trans k.sub,fun r h0 hr=>?_⟩
 · rw[old r (Kv hr h.ext.size)];exact h.ext.block r hr hm
 · rcases zS.1 hp with hp|hp
   · exact k.own p hp
   · rw[old _ (h.lt hp)];exact h.own p hp
 · rcases zS.1 hp with hp|hp
   · have:=k.free p hp
     exact⟨.inl (KF h.ext.size (this.1.resolve_right (hM _))),this.2⟩
   · have h1:=h.free p hp
     refine⟨h1.1,?_⟩
     cases e:V' p.1 with
     | none=>rfl
     | some u=>exact absurd ((k.newer p.1 h1.2 (by simp[e])).resolve_right (hM _)) (by have:=h.lt hp;omega)
 · rw[Kr,VM]
   refine⟨k.nodup,h.nodup,fun a ha b hb e=>?_⟩
   obtain⟨p,hp,rfl⟩:=KJ.1 ha;obtain⟨q,hq,rfl⟩:=KJ.1 hb;have h1:=(k.free p hp).1.resolve_right (hM _)
   have h2:=h.lt hq;omega
 · by_cases e:Y.V0 r=none
   · exact .inl (KF h.ext.size ((k.newer r e hr).resolve_right (hM _)))
   · exact h.newer r h0 e
def Qy(P:Program)(f:FuncId)(args:Array Value)(V:qc)(w:World)(Q:Value→qc→Own→Prop):Prop :=
 Calls P f args w fun e w'=>∃v V' G',e = .returned v∧Holds ⟨fun _=>False,w,V,fun _ _ _=>False⟩ V' G' w'∧Q v V' G'
def qaS(V:qc)(w:World):Prop:=∀r o,V r=some o→w.heap[r]?=some o
theorem Holds.seen{X:Cx}{V:qc}{G:Own}{w:World}(h:Holds X V G w):qaS V w:=h.view
def qZ:Nat→List Value→Lo
 | _,[]=>[]
 | k,v::vs=>(k,v)::qZ (k+1) vs
theorem qah:∀(l:List Value) (k t:Nat) (v:Value),lk (qZ k l) t=some v→k≤t∧l[t-k]?=some v
 | [],_,_,_,h=>by simp[qZ,lk]at h
 | x::l,k,t,v,h=>by
  simp only[qZ,lk]at h;cases hb:Nat.beq k t with
  | true=>
   have:=zd hb
   subst this;simp at h;simp[h]
  | false=>
   rw[hb]at h;simp only[zo]at h;obtain⟨h1,h2⟩:=qah l (k+1) t v h
   refine⟨by omega,?_⟩
   rw[show t-k=(t-(k+1))+1 by omega];simpa using h2
def qfy(P:Program)(fn:Func)(w:World)(V:qc)(Q:Value→qc→Own→Prop):Exit→Act→World→Prop :=
 bodyPost P fn fun e w'=>∃v V' G',e = .returned v∧Holds ⟨fun _=>False,w,V,fun _ _ _=>False⟩ V' G' w'∧Q v V' G'
theorem enter{P:Program}{f:FuncId}{fn:Func}{c:Code}{args:List Value}{n:Nat}{V:qc}{w:World}{Q:Value→qc→Own→Prop}
 (hf:P.funcs[f]?=some fn) (hb:fn.body=some c) (hn:fn.ntmps=n) (hle:Nat.ble args.length n=true) (hV:qaS V w)
 (h:∀X:Cx,X.M=(fun _=>False)→X.w0=w→X.V0=V→X.R=qfy P fn w V Q→WC P n X (qZ 0 args) V [] c []):Qy P f args.toArray V w Q:=by
 refine calls_of_wp hf hb ?_
 have h1:=h ⟨fun _=>False,w,V,qfy P fn w V Q⟩ rfl rfl rfl rfl
 refine h1 _ w ⟨rfl,?_,fun t v ht=>?_⟩ ⟨Ext.refl _ _,hV,fun _ hp=>(by cases hp),fun _ hp=>(by cases hp),VN,Sub.refl _,fun r h0 hr=>absurd h0 hr⟩
 · have:args.length≤n:=zx hle
   simp[hn];omega
 · have:=(qah args 0 t v ht).2
   simp only[Vz]at this;have hlt:t<args.length:=(zu.1 this).1
   rw[Vr (by simpa using hlt)];simpa using this
def qaJ(P:Program)(X:Cx)(L:Lo)(V:qc)(G:Own):ResultVar→Value→Prop
 | .tmp t,v=>lk L t=some v
 | .cell b t,v=>∃p,lk L b=some (.pointer (some p))∧∀w,Holds X V G w→(loadVar t p).run P w = .ok v w
theorem fin{P:Program}{n:Nat}{X:Cx}{L:Lo}{V:qc}{G:Own}{fn:Func}{w:World}{V0:qc}{Q:Value→qc→Own→Prop}
 (hM:X.M=(fun _=>False)) (hw:X.w0=w) (hV:X.V0=V0) (hR:X.R=qfy P fn w V0 Q) {v:Value} {G':Own}
 (hG:∀w',Holds X V G w'→Holds X V G' w')
 (hv:∀a w',Knows n L a→Holds X V G w'→(results fn a.tmps).run P w' = .ok v w') (hQ:Q v V G') :
 ∀e,(e = .ret∨e = .normal)→St n X L V G fun a w=>X.R e a w:=by
 intro e he a w' ha hw';rw[hR];have h1:=hG w' hw';have hk:Holds ⟨fun _=>False,w,V0,fun _ _ _=>False⟩ V G' w':=by
  obtain⟨M,w0,VV,RR⟩:=X;simp only at hM hw hV;subst hM hw hV
  exact⟨h1.ext,h1.view,h1.own,h1.free,h1.nodup,h1.sub,h1.newer⟩
 rcases he with rfl|rfl <;> exact⟨ha.defers,v,hv a w' ha hw',v,V,G',rfl,hk,hQ⟩
section
variable {P:Program} {n:Nat} {X:Cx} {L:Lo} {V:qc} {G:Own} {fn:Func}
def qii(a:Act)(r:ResultVar):Sem Value :=
 match r with
 | .tmp t=>pure (a.tmps.getD t undef)
 | .cell b t=>do loadVar t (← asAddr (a.tmps.getD b undef))
theorem qaJ.run{r:ResultVar}{v:Value}(h:qaJ P X L V G r v){a:Act}{w:World}(ha:Knows n L a)(hw:Holds X V G w) :
 (qii a r).run P w = .ok v w:=by
 cases r with
 | tmp t=>simp[qii,ha.get t v h]
 | cell b t=>
  obtain⟨p,h1,h2⟩:=h;simp[qii,ha.get b _ h1,asAddr,h2 w hw]
theorem qcW{a:Act}{w:World}(ha:Knows n L a)(hw:Holds X V G w):∀(rs:List ResultVar) (vs:List Value),rs.length=vs.length→(∀p∈rs.zip vs,qaJ P X L V G p.1 p.2) →
 (rs.mapM (qii a)).run P w = .ok vs w
 | [],[],_,_=>rfl
 | r::rs,v::vs,hl,h=>by
  have h0:qaJ P X L V G r v:=h (r,v) (by simp)
  have h1:=h0.run ha hw;have h2:=qcW ha hw rs vs (by simpa using hl) (fun p hp=>h p (by simp[hp]))
  rw[List.mapM_cons,Sem.run_bind,h1];simp only[Result.andThen,Sem.run_bind,h2];rfl
theorem res{rs:List ResultVar}{vs:List Value}(hr:fn.results=rs.toArray)(hl:rs.length=vs.length)(h:∀p∈rs.zip vs,qaJ P X L V G p.1 p.2) :
 ∀a w',Knows n L a→Holds X V G w'→(results fn a.tmps).run P w' = .ok (match vs with|[v]=>v|vs=>.tuple vs.toArray) w':=by
 intro a w ha hw;have h1:=qcW ha hw rs vs hl h;show(do let vs←fn.results.mapM (qii a);pure (if h:vs.size=1 then vs[0]else .tuple vs):Sem Value).run P w=_
 rw[hr,List.mapM_toArray];simp only[map_eq_pure_bind,bind_assoc,pure_bind,Sem.run_bind,h1,Result.andThen];rw[Sem.run_pure]
 congr 1
 match vs with
 | []=>rfl
 | [v]=>rfl
 | a::b::l=>simp
theorem jU{r:ResultVar}{v:Value}(hr:fn.results = #[r])(h:qaJ P X L V G r v) :
 ∀a w',Knows n L a→Holds X V G w'→(results fn a.tmps).run P w' = .ok v w' :=
 res (rs:=[r]) (vs:=[v]) hr rfl (by simpa using h)
theorem qsM{r s:ResultVar}{v u:Value}(hr:fn.results = #[r,s])(h:qaJ P X L V G r v)(k:qaJ P X L V G s u) :
 ∀a w',Knows n L a→Holds X V G w'→(results fn a.tmps).run P w' = .ok (.tuple #[v,u]) w' :=
 res (rs:=[r,s]) (vs:=[v,u]) hr rfl (by simpa using⟨h,k⟩)
end
end Fly
end
section
namespace Fly
open Go
def Ty(P:Program)(t:TypeId):Option (Bool×Nat) :=
 match P.info? t,P.underlying t with
 | some i,some d=>some (match d with|.struct _|.array _ _=>true|_=>false,i.size)
 | _,_=>none
def Ik(P:Program)(t:TypeId):Option IntKind :=
 match P.underlying t with
 | some (.int k)=>some k
 | _=>none
def Fo(P:Program)(t f:Nat):Option (Nat×Bool×Nat) :=
 match P.underlying t with
 | some (.struct fs)=>match fs[f]? with
  | some x=>match Ty P x.type with
   | some (g,k)=>if k=0 then none else some (x.offset,g,k)
   | none=>none
  | none=>none
 | _=>none
def El(P:Program)(t:TypeId):Option (TypeId×Nat) :=
 match P.underlying t with
 | some (.slice e)=>match Ty P e with
  | some (_,k)=>some (e,k)
  | none=>none
 | _=>none
def Ze(P:Program)(t:TypeId):Option (List Value) :=
 match P.info? t with
 | some i=>i.zero.map fun z=>z.cells.toList
 | none=>none
def qij(P:Program)(f:FuncId):Bool :=
 match P.funcs[f]? with
 | some fn=>!(fn.name == "runtime.NumGoroutine")&&fn.body.isSome
 | none=>false
structure Tabs (P:Program) where
 ty:Nat→Option (Bool×Nat)
 ty_ok:∀t r,ty t=some r→Ty P t=some r
 ik:Nat→Option IntKind
 ik_ok:∀t r,ik t=some r→Ik P t=some r
 fo:Nat→Nat→Option (Nat×Bool×Nat)
 fo_ok:∀t f r,fo t f=some r→Fo P t f=some r
 el:Nat→Option (TypeId×Nat)
 el_ok:∀t r,el t=some r→El P t=some r
 ze:Nat→Option (List Value)
 ze_ok:∀t r,ze t=some r→Ze P t=some r
 go:Nat→Bool
 go_ok:∀f,go f=true→qij P f=true
section
variable {P:Program} {n:Nat} {X:Cx} {L:Lo} {V:qc} {G:Own} {K:List KI} {all:Array Oper} {ops:List Oper} {Q:Value→qc→Own→Prop}
variable {ty:TypeId} {pos:String} {af:Array Edge} {gd:Option (Nat×Bool)} {ds:Option Tmp}
theorem qn{d:Tmp}{op:Op}(hd:Nat.blt d n=true)
 (h:Opr P n X L V G ⟨some d,op,ty,pos,af,none⟩ fun v V' G'=>WR P n X ((d,v)::L) V' G' all ops K):WR P n X L V G all (⟨some d,op,ty,pos,af,none⟩::ops) K :=
 qg6 rfl hd h
theorem jE{op:Op}(h:Opr P n X L V G ⟨none,op,ty,pos,af,none⟩ fun _ V' G'=>WR P n X L V' G' all ops K):WR P n X L V G all (⟨none,op,ty,pos,af,none⟩::ops) K :=
 qg6 rfl rfl h
theorem Qa{d:Tmp}{op:Op}{j:Nat}{b:Bool}{e:Nat}(hj:(all[j]?).bind (·.dst)=some e)(hb:lk L e=some (.bool b))(hd:Nat.blt d n=true)
 (h:Opr P n X L V G ⟨some d,op,ty,pos,af,some (j,b)⟩ fun v V' G'=>WR P n X ((d,v)::L) V' G' all ops K):WR P n X L V G all (⟨some d,op,ty,pos,af,some (j,b)⟩::ops) K :=
 qoE rfl hj hb hd h
theorem JI{d:Tmp}{op:Op}{j:Nat}{b b':Bool}{e:Nat}(hj:(all[j]?).bind (·.dst)=some e)(hb:lk L e=some (.bool b'))(hne:b' = !b)(hd:Nat.blt d n=true)
 (h:WR P n X ((d,undef)::L) V G all ops K):WR P n X L V G all (⟨some d,op,ty,pos,af,some (j,b)⟩::ops) K:=by
 subst hne;exact qu9 rfl hj hb hd h
theorem Knows.shadow{L:Lo}{a:Act}{d:Nat}{v:Value}(h:Knows n L a)(hv:lk L d=some v):Knows n ((d,v)::L) a:=by
 refine⟨h.defers,h.size,fun t u ht=>?_⟩
 simp only[lk]at ht;cases hb:Nat.beq d t with
 | true=>rw[hb]at ht;have:=zd hb;subst this;simp at ht;subst ht;exact h.get _ _ hv
 | false=>rw[hb]at ht;exact h.get t u ht
theorem qlr{d:Option Tmp}{op:Op}{j:Nat}{b t:Bool}{e:Nat}(hb:lk L e=some (.bool t))
 (ht:t=true→WR P n X ((e,.bool true)::L) V G all (⟨d,op,ty,pos,af,some (j,b)⟩::ops) K)
 (hf:t=false→WR P n X ((e,.bool false)::L) V G all (⟨d,op,ty,pos,af,some (j,b)⟩::ops) K):WR P n X L V G all (⟨d,op,ty,pos,af,some (j,b)⟩::ops) K:=by
 intro a w ha hw;cases t with
 | true=>exact ht rfl a w (ha.shadow hb) hw
 | false=>exact hf rfl a w (ha.shadow hb) hw
theorem yL{c:Operand}{x y:Code}{p:Prop}[Decidable p](hc:ev L c=some (.bool (decide p)))(ht:p→WC P n X L V G x K)(hf : ¬p→WC P n X L V G y K) :
 WC P n X L V G (.cond c x y) K:=qag hc (fun e=>ht (KM e)) (fun e=>hf (of_decide_eq_false e))
theorem qkb{c:Operand}{x y:Code}{p:Prop}[Decidable p](hc:ev L c=some (.bool (!decide p)))(ht : ¬p→WC P n X L V G x K)(hf:p→WC P n X L V G y K) :
 WC P n X L V G (.cond c x y) K:=qag hc (fun e=>ht (by simpa using e)) (fun e=>hf (by simpa using e))
theorem qP{op:Op}{v:Value}(h:∀a w,Knows n L a→(execOp a.eval ⟨ds,op,ty,pos,af,gd⟩).run P w = .ok (.value v) w)(k:Q v V G) :
 Opr P n X L V G ⟨ds,op,ty,pos,af,gd⟩ Q:=fun a ha w hw=>.inl ⟨v,w,V,G,.inl (h a w ha),k,hw⟩
theorem qh{x:Operand}{v:Value}(h:ev L x=some v)(k:Q v V G):Opr P n X L V G ⟨ds,.move x,ty,pos,af,gd⟩ Q :=
 qP (fun a w ha=>by simp[execOp,ha.ev h]) k
theorem qd{x:Operand}{v:Value}(h:ev L x=some v)(k:Q v V G):Opr P n X L V G ⟨ds,.assign x,ty,pos,af,gd⟩ Q :=
 qP (fun a w ha=>by simp[execOp,ha.ev h]) k
theorem yQ{op:BinOp}{t u:TypeId}{x y:Operand}{κ:IntKind}{p q:Int}{v:Value}(hx:ev L x=some (.int κ p))(hy:ev L y=some (.int κ q))
 (h:∀w,(binOp op t (.int κ p) (.int κ q)).run P w = .ok v w) (k:Q v V G):Opr P n X L V G ⟨ds,.binOp op t x y u,ty,pos,af,gd⟩ Q:=by
 refine qP (fun a w ha=>?_) k
 have h0:(eqGuard op t x y (.int κ p) (.int κ q)).run P w = .ok () w:=by
  cases op <;> simp[eqGuard]
 simp only[execOp,ha.ev hx,ha.ev hy,Sem.run_bind,h0,Result.andThen,h w];rfl
theorem qdW{t u:TypeId}{x y:Operand}{κ:IntKind}{p q:Int}(hx:ev L x=some (.int κ p))(hy:ev L y=some (.int κ q))
 (k:Q (.int κ (κ.wrap (p+q))) V G):Opr P n X L V G ⟨ds,.binOp .add t x y u,ty,pos,af,gd⟩ Q :=
 yQ hx hy (fun w=>by simp[binOp,Op.intArith]) k
theorem qkc{t u:TypeId}{x y:Operand}{κ:IntKind}{p q:Int}(hx:ev L x=some (.int κ p))(hy:ev L y=some (.int κ q))
 (k:Q (.int κ (κ.wrap (p-q))) V G):Opr P n X L V G ⟨ds,.binOp .sub t x y u,ty,pos,af,gd⟩ Q :=
 yQ hx hy (fun w=>by simp[binOp,Op.intArith]) k
theorem qvW{t u:TypeId}{x y:Operand}{κ:IntKind}{p q:Int}(hx:ev L x=some (.int κ p))(hy:ev L y=some (.int κ q))
 (k:Q (.int κ (κ.wrap (p*q))) V G):Opr P n X L V G ⟨ds,.binOp .mul t x y u,ty,pos,af,gd⟩ Q :=
 yQ hx hy (fun w=>by simp[binOp,Op.intArith]) k
theorem Yt{x:Int}(h1 : -9223372036854775808≤x)(h2:x≤9223372036854775807):IntKind.i64.wrap x=x:=by
 rw[IntKind.wrap_i64];omega
theorem qik{x:Int}(h1:0≤x)(h2:x<18446744073709551616):IntKind.u64.wrap x=x:=by
 simp only[IntKind.wrap,IntKind.bits,IntKind.signed];simp;omega
theorem qkd{x:Int}(h1:0≤x)(h2:x<256):IntKind.u8.wrap x=x:=by
 simp only[IntKind.wrap,IntKind.bits,IntKind.signed];simp;omega
theorem jf{t u:TypeId}{x y:Operand}{p q:Int}(hx:ev L x=some (.int .i64 p))(hy:ev L y=some (.int .i64 q))(h1 : -9223372036854775808≤p+q)(h2:p+q≤9223372036854775807)
 (k:Q (.int .i64 (p+q)) V G):Opr P n X L V G ⟨ds,.binOp .add t x y u,ty,pos,af,gd⟩ Q :=
 qdW hx hy (by rw[Yt h1 h2];exact k)
theorem qai{t u:TypeId}{x y:Operand}{p q:Int}(hx:ev L x=some (.int .i64 p))(hy:ev L y=some (.int .i64 q))(h1 : -9223372036854775808≤p-q)(h2:p-q≤9223372036854775807)
 (k:Q (.int .i64 (p-q)) V G):Opr P n X L V G ⟨ds,.binOp .sub t x y u,ty,pos,af,gd⟩ Q :=
 qkc hx hy (by rw[Yt h1 h2];exact k)
theorem qvX{t u:TypeId}{x y:Operand}{κ:IntKind}{p q:Int}(hx:ev L x=some (.int κ p))(hy:ev L y=some (.int κ q))(h0:q≠0)
 (k:Q (.int κ (κ.wrap (p.tdiv q))) V G):Opr P n X L V G ⟨ds,.binOp .quo t x y u,ty,pos,af,gd⟩ Q :=
 yQ hx hy (fun w=>by simp[binOp,Op.intDiv,h0]) k
theorem qvY{t u:TypeId}{x y:Operand}{κ:IntKind}{p q:Int}(hx:ev L x=some (.int κ p))(hy:ev L y=some (.int κ q))(h0:q≠0)
 (k:Q (.int κ (p.tmod q)) V G):Opr P n X L V G ⟨ds,.binOp .rem t x y u,ty,pos,af,gd⟩ Q :=
 yQ hx hy (fun w=>by simp[binOp,Op.intDiv,h0]) k
def jj(op:BinOp)(κ:IntKind)(p q:Int):Int :=
 κ.wrap (match op with
  | .and=>(BitVec.ofInt κ.bits p &&& BitVec.ofInt κ.bits q).toNat
  | .or=>(BitVec.ofInt κ.bits p ||| BitVec.ofInt κ.bits q).toNat
  | .xor=>(BitVec.ofInt κ.bits p ^^^ BitVec.ofInt κ.bits q).toNat
  | _=>(BitVec.ofInt κ.bits p &&& ~~~(BitVec.ofInt κ.bits q)).toNat:Nat)
theorem qvZ{t u:TypeId}{x y:Operand}{κ:IntKind}{p q:Int}(hx:ev L x=some (.int κ p))(hy:ev L y=some (.int κ q))
 (k:Q (.int κ (jj .and κ p q)) V G):Opr P n X L V G ⟨ds,.binOp .and t x y u,ty,pos,af,gd⟩ Q :=
 yQ hx hy (fun w=>by simp[binOp,Op.intBits,jj]) k
theorem qyb{t u:TypeId}{x y:Operand}{κ:IntKind}{p q:Int}(hx:ev L x=some (.int κ p))(hy:ev L y=some (.int κ q))
 (k:Q (.int κ (jj .or κ p q)) V G):Opr P n X L V G ⟨ds,.binOp .or t x y u,ty,pos,af,gd⟩ Q :=
 yQ hx hy (fun w=>by simp[binOp,Op.intBits,jj]) k
theorem qv0{t u:TypeId}{x y:Operand}{κ:IntKind}{p q:Int}(hx:ev L x=some (.int κ p))(hy:ev L y=some (.int κ q))
 (k:Q (.int κ (jj .xor κ p q)) V G):Opr P n X L V G ⟨ds,.binOp .xor t x y u,ty,pos,af,gd⟩ Q :=
 yQ hx hy (fun w=>by simp[binOp,Op.intBits,jj]) k
theorem qnh{t u:TypeId}{x y:Operand}{κ:IntKind}{p q:Int}(hx:ev L x=some (.int κ p))(hy:ev L y=some (.int κ q))
 (k:Q (.int κ (jj .andNot κ p q)) V G):Opr P n X L V G ⟨ds,.binOp .andNot t x y u,ty,pos,af,gd⟩ Q :=
 yQ hx hy (fun w=>by simp[binOp,Op.intBits,jj]) k
theorem jI{t u:TypeId}{x y:Operand}{κ:IntKind}{p q:Int}(hx:ev L x=some (.int κ p))(hy:ev L y=some (.int κ q))
 (k:Q (.bool (decide (p=q))) V G):Opr P n X L V G ⟨ds,.binOp .eql t x y u,ty,pos,af,gd⟩ Q :=
 yQ hx hy (fun w=>by simp only[binOp,Op.intCmp,ne_eq,not_true_eq_false,Vv,Sem.run_pure];rfl) k
theorem qg8{t u:TypeId}{x y:Operand}{κ:IntKind}{p q:Int}(hx:ev L x=some (.int κ p))(hy:ev L y=some (.int κ q))
 (k:Q (.bool (!decide (p=q))) V G):Opr P n X L V G ⟨ds,.binOp .neq t x y u,ty,pos,af,gd⟩ Q :=
 yQ hx hy (fun w=>by simp only[binOp,Op.intCmp,ne_eq,not_true_eq_false,Vv,Sem.run_pure];rfl) k
theorem jV{t u:TypeId}{x y:Operand}{κ:IntKind}{p q:Int}(hx:ev L x=some (.int κ p))(hy:ev L y=some (.int κ q))
 (k:Q (.bool (decide (p<q))) V G):Opr P n X L V G ⟨ds,.binOp .lss t x y u,ty,pos,af,gd⟩ Q :=
 yQ hx hy (fun w=>by simp[binOp,Op.intCmp]) k
theorem JA{t u:TypeId}{x y:Operand}{κ:IntKind}{p q:Int}(hx:ev L x=some (.int κ p))(hy:ev L y=some (.int κ q))
 (k:Q (.bool (decide (p≤q))) V G):Opr P n X L V G ⟨ds,.binOp .leq t x y u,ty,pos,af,gd⟩ Q :=
 yQ hx hy (fun w=>by simp[binOp,Op.intCmp]) k
theorem qaT{t u:TypeId}{x y:Operand}{κ:IntKind}{p q:Int}(hx:ev L x=some (.int κ p))(hy:ev L y=some (.int κ q))
 (k:Q (.bool (decide (q<p))) V G):Opr P n X L V G ⟨ds,.binOp .gtr t x y u,ty,pos,af,gd⟩ Q :=
 yQ hx hy (fun w=>by simp[binOp,Op.intCmp]) k
theorem qke{t u:TypeId}{x y:Operand}{κ:IntKind}{p q:Int}(hx:ev L x=some (.int κ p))(hy:ev L y=some (.int κ q))
 (k:Q (.bool (decide (q≤p))) V G):Opr P n X L V G ⟨ds,.binOp .geq t x y u,ty,pos,af,gd⟩ Q :=
 yQ hx hy (fun w=>by simp[binOp,Op.intCmp]) k
theorem qoF{op:BinOp}{t u:TypeId}{x y:Operand}{κ κ':IntKind}{p q:Int}{v:Value}(hx:ev L x=some (.int κ p))(hy:ev L y=some (.int κ' q))(hop:op = .shl∨op = .shr)
 (h:∀w,(Op.shift op κ p κ' q).run P w = .ok v w) (k:Q v V G):Opr P n X L V G ⟨ds,.binOp op t x y u,ty,pos,af,gd⟩ Q:=by
 refine qP (fun a w ha=>?_) k
 have h0:(eqGuard op t x y (.int κ p) (.int κ' q)).run P w = .ok () w:=by cases op <;> simp[eqGuard]
 rcases hop with rfl|rfl <;>
  (simp only[execOp,ha.ev hx,ha.ev hy,Sem.run_bind,h0,Result.andThen,binOp,h w];rfl)
theorem qv1{t u:TypeId}{x y:Operand}{κ κ':IntKind}{p q:Int}(hx:ev L x=some (.int κ p))(hy:ev L y=some (.int κ' q))(h0:0≤q)
 (k:Q (.int κ (κ.wrap (p*2^(min q.toNat κ.bits)))) V G):Opr P n X L V G ⟨ds,.binOp .shl t x y u,ty,pos,af,gd⟩ Q :=
 qoF hx hy (.inl rfl) (fun w=>by simp[Op.shift,Int.not_lt.2 h0]) k
theorem qv2{t u:TypeId}{x y:Operand}{κ κ':IntKind}{p q:Int}(hx:ev L x=some (.int κ p))(hy:ev L y=some (.int κ' q))(h0:0≤q)
 (k:Q (.int κ (p.fdiv (2^(min q.toNat κ.bits)))) V G):Opr P n X L V G ⟨ds,.binOp .shr t x y u,ty,pos,af,gd⟩ Q :=
 qoF hx hy (.inr rfl) (fun w=>by simp[Op.shift,Int.not_lt.2 h0]) k
theorem qck{t:TypeId}{x:Operand}{b:Bool}(hx:ev L x=some (.bool b))(k:Q (.bool (!b)) V G):Opr P n X L V G ⟨ds,.unOp .not t x,ty,pos,af,gd⟩ Q :=
 qP (fun a w ha=>by simp[execOp,ha.ev hx,Op.unary]) k
theorem qv3{t:TypeId}{x:Operand}{κ:IntKind}{p:Int}(hx:ev L x=some (.int κ p))(k:Q (.int κ (κ.wrap (0-p))) V G):Opr P n X L V G ⟨ds,.unOp .neg t x,ty,pos,af,gd⟩ Q :=
 qP (fun a w ha=>by simp[execOp,ha.ev hx,Op.unary,Op.intArith]) k
theorem qY{c x y:Operand}{v:Value}(hc:ev L c=some (.bool true))(hx:ev L x=some v)(k:Q v V G):Opr P n X L V G ⟨ds,.pick c x y,ty,pos,af,gd⟩ Q :=
 qP (fun a w ha=>by simp[execOp,ha.ev hc,ha.ev hx,asBool]) k
theorem ja{c x y:Operand}{v:Value}(hc:ev L c=some (.bool false))(hy:ev L y=some v)(k:Q v V G):Opr P n X L V G ⟨ds,.pick c x y,ty,pos,af,gd⟩ Q :=
 qP (fun a w ha=>by simp[execOp,ha.ev hc,ha.ev hy,asBool]) k
theorem qdX{x:Operand}{i:Nat}{l:List Value}{v:Value}(hx:ev L x=some (.tuple l.toArray))(hi:l[i]?=some v)(k:Q v V G):Opr P n X L V G ⟨ds,.extract x i,ty,pos,af,gd⟩ Q :=
 qP (fun a w ha=>by simp[execOp,ha.ev hx,Instr.extract,hi]) k
theorem run_underlying{P:Program}{t:TypeId}{d:TypeDesc}(h:P.underlying t=some d)(w:World):(underlying t).run P w = .ok d w:=by
 simp[underlying,h]
theorem qkf{t:TypeId}{κ:IntKind}(h:Ik P t=some κ):P.underlying t=some (.int κ):=by
 unfold Ik at h;split at h
 · simp only[za]at h;subst h;assumption
 · cases h
theorem qdY(T:Tabs P){t u:TypeId}{x:Operand}{κ κ' κ'':IntKind}{p:Int}(hx:ev L x=some (.int κ p))(ht:T.ik t=some κ'')(hu:T.ik u=some κ')(k:Q (.int κ' (κ'.wrap p)) V G) :
 Opr P n X L V G ⟨ds,.convert t u x,ty,pos,af,gd⟩ Q :=
 qP (fun a w ha=>by
  simp[execOp,ha.ev hx,convert,run_underlying (qkf (T.ik_ok _ _ ht)) w,run_underlying (qkf (T.ik_ok _ _ hu)) w,Conv.intToInt]) k
end
end Fly
end
