/-
  The law and its row.
-/
import Derived.Test.YtfckjjffdfkelaaGreatSuWr
import Derived.Test.YtfckjjffdfkelaaGreatNB05
import Derived.Test.YtfckjjffdfkelaaGreatNB09
import Derived.Test.YtfckjjffdfkelaaGreatSuTb
import Derived.Test.YtfckjjffdfkelaaGreatNB10
import Derived.Test.YtfckjjffdfkelaaGreatNC07
set_option linter.unusedVariables false
set_option linter.unusedSimpArgs false
set_option maxRecDepth 10000
section
namespace Go.Proofs.Sho
open Go Go.RowKit Go.Shelf Go.Proofs Fly Su
attribute [local go_sem] Oper.semAt_some
abbrev HX(V:qc)(w:World)(V':qc)(W:World):Prop:=Holds ⟨fun _=>False,w,V,fun _ _ _=>False⟩ V' [] W
theorem HX.trans{V V1 V2:qc}{w W W2:World}{G:Fly.Own}(h:HX V w V1 W)(k:Holds ⟨fun _=>False,W,V1,fun _ _ _=>False⟩ V2 G W2):HX V w V2 W2 :=
 ⟨h.ext.trans k.ext,k.view,(fun _ hp=>(KT hp).elim),(fun _ hp=>(KT hp).elim),.nil,h.sub.trans k.sub,fun r h1 h2=>by
   by_cases h3:V1 r=none
   · rcases k.newer r h3 h2 with h4 | h4
     · exact .inl (zU h.ext.size h4)
     · exact h4.elim
   · exact h.newer r h1 h3⟩
theorem HX.drew{V V1:qc}{w W:World}(h:HX V w V1 W):HX V w V1 W.drew :=
 ⟨⟨h.ext.os,h.ext.tape,h.ext.output,h.ext.size,h.ext.block⟩,h.view,(fun _ hp=>(KT hp).elim),(fun _ hp=>(KT hp).elim),.nil,h.sub,h.newer⟩
theorem HX.add{V:qc}{w W:World}{B:Nat}{o:Obj}(hs:qfr V w)(hb:Below w.heap.size w W)(hB:w.heap.size≤B)(ho:W.heap[B]?=some o):HX V w (addV V B o) W:=by
 have hlt:∀r o,V r=some o→r<w.heap.size:=fun r o h=>(Km.1 (hs r o h)).1
 have hn:V B=none:=by
  cases h:V B with
  | none=>rfl
  | some o=>have:=hlt _ _ h;omega
 refine⟨⟨hb.os,hb.tape,hb.output,hb.size,fun k hk _=>hb.block k hk⟩,fun r u hr=>?_,(fun _ hp=>(KT hp).elim),(fun _ hp=>(KT hp).elim),.nil,Fly.Sub.addV hn,fun r h1 h2=>?_⟩
 · unfold addV at hr
   by_cases e:r=B
   · rw[Kp e]at hr;subst e;rw[ho];exact hr
   · rw[zZ e]at hr;exact(hb.block r (hlt _ _ hr)).trans (hs r u hr)
 · unfold addV at h2
   by_cases e:r=B
   · exact .inl (by show w.heap.size≤r;omega)
   · rw[zZ e]at h2;exact absurd h1 h2
theorem gok4{V:qc}:GOK Su.tb V:=fun _ _ h=>by cases h
theorem qA5(r:Nat)(h:r<18446744073709551616):New (r:Int)=some (ofN r):=by
 have e1:IntKind.u32.wrap (r:Int)=((r % 4294967296:Nat):Int):=by rw[Su.wrap_u32];omega
 have e2:Int.fdiv (r:Int) (2^32)=((r / 4294967296:Nat):Int):=by
  have:=qaI r 32;rwa [show(2:Nat)^32=4294967296 from rfl]at this
 have e3:IntKind.u32.wrap ((r / 4294967296:Nat):Int)=((r / 4294967296:Nat):Int):=Su.qn0 (by omega) (by omega)
 unfold New;rw[e1,e2,e3];simp only[qa,zl]
 congr 2;omega
theorem qoE{V:qc}{W:World}{v:Value}{a:List Int}(hs:qfr V W)(hr:Rep V (.ql 1 1 a) v):Calls Tryz.prog 148 #[v] W fun e W'=>∃v' V',e = .returned v'∧HX V W V' W'∧Rep V' (.ql 1 1 (ofN (qa a))) v':=by
 have h:∀xs y,((d1 (cQ 1 1)).dec xs).bind qjC=some y→∀V vs,GOK Su.tb V→RepA V xs vs→yg Tryz.prog 148 vs.toArray V [] fun v V' _=>∃rvs,RepA V' ((d1 (cQ 1 1)).enc y) rvs∧v=JN rvs:=qwG.2.1
 have h2:((d1 (cQ 1 1)).dec [T.ql 1 1 a]).bind qjC=some (ofN (qa a)):=by
  rw[show(d1 (cQ 1 1)).dec [T.ql 1 1 a]=some a from(d1 (cQ 1 1)).de a];rfl
 refine(h _ _ h2 V [v] gok4 (.cons hr .nil) W hs (fun _ hp=>(KT hp).elim) (fun _ hp=>(KT hp).elim) .nil).mono ?_
 rintro e W' ⟨v',V',G',rfl,hh,rvs,m1,rfl⟩
 cases m1 with | cons k1 k2=>cases k2 with | nil=>
 exact⟨_,V',rfl,⟨⟨hh.ext.os,hh.ext.tape,hh.ext.output,hh.ext.size,fun k hk _=>hh.ext.block k hk (by simp[keys])⟩,hh.view,(fun _ hp=>(KT hp).elim),(fun _ hp=>(KT hp).elim),.nil,hh.sub,fun r h1 h2=>(hh.newer r h1 h2).imp id (fun hm=>by simp[keys]at hm)⟩,k1⟩
theorem qsi{V:qc}{W:World}{r:Nat}(hl:r<18446744073709551616)(hs:qfr V W):Calls Tryz.prog 78 #[.int .u64 (r:Int)] W fun e W'=>∃v' V',e = .returned v'∧HX V W V' W'∧Rep V' (.ql 1 1 (ofN r)) v':=by
 have h:∀xs y,((d1 (cI .u64)).dec xs).bind (fun a=>New a)=some y→∀V vs,GOK Su.tb V→RepA V xs vs→yg Tryz.prog 78 vs.toArray V [] fun v V' _=>∃rvs,RepA V' ((d1 (cQ 1 1)).enc y) rvs∧v=JN rvs:=qCP.2.1
 have h2:((d1 (cI .u64)).dec [T.s (.int .u64 (r:Int))]).bind (fun a=>New a)=some (ofN r):=by
  rw[show(d1 (cI .u64)).dec [T.s (.int .u64 (r:Int))]=some (r:Int) from(d1 (cI .u64)).de (r:Int)];exact qA5 r hl
 refine(h _ _ h2 V [.int .u64 (r:Int)] gok4 (.cons (.s (by show inR .u64 (r:Int)=true;exact QJ.2 ⟨by omega,by omega⟩)) .nil) W hs (fun _ hp=>(KT hp).elim) (fun _ hp=>(KT hp).elim) .nil).mono ?_
 rintro e W' ⟨v',V',G',rfl,hh,rvs,m1,rfl⟩
 cases m1 with | cons k1 k2=>cases k2 with | nil=>
 exact⟨_,V',rfl,⟨⟨hh.ext.os,hh.ext.tape,hh.ext.output,hh.ext.size,fun k hk _=>hh.ext.block k hk (by simp[keys])⟩,hh.view,(fun _ hp=>(KT hp).elim),(fun _ hp=>(KT hp).elim),.nil,hh.sub,fun r h1 h2=>(hh.newer r h1 h2).imp id (fun hm=>by simp[keys]at hm)⟩,k1⟩
def wI(qs:List Nat):List Int:=qs.map fun z=>((z:Nat):Int)
theorem qij(qs:List Nat):(wI qs).length=qs.length:=zr ..
theorem qFB(qs:List Nat):(List.map (α:=U 1) (view 1) (wI qs)).length=qs.length:=(zr (α:=U 1) ..).trans (qij qs)
theorem qda:∀qs:List Nat,(List.map (α:=U 1) (view 1) (wI qs)).flatMap T.cells=qs.map fun z=>T.s (vW z)
 | []=>rfl
 | x::l=>by
  show T.s (vW x)::(List.map (α:=U 1) (view 1) (wI l)).flatMap T.cells=_
  rw[qda l];rfl
theorem qwK:∀(qs:List Nat) (x:T),x∈List.map (α:=U 1) (view 1) (wI qs)→x.cells.length=1
 | [],x,h=>by cases h
 | y::l,x,h=>by
  rcases zJ.1 (show x∈view 1 (y:Int)::List.map (α:=U 1) (view 1) (wI l) from h)with rfl | h
  · rfl
  · exact qwK l x h
theorem qsj{V:qc}{B off:Nat}{qs:List Nat}{len cap:Nat}(h:∀(j:Nat) (c:Value),(qs.map vW)[j]?=some c→rd V B (off+j) c)(hqw:∀z∈qs,z<4294967296)(hql:qs.length=len)(hlen:len≤cap)(hcap:cap≤maxLen) :
 Rep V (.ql 1 1 (wI qs)) (.slice (some ⟨B,off,none⟩) len cap):=by
 have hw:∀l:List Nat,(∀z∈l,z<4294967296)→RepA V (l.map fun z=>T.s (vW z)) (l.map vW):=by
  intro l;induction l with
  | nil=>exact fun _=>.nil
  | cons x l ih=>
   intro hx;have hx0:=hx x (zu ..)
   exact .cons (.s (show inR .u32 (x:Int)=true from qeW.2 ⟨by omega,by omega⟩)) (ih fun z hz=>hx z (zp _ hz))
 have hl:=qFB qs;have h2:=Rep.sl (V:=V) (k:=1) (l:=List.map (α:=U 1) (view 1) (wI qs)) (vs:=qs.map vW) (a:=some ⟨B,off,none⟩) (cap:=cap) (by rw[qda];exact hw qs hqw)
  (by rw[qda];intro x hx;obtain⟨z,_,rfl⟩:=K4.1 hx;rfl) (qwK qs) (by omega) hcap (.inr ⟨B,off,rfl,h⟩)
 rw[hl,hql]at h2;exact .ql h2
set_option maxRecDepth 100000 in
set_option maxHeartbeats 4000000 in
theorem qA6{V:qc}{w W:World}{B D b len cap rr:Nat}{sa:Option Addr}{qs:List Nat}{Q:Ending→World→Prop}{Kc:Act→World→Prop}(hs:qfr V w)(hB:Below w.heap.size w W)(hBw:w.heap.size≤B)(hDB:B+5≤D)
 (g1:W.heap[B+1]?=some (Obj.cells (qs.map vW).toArray 175 (0,0))) (hql:qs.length=len) (hqw:∀z∈qs,z<4294967296) (hlen:len≤549755813888) (g2:W.heap[B+2]?=some (Obj.cells #[.slice (some ⟨B+1,0,none⟩) len len] 38 (0,0)))
 (g3:W.heap[B+3]?=some (Obj.cells #[.int .u64 (rr:Int)] 44 (0,0))) (hrr:rr<18446744073709551616) (hD:W.heap[D]?=some (.deferred (some [])))
 (hK:∀a w',Code.wpIn Fence.wide 3 Tryz.prog Code.ret (bodyPostM Fence.wide 3 Tryz.prog Tryz.f191 Q) a w'→Kc a w')
 (hQ:∀v1 v2 V1 V2 W2,HX V w V1 W2→Rep V1 (.ql 1 1 (ofN (qa (wI qs)))) v1→Rep V1 (.ql 1 1 (ofN rr)) v2→W2.heap[D]?=some (.deferred (some []))→V2=V1→Q (.returned (.tuple #[v1,v2])) (W2.putObj D (.deferred none))) :
 Code.wpIn Fence.wide 3 Tryz.prog qwq (Exit.then Kc (bodyPostM Fence.wide 3 Tryz.prog Tryz.f191 Q)) (qFm B D b sa len cap) W:=by
 have hx0:HX V w (addV V (B+1) (Obj.cells (qs.map vW).toArray 175 (0,0))) W:=HX.add hs hB (by omega) g1
 have hrep:Rep (addV V (B+1) (Obj.cells (qs.map vW).toArray 175 (0,0))) (.ql 1 1 (wI qs)) (.slice (some ⟨B+1,0,none⟩) len len):=qsj (fun j c hj=>⟨_,_,_,by unfold addV;rw[Kp rfl],by rw[X6,zQ];exact hj⟩) hqw hql (zE _) (by simp[maxLen];omega)
 obtain⟨V0,hV0⟩:∃V0,addV V (B+1) (Obj.cells (qs.map vW).toArray 175 (0,0))=V0:=⟨_,rfl⟩
 rw[hV0]at hx0 hrep;have c2:=qaX g2 (i:=0) rfl
 have c3:=qaX g3 (i:=0) rfl
 unfold qwq qFm;have hmx:Tryz.prog.follows .mixedOrders=true:=by kernel_rfl
 refine Code.wpIn_mono (Q:=Exit.then Kc (fun _ _ _=>False)) (fun e a w h=>by cases e <;> first | exact h | exact h.elim) ?_
 gi_region_with_o (first
  | (refine⟨trivial,?_⟩;gi_at_call 148;refine(callsIn_wide.2 (qoE (V:=V0) (W:=W.drew) hx0.view hrep)).mono ?_;rintro e w1 ⟨v1,V1,rfl,hx1,hr1⟩;have c3':=(hx1.ext.below.cell (p:=⟨B+3,0,none⟩) (Km.1 g3).1).trans c3)
  | (refine⟨trivial,?_⟩;gi_at_call 78;refine(callsIn_wide.2 (qsi (V:=V1) (W:=w1) hrr hx1.view)).mono ?_;rintro e w2 ⟨v2,V2,rfl,hx2,hr2⟩))
 all_goals (
  refine hK _ _ ?_
  have hD1:w1.heap[D]?=some (.deferred (some [])):=(hx1.ext.block D (Km.1 hD).1 (fun h=>h)).trans hD
  have hD2:w2.heap[D]?=some (.deferred (some [])):=(hx2.ext.block D (Km.1 hD1).1 (fun h=>h)).trans hD1
  gi_wp2
  refine⟨by simp,.inl ⟨_,_,rfl,run_takeDeferred hD2,?_⟩⟩
  refine⟨_,results_tmp2 (t:=4) (u:=5) rfl _ _ _,hQ v1 v2 V2 V2 w2 ((hx0.drew.trans hx1).trans hx2) (Rep.mono hx2.sub hr1) hr2 hD2 rfl⟩)
theorem qHm{b:Nat}{len:Nat}(pre:List (Wo len)):∀z∈(sf b pre).2,z<4294967296:=by
 have:∀(l:List (Wo len)) (s:Nat×List Nat),(∀z∈s.2,z<4294967296)→∀z∈(l.foldl (stp b) s).2,z<4294967296:=by
  intro l;induction l with
  | nil=>exact fun s h=>h
  | cons x l ih=>
   refine fun s h=>ih _ fun z hz=>?_
   rcases Wv hz with hz | rfl
   · exact h z hz
   · exact Vr _ (by omega)
 exact this pre _ fun z hz=>by rw[(Vj.1 hz).2];omega
theorem qFC(qs:List Nat)(j:Nat):nth (wI qs) j=((qs[j]?.getD 0:Nat):Int):=by
 unfold nth;have:(wI qs)[j]?=(qs[j]?).map fun z=>((z:Nat):Int):=KQ ..
 rw[this];cases qs[j]? <;> rfl
theorem qFD(qs:List Nat)(j y:Nat):wI (qs.set j y)=List.set (wI qs) j (y:Int):=WO ..
theorem qA7(zs:List Nat)(m:Nat)(h:m<zs.length):qa (wI (zs.drop m))=zs[m]?.getD 0+4294967296*qa (wI (zs.drop (m+1))):=by
 rw[Kk h,zD h];show qa (((zs[m]:Nat):Int)::wI (zs.drop (m+1)))=_
 rw[qa,zl];rfl
theorem qqO{zs:List Nat}(hz:∀z∈zs,z<4294967296)(h0:0<zs.length){b:Nat}(hb:0<b):∀k,k≤zs.length →
 (sf b (qao hz h0 k)).1=qa (wI (zs.drop (zs.length-k))) % b∧qa (wI (sf b (qao hz h0 k)).2)=qa (wI (zs.drop (zs.length-k))) / b*4294967296^(zs.length-k)∧∀j,j<zs.length-k→(sf b (qao hz h0 k)).2[j]?.getD 0=0
 | 0,_=>by
  have e:sf b (qao hz h0 0)=(0,List.replicate zs.length 0):=rfl
  have ev:qa (wI ([]:List Nat))=0:=rfl
  have ez:wI (List.replicate zs.length 0)=List.replicate zs.length 0:=We ..
  rw[e,Xd,List.drop_length,ev];refine⟨(qHM b).symm,?_,fun j hj=>?_⟩
  · show qa (wI (List.replicate zs.length 0))=_
    rw[ez,Z0,XX,Vo]
  · show(List.replicate zs.length 0)[j]?.getD 0=0
    rw[Vt];split <;> rfl
 | k+1,hk=>by
  obtain⟨i1,i2,i3⟩:=qqO hz h0 hb k (by omega)
  obtain⟨m,hm⟩:∃m,m=zs.length-1-k:=⟨_,rfl⟩
  have e1:zs.length-k=m+1:=by omega
  have e2:zs.length-(k+1)=m:=by omega
  rw[e1]at i1 i2 i3;rw[e2,qic,qku];have hml:m<zs.length:=by omega
  have hq:=i3 m (by omega)
  have hlen:=qoD b (qao hz h0 k)
  have hlt:=qwp hb (qao hz h0 k)
  generalize sf b (qao hz h0 k)=s at *
  obtain⟨R,Q⟩:=s;simp only at i1 i2 i3 hq hlen hlt;have hx:=qc8 hz m;have hA:=qA7 zs m hml;simp only[← hm];show(R*4294967296+zs[m]?.getD 0) % b=_∧qa (wI (Q.set m ((R*4294967296+zs[m]?.getD 0) / b % 4294967296)))=_∧∀j,j<m→(Q.set m ((R*4294967296+zs[m]?.getD 0) / b % 4294967296))[j]?.getD 0=0
  generalize zs[m]?.getD 0=x at *
  generalize hA0:qa (wI (zs.drop (m+1)))=A at *
  rw[hA];have hdiv:=Vb A b;have hr1:x+4294967296*A=b*(4294967296*(A / b))+(R*4294967296+x):=by
   rw[i1];generalize A / b=p at *
   generalize A % b=t at *
   rw[← hdiv];grind
  have hr1b:(R*4294967296+x) / b<4294967296:=by
   rw[KP hb];have:=zH 4294967296 (show R+1≤b by omega)
   rw[zL 4294967296 b];omega
  rw[hr1];refine⟨?_,?_,fun j hj=>?_⟩
  · rw[Xh]
  · rw[KA hr1b,Nat.mul_add_div hb,qFD]
    have hs:=qaG (wI Q) m (((R*4294967296+x) / b:Nat):Int) (by rw[qij];omega)
    rw[qFC,hq,zl,i2,Kx]at hs;generalize (R*4294967296+x) / b=d at *
    generalize A / b=p at *
    generalize 4294967296^m=P at *
    have hs:qa (List.set (wI Q) m (d:Int))+P*0=p*(P*4294967296)+P*d:=hs
    rw[VB,Kr]at hs;rw[hs];grind
  · rw[Kt (by omega)];exact i3 j (by omega)
theorem qFE{zs:List Nat}(hz:∀z∈zs,z<4294967296){b:Nat}(hb:0<b){ys:List (Wo zs.length)}(h:All hz ys):(sf b ys).1=qa (wI zs) % b∧qa (wI (sf b ys).2)=qa (wI zs) / b:=by
 rcases h with⟨rfl,h0⟩ | ⟨hl,rfl⟩
 · have:zs=[]:=VJ h0
   subst this;exact⟨(qHM b).symm,(XX b).symm⟩
 · obtain⟨h1,h2,_⟩:=qqO hz hl hb zs.length (zE _)
   rw[Vi,WH]at h1 h2;rw[Vp,Wb]at h2;exact⟨h1,h2⟩
theorem qqP{V V':qc}:∀ {l:List T} {vs:List Value},(∀x∈l,∃v,x=T.s v)→RepA V l vs→RepA V' l vs
 | [],vs,_,h=>by cases h;exact .nil
 | x::l,vs,h,hr=>by
  cases hr with | cons h1 h2=>
  obtain⟨v,rfl⟩:=h x (zu ..)
  cases h1 with | s h1=>exact .cons (.s h1) (qqP (fun y hy=>h y (zp _ hy)) h2)
theorem qm8:∀(l:List (U 1)) (x:T),x∈(l.map (view 1)).flatMap T.cells→∃v,x=T.s v
 | [],x,h=>by cases h
 | y::l,x,h=>by
  rcases zJ.1 (show x∈T.s (.int .u32 y)::(l.map (view 1)).flatMap T.cells from h)with rfl | h
  · exact⟨_,rfl⟩
  · exact qm8 l x h
def qik(V:qc)(D:Nat):qc:=fun r=>if r=D then none else V r
theorem qm9{V:qc}{D:Nat}{l:List (U 1)}{v:Value}(hD:∀arr e fr,V D≠some (.cells arr e fr))(h:Rep V (.ql 1 1 l) v):Rep (qik V D) (.ql 1 1 l) v:=by
 cases h with | ql h=>
 cases h with | sl a1 a2 a3 a4 a5 a6=>
 refine .ql (.sl (qqP (qm8 l) a1) a2 a3 a4 a5 (a6.imp id ?_))
 rintro⟨b,off,e,h⟩
 refine⟨b,off,e,fun j c hj=>?_⟩
 obtain⟨arr,e,fr,h1,h2⟩:=h j c hj;refine⟨arr,e,fr,?_,h2⟩
 unfold qik;rw[zZ (fun e2=>by subst e2;exact hD _ _ _ h1)];exact h1
theorem qA8{a:List Int}(h:Wd a):wI (a.map Int.toNat)=a:=by
 induction a with
 | nil=>rfl
 | cons x l ih=>
  have hx:=h.head;show((x.toNat:Nat):Int)::wI (l.map Int.toNat)=_
  rw[ih h.tail];congr 1;omega
theorem short_fing{V:qc}{a:List Int}{b:Nat}{v:Value}(ha:Wd a)(hb0:0<b)(hb1:b<4294967296)(hlen:a.length≤549755813888)(hr:Rep V (.ql 1 1 a) v) :
 yg Tryz.prog 191 #[v,.int .u32 (b:Int)] V [] fun v V' _=>∃rvs,RepA V' [.ql 1 1 (ofN (qa a / b)),.ql 1 1 (ofN (qa a % b))] rvs∧v=JN rvs:=by
 intro w hs _ _ _;obtain⟨zs,hzs⟩:∃zs,a.map Int.toNat=zs:=⟨_,rfl⟩
 have hzl:zs.length=a.length:=by rw[← hzs,zr]
 have hz:∀z∈zs,z<4294967296:=by
  intro z hz;rw[← hzs]at hz;obtain⟨x,hx,rfl⟩:=K4.1 hz;have:=ha x hx;omega
 have hwz:wI zs=a:=by rw[← hzs];exact qA8 ha
 have hW:∃sa cap,v = .slice sa zs.length cap∧qie w.heap.size w (.slice sa zs.length cap) zs:=by
  cases hr with | ql hr=>
  cases hr with | @sl _ _ vs ad cap a1 a2 a3 a4 a5 a6=>
  have hl:(List.map (α:=U 1) (view 1) a).length=zs.length:=by rw[hzl];exact zr ..
  refine⟨ad,cap,by rw[hl],?_⟩
  rcases a6 with a6 | ⟨b2,off,rfl,a6⟩
  · have:zs.length=0:=by rw[← hl,a6];rfl
    exact .inl ⟨VJ this,ad,cap,by rw[this]⟩
  · by_cases h0:zs.length=0
    · exact .inl ⟨VJ h0,_,cap,by rw[h0]⟩
    have hvs:vs=zs.map vW:=by
     have e:=qda zs;rw[hwz]at e;rw[e]at a1;clear e a6 hl hzs hzl hwz h0;induction zs generalizing vs with
     | nil=>cases a1;rfl
     | cons x l ih=>
      cases a1 with | cons k1 k2=>
      cases k1 with | s k1=>
      rw[KY,ih (fun z hz2=>hz z (zp _ hz2)) k2]
    have hrd:∀j,j<zs.length→rd V b2 (off+j) (vW (zs[j]?.getD 0)):=fun j hj=>a6 j _ (by rw[hvs,KQ,zD hj];rfl)
    refine .inr ⟨b2,off,cap,rfl,?_,fun j hj=>?_⟩
    · obtain⟨arr,e,fr,h1,_⟩:=hrd 0 (by omega)
      exact(Km.1 (hs _ _ h1)).1
    · obtain⟨arr,e,fr,h1,h2⟩:=hrd j hj
      exact qaX (hs _ _ h1) h2
 obtain⟨sa,cap,rfl,hI⟩:=hW;refine callsIn_wide.1 (qws Fence.wide 3 trivial trivial trivial rfl (zE _) sa cap b hb0 hb1 zs hz (by omega) w hI ?_)
 intro D ys W Kc hK hD hA hInv hB hDh;have hlt:=qwp hb0 ys;obtain⟨m1,m2⟩:=qFE hz hb0 hA;rw[hwz]at m1 m2;refine qA6 hs hB (zE _) hD hInv.h1 (qoD b ys) (qHm ys) (by omega) hInv.h2 hInv.h3 (by omega) hDh hK ?_
 rintro v1 v2 V1 V2 W2 hx r1 r2 hD2 _
 rw[m2]at r1;rw[m1]at r2;have hnD:∀arr e fr,V1 D≠some (.cells arr e fr):=fun arr e fr h=>by
  have:=hx.view D _ h
  rw[hD2]at this;cases this
 have hoth:∀r,r≠D→(W2.putObj D (.deferred none)).heap[r]?=W2.heap[r]?:=fun r hr=>World.putObj_heap_other hr
 refine⟨_,qik V1 D,[],rfl,⟨⟨hx.ext.os,hx.ext.tape,hx.ext.output,by have:=hx.ext.size;simpa using this,fun k hk _=>(hoth k (by have:k<w.heap.size:=hk;omega)).trans (hx.ext.block k hk (fun h=>h))⟩,
  fun r o hr=>?_,(fun _ hp=>(KT hp).elim),(fun _ hp=>(KT hp).elim),.nil,fun r o hr=>?_,fun r h1 h2=>?_⟩,[v1,v2],.cons (qm9 hnD r1) (.cons (qm9 hnD r2) .nil),rfl⟩
 · unfold qik at hr
   by_cases e:r=D
   · rw[Kp e]at hr;cases hr
   · rw[zZ e]at hr;exact(hoth r e).trans (hx.view r o hr)
 · have hlt2:r<w.heap.size:=(Km.1 (hs r o hr)).1
   unfold qik;rw[zZ (by omega)];exact hx.sub r o hr
 · unfold qik at h2
   by_cases e:r=D
   · rw[Kp e]at h2;exact absurd rfl h2
   · rw[zZ e]at h2
     exact(hx.newer r h1 h2).imp id False.elim
end Go.Proofs.Sho
end
section
namespace Fly
open Go Go.Proofs Su
set_option maxRecDepth 10000
noncomputable def tbN:Tabs Tryz.prog:=Su.Jv.sound.tb
section
variable {P:Program} {n:Nat} {X:Cx} {L:Lo} {V:qc} {G:Own} {Q:Value→qc→Own→Prop}
variable {ty:TypeId} {pos:String} {af:Array Edge} {gd:Option (Nat×Bool)} {ds:Option Tmp}
theorem qkz{t e:TypeId}{a:Option Addr}{len cap:Nat}(hu:P.underlying t=some (.slice e))(w:World):(Op.equal t (.slice a len cap) (.slice none 0 0)).run P w = .ok a.isNone w:=by
 show(Op.equalIn (9999+1) t (.slice a len cap) (.slice none 0 0)).run P w=_
 unfold Op.equalIn;rw[Sem.run_bind,Fly.run_underlying hu];cases a <;> rfl
theorem qgH{t u e:TypeId}{x y:Operand}{a:Option Addr}{len cap:Nat}(hx:ev L x=some (.slice a len cap))(hy:ev L y=some (.slice none 0 0))(hu:P.underlying t=some (.slice e))(k:Q (.bool a.isNone) V G) :
 Opr P n X L V G ⟨ds,.binOp .eql t x y u,ty,pos,af,gd⟩ Q:=qiX hx hy rfl (fun w=>by simp[eqGuard]) (qkz hu) k
end
attribute [local irreducible] WC WE WR Opr St Go.Calls qsD qx3 qhe Rel yg qCj qx4 Owe One qkZ Go.CallsD
theorem qFF{V:qc}{len cap:Nat}{Q:Value→qc→Own→Prop}(hQ:Q (.slice none 0 0) V []):yg Tryz.prog 190 #[.slice none len cap] V [] Q:=by
 refine yH (args:=[_]) Tryz.func190 rfl Tryz.ntmps190 rfl ?_
 intro X w hM hb hw hV0 hR;dsimp only[ZK,zQ,Nat.reduceAdd]
 (repeat' (first | refine J1 ?_ | refine j0 ?_ | refine J4 ?_ | refine Qx ?_ | refine yF ?_ | refine Qv ?_ | refine J3 ?_ | refine Qw ?_ | refine qS ?_ | refine qO ?_ | refine jF rfl ?_ | refine jp ?_ | refine J2 ?_ | ((first | refine Qy rfl ?_ | refine Jd ?_ | refine qbz rfl rfl rfl ?_);(first | (refine qgH (e:=175) rfl rfl (by kernel_rfl) ?_) | refine Qz rfl ?_ | refine j4 rfl ?_ | refine J7 rfl rfl ?_ | refine J8 rfl rfl ?_ | refine J9 rfl rfl ?_ | refine Ya rfl rfl ?_ | refine Yb rfl rfl ?_ | refine Yc rfl rfl ?_ | refine jG rfl rfl ?_ | refine Yf rfl ?_ | refine j8 rfl rfl ?_ | refine j9 rfl rfl ?_ | refine Je rfl rfl (by omega) (by omega) ?_ | refine Jf rfl rfl (by omega) (by omega) ?_ | refine Jg rfl rfl (by omega) (by omega) ?_ | refine Jy rfl rfl ?_ | refine Jz rfl rfl ?_ | refine JA rfl rfl ?_ | refine qI tbN rfl rfl ?_ | refine jO tbN rfl rfl rfl ?_ | refine J5 rfl rfl ?_ | refine qap rfl rfl ?_ | refine J6 rfl rfl ?_ | refine j7 rfl rfl ?_ | refine Yd rfl rfl (by decide) ?_ | refine Ye rfl rfl (by decide) ?_ | refine Yl rfl rfl ?_ | refine QE rfl rfl ?_ | refine Jh rfl rfl (by kernel_rfl) ?_ | refine y6 rfl rfl (by kernel_rfl) ?_ | refine jH tbN rfl rfl rfl ?_ | refine Yg rfl ?_ | refine yS tbN rfl rfl rfl ?_ | (apply yW tbN rfl rfl;(· (first | (refine At.own (?_);repeat (first | exact Has.here | refine Has.there ?_)) | exact At.seen (by assumption)));(· exact rfl)) | (apply yG tbN rfl rfl;(· (first | (refine At.own (?_);repeat (first | exact Has.here | refine Has.there ?_)) | exact At.seen (by assumption)));(· exact rfl)) | (apply yu tbN rfl rfl rfl rfl rfl;(· (repeat (first | exact Upd.here | apply Upd.there)));(· exact rfl)) | (apply yv tbN rfl rfl rfl rfl rfl;(· (repeat (first | exact Upd.here | apply Upd.there)));(· exact rfl)) | (apply yp tbN (by kernel_rfl) rfl (rfl:tbN.fo _ 0=_);(· (repeat (first | exact Fill.nil | (apply Fill.cons;(· exact rfl);(· exact rfl);(· exact rfl);(· exact rfl);(· exact rfl)))))) | (refine yl rfl ?_;intro b) | (refine Qd rfl rfl ?_;intro b) | (refine yo tbN rfl ?_;intro b) | (apply qG tbN;(· exact rfl);(· exact rfl);(· exact rfl);(· decide);(· (repeat (first | exact Cat.nil | (apply Cat.cons;(· exact rfl);(· exact rfl);(· exact rfl)) | exact App.nil | apply App.cons)));intro b))) | refine qgP rfl rfl rfl rfl ?_ | refine jY rfl ?_ | refine jZ rfl ?_ | refine qbA rfl (fun _=>?_) (fun _=>?_) | refine Y3 rfl (fun _=>?_) (fun _=>?_) | refine yY rfl rfl (fun _=>?_) (fun _=>?_) | refine yZ rfl rfl (fun _=>?_) (fun _=>?_) | refine Ji rfl (fun _=>?_) (fun _=>?_) | refine Y6 rfl (fun _=>?_) (fun _=>?_) | refine yw rfl rfl (fun _=>?_) (fun _=>?_) | refine y7 rfl rfl (fun _=>?_) (fun _=>?_)))
 exact Zj hM hw hV0 hR [] (VX _) (qrc rfl rfl) hQ
theorem qFG{V:qc}{a:Addr}{cap:Nat}{Q:Value→qc→Own→Prop}(hQ:∀b,Q (.slice (some ⟨b,0,none⟩) 0 0) V [(b,.cells #[] 175 (0,0))]):yg Tryz.prog 190 #[.slice (some a) 0 cap] V [] Q:=by
 refine yH (args:=[_]) Tryz.func190 rfl Tryz.ntmps190 rfl ?_
 intro X w hM hb hw hV0 hR;dsimp only[ZK,zQ,Nat.reduceAdd]
 (repeat' (first | refine J1 ?_ | refine j0 ?_ | refine J4 ?_ | refine Qx ?_ | refine yF ?_ | refine Qv ?_ | refine J3 ?_ | refine Qw ?_ | refine qS ?_ | refine qO ?_ | refine jF rfl ?_ | refine jp ?_ | refine J2 ?_ | ((first | refine Qy rfl ?_ | refine Jd ?_ | refine qbz rfl rfl rfl ?_);(first | (refine qgH (e:=175) rfl rfl (by kernel_rfl) ?_) | refine Qz rfl ?_ | refine j4 rfl ?_ | refine J7 rfl rfl ?_ | refine J8 rfl rfl ?_ | refine J9 rfl rfl ?_ | refine Ya rfl rfl ?_ | refine Yb rfl rfl ?_ | refine Yc rfl rfl ?_ | refine jG rfl rfl ?_ | refine Yf rfl ?_ | refine j8 rfl rfl ?_ | refine j9 rfl rfl ?_ | refine Je rfl rfl (by omega) (by omega) ?_ | refine Jf rfl rfl (by omega) (by omega) ?_ | refine Jg rfl rfl (by omega) (by omega) ?_ | refine Jy rfl rfl ?_ | refine Jz rfl rfl ?_ | refine JA rfl rfl ?_ | refine qI tbN rfl rfl ?_ | refine jO tbN rfl rfl rfl ?_ | refine J5 rfl rfl ?_ | refine qap rfl rfl ?_ | refine J6 rfl rfl ?_ | refine j7 rfl rfl ?_ | refine Yd rfl rfl (by decide) ?_ | refine Ye rfl rfl (by decide) ?_ | refine Yl rfl rfl ?_ | refine QE rfl rfl ?_ | refine Jh rfl rfl (by kernel_rfl) ?_ | refine y6 rfl rfl (by kernel_rfl) ?_ | refine jH tbN rfl rfl rfl ?_ | refine Yg rfl ?_ | refine yS tbN rfl rfl rfl ?_ | (apply yW tbN rfl rfl;(· (first | (refine At.own (?_);repeat (first | exact Has.here | refine Has.there ?_)) | exact At.seen (by assumption)));(· exact rfl)) | (apply yG tbN rfl rfl;(· (first | (refine At.own (?_);repeat (first | exact Has.here | refine Has.there ?_)) | exact At.seen (by assumption)));(· exact rfl)) | (apply yu tbN rfl rfl rfl rfl rfl;(· (repeat (first | exact Upd.here | apply Upd.there)));(· exact rfl)) | (apply yv tbN rfl rfl rfl rfl rfl;(· (repeat (first | exact Upd.here | apply Upd.there)));(· exact rfl)) | (apply yp tbN (by kernel_rfl) rfl (rfl:tbN.fo _ 0=_);(· (repeat (first | exact Fill.nil | (apply Fill.cons;(· exact rfl);(· exact rfl);(· exact rfl);(· exact rfl);(· exact rfl)))))) | (refine yl rfl ?_;intro b) | (refine Qd rfl rfl ?_;intro b) | (refine yo tbN rfl ?_;intro b) | (apply qG tbN;(· exact rfl);(· exact rfl);(· exact rfl);(· decide);(· (repeat (first | exact Cat.nil | (apply Cat.cons;(· exact rfl);(· exact rfl);(· exact rfl)) | exact App.nil | apply App.cons)));intro b))) | refine qgP rfl rfl rfl rfl ?_ | refine jY rfl ?_ | refine jZ rfl ?_ | refine qbA rfl (fun _=>?_) (fun _=>?_) | refine Y3 rfl (fun _=>?_) (fun _=>?_) | refine yY rfl rfl (fun _=>?_) (fun _=>?_) | refine yZ rfl rfl (fun _=>?_) (fun _=>?_) | refine Ji rfl (fun _=>?_) (fun _=>?_) | refine Y6 rfl (fun _=>?_) (fun _=>?_) | refine yw rfl rfl (fun _=>?_) (fun _=>?_) | refine y7 rfl rfl (fun _=>?_) (fun _=>?_)))
 refine Qy rfl (ZR (e:=175) (k:=1) tbN rfl rfl rfl (zE 0) ?_)
 (repeat' (first | refine J1 ?_ | refine j0 ?_ | refine J4 ?_ | refine Qx ?_ | refine yF ?_ | refine Qv ?_ | refine J3 ?_ | refine Qw ?_ | refine qS ?_ | refine qO ?_ | refine jF rfl ?_ | refine jp ?_ | refine J2 ?_ | ((first | refine Qy rfl ?_ | refine Jd ?_ | refine qbz rfl rfl rfl ?_);(first | refine Qz rfl ?_ | refine j4 rfl ?_ | refine J7 rfl rfl ?_ | refine J8 rfl rfl ?_ | refine J9 rfl rfl ?_ | refine Ya rfl rfl ?_ | refine Yb rfl rfl ?_ | refine Yc rfl rfl ?_ | refine jG rfl rfl ?_ | refine Yf rfl ?_ | refine j8 rfl rfl ?_ | refine j9 rfl rfl ?_ | refine Je rfl rfl (by omega) (by omega) ?_ | refine Jf rfl rfl (by omega) (by omega) ?_ | refine Jg rfl rfl (by omega) (by omega) ?_ | refine Jy rfl rfl ?_ | refine Jz rfl rfl ?_ | refine JA rfl rfl ?_ | refine qI tbN rfl rfl ?_ | refine jO tbN rfl rfl rfl ?_ | refine J5 rfl rfl ?_ | refine qap rfl rfl ?_ | refine J6 rfl rfl ?_ | refine j7 rfl rfl ?_ | refine Yd rfl rfl (by decide) ?_ | refine Ye rfl rfl (by decide) ?_ | refine Yl rfl rfl ?_ | refine QE rfl rfl ?_ | refine Jh rfl rfl (by kernel_rfl) ?_ | refine y6 rfl rfl (by kernel_rfl) ?_ | refine jH tbN rfl rfl rfl ?_ | refine Yg rfl ?_ | refine yS tbN rfl rfl rfl ?_ | (apply yW tbN rfl rfl;(· (first | (refine At.own (?_);repeat (first | exact Has.here | refine Has.there ?_)) | exact At.seen (by assumption)));(· exact rfl)) | (apply yG tbN rfl rfl;(· (first | (refine At.own (?_);repeat (first | exact Has.here | refine Has.there ?_)) | exact At.seen (by assumption)));(· exact rfl)) | (apply yu tbN rfl rfl rfl rfl rfl;(· (repeat (first | exact Upd.here | apply Upd.there)));(· exact rfl)) | (apply yv tbN rfl rfl rfl rfl rfl;(· (repeat (first | exact Upd.here | apply Upd.there)));(· exact rfl)) | (apply yp tbN (by kernel_rfl) rfl (rfl:tbN.fo _ 0=_);(· (repeat (first | exact Fill.nil | (apply Fill.cons;(· exact rfl);(· exact rfl);(· exact rfl);(· exact rfl);(· exact rfl)))))) | (refine yl rfl ?_;intro b) | (refine Qd rfl rfl ?_;intro b) | (refine yo tbN rfl ?_;intro b) | (apply qG tbN;(· exact rfl);(· exact rfl);(· exact rfl);(· decide);(· (repeat (first | exact Cat.nil | (apply Cat.cons;(· exact rfl);(· exact rfl);(· exact rfl)) | exact App.nil | apply App.cons)));intro b))) | refine qgP rfl rfl rfl rfl ?_ | refine jY rfl ?_ | refine jZ rfl ?_ | refine qbA rfl (fun _=>?_) (fun _=>?_) | refine Y3 rfl (fun _=>?_) (fun _=>?_) | refine yY rfl rfl (fun _=>?_) (fun _=>?_) | refine yZ rfl rfl (fun _=>?_) (fun _=>?_) | refine Ji rfl (fun _=>?_) (fun _=>?_) | refine Y6 rfl (fun _=>?_) (fun _=>?_) | refine yw rfl rfl (fun _=>?_) (fun _=>?_) | refine y7 rfl rfl (fun _=>?_) (fun _=>?_)))
 exact Zj hM hw hV0 hR [(b,.cells #[] 175 (0,0))] (VX _) (qrc rfl rfl) (hQ b)
theorem qFH{V:qc}{bb off len cap:Nat}{news:List Value}{Q:Value→qc→Own→Prop}(hn:news.length=len*1)(h1:∀u∈news,u.oneCell'=true)(hr:∀(j:Nat) (u:Value),news[j]?=some u→rd V bb (off+j) u)(h0:0<len)(hl:len≤549755813888)
 (hQ:∀v' Gr',RowC 175 1 v' Gr' len news→Q v' V Gr'):yg Tryz.prog 190 #[.slice (some ⟨bb,off,none⟩) len cap] V [] Q:=by
 refine yH (args:=[_]) Tryz.func190 rfl Tryz.ntmps190 rfl ?_
 intro X w hM hb hw hV0 hR;dsimp only[ZK,zQ,Nat.reduceAdd]
 (repeat' (first | refine J1 ?_ | refine j0 ?_ | refine J4 ?_ | refine Qx ?_ | refine yF ?_ | refine Qv ?_ | refine J3 ?_ | refine Qw ?_ | refine qS ?_ | refine qO ?_ | refine jF rfl ?_ | refine jp ?_ | refine J2 ?_ | ((first | refine Qy rfl ?_ | refine Jd ?_ | refine qbz rfl rfl rfl ?_);(first | (refine qgH (e:=175) rfl rfl (by kernel_rfl) ?_) | refine Qz rfl ?_ | refine j4 rfl ?_ | refine J7 rfl rfl ?_ | refine J8 rfl rfl ?_ | refine J9 rfl rfl ?_ | refine Ya rfl rfl ?_ | refine Yb rfl rfl ?_ | refine Yc rfl rfl ?_ | refine jG rfl rfl ?_ | refine Yf rfl ?_ | refine j8 rfl rfl ?_ | refine j9 rfl rfl ?_ | refine Je rfl rfl (by omega) (by omega) ?_ | refine Jf rfl rfl (by omega) (by omega) ?_ | refine Jg rfl rfl (by omega) (by omega) ?_ | refine Jy rfl rfl ?_ | refine Jz rfl rfl ?_ | refine JA rfl rfl ?_ | refine qI tbN rfl rfl ?_ | refine jO tbN rfl rfl rfl ?_ | refine J5 rfl rfl ?_ | refine qap rfl rfl ?_ | refine J6 rfl rfl ?_ | refine j7 rfl rfl ?_ | refine Yd rfl rfl (by decide) ?_ | refine Ye rfl rfl (by decide) ?_ | refine Yl rfl rfl ?_ | refine QE rfl rfl ?_ | refine Jh rfl rfl (by kernel_rfl) ?_ | refine y6 rfl rfl (by kernel_rfl) ?_ | refine jH tbN rfl rfl rfl ?_ | refine Yg rfl ?_ | refine yS tbN rfl rfl rfl ?_ | (apply yW tbN rfl rfl;(· (first | (refine At.own (?_);repeat (first | exact Has.here | refine Has.there ?_)) | exact At.seen (by assumption)));(· exact rfl)) | (apply yG tbN rfl rfl;(· (first | (refine At.own (?_);repeat (first | exact Has.here | refine Has.there ?_)) | exact At.seen (by assumption)));(· exact rfl)) | (apply yu tbN rfl rfl rfl rfl rfl;(· (repeat (first | exact Upd.here | apply Upd.there)));(· exact rfl)) | (apply yv tbN rfl rfl rfl rfl rfl;(· (repeat (first | exact Upd.here | apply Upd.there)));(· exact rfl)) | (apply yp tbN (by kernel_rfl) rfl (rfl:tbN.fo _ 0=_);(· (repeat (first | exact Fill.nil | (apply Fill.cons;(· exact rfl);(· exact rfl);(· exact rfl);(· exact rfl);(· exact rfl)))))) | (refine yl rfl ?_;intro b) | (refine Qd rfl rfl ?_;intro b) | (refine yo tbN rfl ?_;intro b) | (apply qG tbN;(· exact rfl);(· exact rfl);(· exact rfl);(· decide);(· (repeat (first | exact Cat.nil | (apply Cat.cons;(· exact rfl);(· exact rfl);(· exact rfl)) | exact App.nil | apply App.cons)));intro b))) | refine qgP rfl rfl rfl rfl ?_ | refine jY rfl ?_ | refine jZ rfl ?_ | refine qbA rfl (fun _=>?_) (fun _=>?_) | refine Y3 rfl (fun _=>?_) (fun _=>?_) | refine yY rfl rfl (fun _=>?_) (fun _=>?_) | refine yZ rfl rfl (fun _=>?_) (fun _=>?_) | refine Ji rfl (fun _=>?_) (fun _=>?_) | refine Y6 rfl (fun _=>?_) (fun _=>?_) | refine yw rfl rfl (fun _=>?_) (fun _=>?_) | refine y7 rfl rfl (fun _=>?_) (fun _=>?_)))
 refine Qy rfl (ZS (e:=175) (k:=1) (m:=0) (z:=[.int .u32 0]) (Gr:=[(b,.cells #[] 175 (0,0))]) (G1:=[]) (xs:=[]) (news:=news) tbN rfl rfl rfl (zo (by kernel_rfl)) rfl rfl (fun w hw j u hj=>?_) hn h1 (RowC.some (g:=b) (cur:=#[]) (zE 0) (zE 0) (by simp[maxLen]) rfl rfl) (Kz _) h0 (by omega) fun v' Gr' hR'=>?_)
 · obtain⟨arr,e,f0,q1,q2⟩:=hr j u hj
   rw[yV,yA (hw.view _ _ q1)];exact q2
 · (repeat' (first | refine J1 ?_ | refine j0 ?_ | refine J4 ?_ | refine Qx ?_ | refine yF ?_ | refine Qv ?_ | refine J3 ?_ | refine Qw ?_ | refine qS ?_ | refine qO ?_ | refine jF rfl ?_ | refine jp ?_ | refine J2 ?_ | ((first | refine Qy rfl ?_ | refine Jd ?_ | refine qbz rfl rfl rfl ?_);(first | refine Qz rfl ?_ | refine j4 rfl ?_ | refine J7 rfl rfl ?_ | refine J8 rfl rfl ?_ | refine J9 rfl rfl ?_ | refine Ya rfl rfl ?_ | refine Yb rfl rfl ?_ | refine Yc rfl rfl ?_ | refine jG rfl rfl ?_ | refine Yf rfl ?_ | refine j8 rfl rfl ?_ | refine j9 rfl rfl ?_ | refine Je rfl rfl (by omega) (by omega) ?_ | refine Jf rfl rfl (by omega) (by omega) ?_ | refine Jg rfl rfl (by omega) (by omega) ?_ | refine Jy rfl rfl ?_ | refine Jz rfl rfl ?_ | refine JA rfl rfl ?_ | refine qI tbN rfl rfl ?_ | refine jO tbN rfl rfl rfl ?_ | refine J5 rfl rfl ?_ | refine qap rfl rfl ?_ | refine J6 rfl rfl ?_ | refine j7 rfl rfl ?_ | refine Yd rfl rfl (by decide) ?_ | refine Ye rfl rfl (by decide) ?_ | refine Yl rfl rfl ?_ | refine QE rfl rfl ?_ | refine Jh rfl rfl (by kernel_rfl) ?_ | refine y6 rfl rfl (by kernel_rfl) ?_ | refine jH tbN rfl rfl rfl ?_ | refine Yg rfl ?_ | refine yS tbN rfl rfl rfl ?_ | (apply yW tbN rfl rfl;(· (first | (refine At.own (?_);repeat (first | exact Has.here | refine Has.there ?_)) | exact At.seen (by assumption)));(· exact rfl)) | (apply yG tbN rfl rfl;(· (first | (refine At.own (?_);repeat (first | exact Has.here | refine Has.there ?_)) | exact At.seen (by assumption)));(· exact rfl)) | (apply yu tbN rfl rfl rfl rfl rfl;(· (repeat (first | exact Upd.here | apply Upd.there)));(· exact rfl)) | (apply yv tbN rfl rfl rfl rfl rfl;(· (repeat (first | exact Upd.here | apply Upd.there)));(· exact rfl)) | (apply yp tbN (by kernel_rfl) rfl (rfl:tbN.fo _ 0=_);(· (repeat (first | exact Fill.nil | (apply Fill.cons;(· exact rfl);(· exact rfl);(· exact rfl);(· exact rfl);(· exact rfl)))))) | (refine yl rfl ?_;intro b) | (refine Qd rfl rfl ?_;intro b) | (refine yo tbN rfl ?_;intro b) | (apply qG tbN;(· exact rfl);(· exact rfl);(· exact rfl);(· decide);(· (repeat (first | exact Cat.nil | (apply Cat.cons;(· exact rfl);(· exact rfl);(· exact rfl)) | exact App.nil | apply App.cons)));intro b))) | refine qgP rfl rfl rfl rfl ?_ | refine jY rfl ?_ | refine jZ rfl ?_ | refine qbA rfl (fun _=>?_) (fun _=>?_) | refine Y3 rfl (fun _=>?_) (fun _=>?_) | refine yY rfl rfl (fun _=>?_) (fun _=>?_) | refine yZ rfl rfl (fun _=>?_) (fun _=>?_) | refine Ji rfl (fun _=>?_) (fun _=>?_) | refine Y6 rfl (fun _=>?_) (fun _=>?_) | refine yw rfl rfl (fun _=>?_) (fun _=>?_) | refine y7 rfl rfl (fun _=>?_) (fun _=>?_)))
   rw[zO];refine Zj hM hw hV0 hR Gr' (VX _) (qrc rfl rfl) (hQ _ _ ?_)
   rw[zQ,zX]at hR';exact hR'
end Fly
namespace Su
open Go Go.Proofs Fly
theorem qoF(l:List T):sub l 0 l.length=some l:=YL l
theorem qkA{P:Program}{f:Nat}{V:qc}{vs:List Value}{l:List T}{e w:Nat}
 (h:yg P f vs.toArray V [] fun v V' G'=>∃ie,RepOB V' [ie] (.row false e w l) ie G'∧RepS V' [ie] (.osl 0 0 l.length) v):yg P f vs.toArray V [] fun v V' _=>∃rvs,RepA V' [.sl w l] rvs∧v=JN rvs:=by
 intro w0 hs hG hV hnd;refine(h w0 hs hG hV hnd).mono ?_
 rintro ex w' ⟨v,V',G',rfl,hh,ie,m1,m2⟩
 have hsub:sub l 0 l.length=some l:=qoF l
 have hz:toTs 64 ⟨[],[],[.row false e w l]⟩ [.osl 0 0 l.length]=some ([.sl w l],(St.mk [] [] [.row false e w l]).frow 0 w l):=by
  simp only[toTs,toT,VC,hsub,zi]
 obtain⟨V2,G2,g2,s2,r2,_⟩:=(yK (I:=[ie]) (L:=[]) 64).2 ⟨[],[],[.row false e w l]⟩ _ [.osl 0 0 l.length] _ hz V' G' [v] (.cons m2 .nil) ⟨⟨G'++[],.cons m1 .nil,by rw[zO]⟩,fun d sv hd _=>by simp[St.look]at hd⟩ ⟨fun p hp=>(hh.free p (by simp[hp])).2,by have:=hh.nodup;simpa using this⟩
 exact⟨_,V2,G2,rfl,g2.holds _ _ hh,[v],r2,rfl⟩
noncomputable def qwL:PrimD:=⟨List Int,fun xs=>((d1 (cQ 1 1)).dec xs).bind fun l=>bif qmb l then some l else none,fun l=>[.sl 1 (l.map eW)],none,some (175,1),fun _=>none⟩
theorem qoG{V:qc}{v:Value}{l:List T}(hl:l.length≤549755813888)(h:Rep V (.sl 1 l) v) :
 yg Tryz.prog 190 #[v] V [] fun v' V' G'=>∃ie,RepOB V' [ie] (.row false 175 1 l) ie G'∧RepS V' [ie] (.osl 0 0 l.length) v':=by
 cases h with | @sl _ _ vs a cap a1 a2 a3 a4 a5 a6=>
 have hn:vs.length=l.length*1:=by rw[← a1.length,y8 a3]
 by_cases h0:l=[]
 · subst h0
   cases a with
   | none=>exact qFF ⟨.vrow,.vrow,.oslv rfl⟩
   | some a=>exact qFG fun b=>⟨.row b 1 0,.row (by simp) (by simp[maxLen]) (by simp) (by simpa using RepA.nil) (by simp) (by simp),by
    have:=RepS.osl (V:=V) (I:=[IE.row b 1 0]) (n:=0) (off:=0) (len:=0) (b:=b) (k:=1) (ct:=0) (cap:=0) rfl (by omega) (by simp[maxLen]) ⟨by simp,by simp⟩
    simpa using this⟩
 · have yQ:0<l.length:=Kg.2 h0
   rcases a6 with a6 | ⟨b,off,rfl,a6⟩
   · exact absurd a6 h0
   · refine qFH hn (QH a1 a2) a6 yQ hl fun v' Gr' hR=>?_
     obtain⟨b',ct,cap,rfl,b1,b2,b3⟩:=qpo (V:=V) (I:=[.row 0 0 0]) (l:=l) hR yQ rfl a1 a2 a3
     refine⟨.row b' 1 ct,b3.row_any,?_⟩
     have:=RepS.osl (V:=V) (I:=[IE.row b' 1 ct]) (n:=0) (off:=0) (len:=l.length) (b:=b') (k:=1) (ct:=ct) (cap:=cap) rfl (by omega) b2 ⟨b1.1,by omega⟩
     rw[Vo]at this;exact this
theorem qna(xs:List T)(y:List Int)(h:((d1 (cQ 1 1)).dec xs).bind (fun l=>bif qmb l then some l else none)=some y)(V:qc)(vs:List Value)(hr:RepA V xs vs) :
 yg Tryz.prog 190 vs.toArray V [] fun v V' G'=>∃ie,RepOB V' [ie] (.row false 175 1 (y.map eW)) ie G'∧RepS V' [ie] (.osl 0 0 (y.map eW).length) v:=by
 obtain⟨l,h1,h2⟩:=osm h;obtain⟨h3,h4⟩:=qi h2;have:=soi h4;subst this
 have hr2:=(d1 (cQ 1 1)).rep h1 hr
 cases hr2 with | cons k1 k2=>cases k2 with | nil=>
 cases k1 with | ql k1=>
 exact qoG (l:=l.map eW) (by have h5:(l.map (view 1)).length=l.length:=zr ..;rw[show(List.map eW l).length=l.length from h5];exact zo h3) k1
theorem qwM:OkT 190 qwL:=by
 refine⟨by kernel_rfl,fun xs y h V vs _ hr=>qkA (qna xs y h V vs hr),fun j hj xs y h V vs _ hr=>?_⟩
 have hj:some ((175,1):Nat×Nat)=some j:=hj
 simp only[zg]at hj;subst hj;intro w0 a1 a2 a3 a4;refine(qna xs y h V vs hr w0 a1 a2 a3 a4).mono ?_
 rintro e w' ⟨v,V',G',rfl,hh,ie,m1,m2⟩
 refine⟨v,V',G',rfl,hh,fun w l he hw=>?_⟩
 have he:[T.sl 1 (y.map eW)]=[.sl w l]:=he
 simp only[V9,T.sl.injEq,and_true]at he;obtain⟨rfl,rfl⟩:=he;exact⟨ie,m1,m2⟩
end Su
end
section
namespace Su
noncomputable section
open Go Go.Proofs Fly
def qqQ:PrimD:=prim (dc (cQ 1 1) (d1 (cI .u32))) (dc (cQ 1 1) (d1 (cQ 1 1))) qcM
theorem qA9:OkT 191 qqQ:=by
 refine⟨by kernel_rfl,fun xs y h V vs _ hr=>?_,fun j hj=>nomatch hj⟩
 obtain⟨p,h1,h2⟩:=osm (show((dc (cQ 1 1) (d1 (cI .u32))).dec xs).bind qcM=some y from h)
 have hr2:=(dc (cQ 1 1) (d1 (cI .u32))).rep h1 hr
 have hg:=(dc (cQ 1 1) (d1 (cI .u32))).rng hr2
 obtain⟨a,b⟩:=p;obtain⟨h3,h4⟩:=qi h2;have:=soi h4;subst this
 rw[zm,zF]at h3;obtain⟨⟨ha,la⟩,hb⟩:=hg;have hb:=qeW.1 hb;obtain⟨h3a,h3b⟩:=h3;have h3a:0<b:=h3a
 obtain⟨B,rfl⟩:∃B:Nat,b=(B:Int):=⟨b.toNat,by omega⟩
 cases hr2 with | cons k1 k2=>
 cases k2 with | cons k2 k3=>
 cases k3 with | nil=>
 cases k2 with | s k2=>
 exact Go.Proofs.Sho.short_fing (Wd.of ha) (by omega) (by have:=hb.2;omega) (zo h3b) k1
def qqR:PrimD:=prim (d1 (cQ 1 1)) (d1 (cQ 1 1)) Jj
theorem qBa:OkT 190 qqR:=by
 refine⟨by kernel_rfl,fun xs y h V vs hg hr=>?_,fun j hj=>nomatch hj⟩
 have hF:=qwM.2.1 xs y h V vs hg hr;intro w a1 a2 a3 a4;refine(hF w a1 a2 a3 a4).mono ?_
 rintro e w' ⟨v,V',G',rfl,hh,rvs,m1,rfl⟩
 refine⟨_,V',G',rfl,hh,rvs,?_,rfl⟩
 have m1:RepA V' [.sl 1 (List.map (view 1) (y:List (U 1)))] rvs:=m1
 cases m1 with | cons k1 k2=>cases k2 with | nil=>exact .cons (.ql k1) .nil
def qkB:qp:=qV [(190,qqR),(191,qqQ)] qwJ
theorem qil:PkT qkB:=qn qsh (qf qBa (qf qA9 qr))
end
end Su
end
section
namespace Su
noncomputable section
open Go Go.Proofs Fly
set_option maxRecDepth 100000
theorem qFI(fu:Nat)(a:(List Int))(b:(List Int)):qz tb qkB (shN tb qkB fu 9) fu 147 ((dc (cQ 1 1) (d1 (cQ 1 1))).enc (a,b)) (dc (cQ 1 1) (dc (cQ 1 1) (d1 (cI .i64)))).dec=Div fu a b:=by kernel_rfl
def qCV:PrimD:=prim (dc (cQ 1 1) (d1 (cQ 1 1))) (dc (cQ 1 1) (dc (cQ 1 1) (d1 (cI .i64)))) (qcN)
theorem qHn:OkT 147 qCV:=qj qy qil (by kernel_rfl) fun a y hg h=>by
 obtain⟨n,hn⟩:=qD7 a y hg h;exact⟨n,9,n,(qFI n a.1 a.2).trans hn⟩
def qkC:qp:=qV [(147,qCV)] qkB
theorem qim:PkT qkC:=qn qil (qf qHn qr)
end
end Su
end
section
namespace Su
noncomputable section
open Go Go.Proofs Fly
set_option maxRecDepth 100000
theorem qFJ(fu:Nat)(a:(List Int))(b:(List Int)):qz tb qkC (shN tb qkC fu 9) fu 146 ((dc (cQ 1 1) (d1 (cQ 1 1))).enc (a,b)) (d1 (cQ 1 1)).dec=Gcd fu a b:=by kernel_rfl
def qCW:PrimD:=prim (dc (cQ 1 1) (d1 (cQ 1 1))) (d1 (cQ 1 1)) (qmd)
theorem qHo:OkT 146 qCW:=qj qy qim (by kernel_rfl) fun a y hg h=>by
 obtain⟨n,hn⟩:=qD9 a y hg h;exact⟨n,9,n,(qFJ n a.1 a.2).trans hn⟩
def qkD:qp:=qV [(146,qCW)] qkC
theorem qin:PkT qkD:=qn qim (qf qHo qr)
end
end Su
end
section
namespace Su
noncomputable section
open Go Go.Proofs Fly
set_option maxRecDepth 100000
theorem qFK(fu:Nat)  (neg:Bool)(num:(List Int))(den:(List Int)):qz tb qkD (shN tb qkD fu 9) fu 65 ((dc cB (dc (cQ 1 1) (d1 (cQ 1 1)))).enc (neg,num,den)) (d1 cRt).dec=Low neg num den:=by kernel_rfl
def qCX:PrimD:=prim (dc cB (dc (cQ 1 1) (d1 (cQ 1 1)))) (d1 cRt) (YM)
theorem qHp:OkT 65 qCX:=qj qy qin (by kernel_rfl) fun a y hg h=>⟨0,9,0,(qFK 0 a.1 a.2.1 a.2.2).trans (qEa a y hg h)⟩
def JH:qp:=qV [(65,qCX)] qkD
theorem J0:PkT JH:=qn qin (qf qHp qr)
end
end Su
end
section
namespace Su
noncomputable section
open Go Go.Proofs Fly
set_option maxRecDepth 100000
theorem qBb(fu:Nat)  (a:(Bool×(List Int)×List Int)):qz tb JH (shN tb JH fu 9) fu 66 ((d1 cRt).enc (a)) (d1 cRt).dec=RLow a:=by kernel_rfl
def qwN:PrimD:=prim (d1 cRt) (d1 cRt) (Za)
theorem qFL:OkT 66 qwN:=qj qy J0 (by kernel_rfl) fun a y hg h=>⟨0,9,0,(qBb 0 a).trans (qzn a y hg h)⟩
theorem qBc(fu:Nat)  (x:Int):qz tb JH (shN tb JH fu 9) fu 26 ((d1 (cI .i64)).enc (x)) (d1 cRt).dec=qEb x:=by kernel_rfl
def qwO:PrimD:=prim (d1 (cI .i64)) (d1 cRt) (quB)
theorem qFM:OkT 26 qwO:=qj qy J0 (by kernel_rfl) fun a y hg h=>⟨0,9,0,(qBc 0 a).trans (qzp a y hg h)⟩
theorem qwP(fu:Nat)  (neg:Bool)(m:Int)(e:Int):qz tb JH (shN tb JH fu 9) fu 63 ((dc cB (dc (cI .u64) (d1 (cI .i64)))).enc (neg,m,e)) (dc cRt (d1 (cI .i64))).dec=qme neg m e:=by kernel_rfl
def qqS:PrimD:=prim (dc cB (dc (cI .u64) (d1 (cI .i64)))) (dc cRt (d1 (cI .i64))) (qbg)
theorem qBd:OkT 63 qqS:=qj qy J0 (by kernel_rfl) fun a y hg h=>⟨0,9,0,(qwP 0 a.1 a.2.1 a.2.2).trans (quE a y hg h)⟩
theorem qwQ(fu:Nat)  (a:(Bool×(List Int)×List Int)):qz tb JH (shN tb JH fu 9) fu 48 ((d1 cRt).enc (a)) (d1 cRt).dec=qCt a:=by kernel_rfl
def qqT:PrimD:=prim (d1 cRt) (d1 cRt) (qcO)
theorem qBe:OkT 48 qqT:=qj qy J0 (by kernel_rfl) fun a y hg h=>⟨0,9,0,(qwQ 0 a).trans (quA a y hg h)⟩
theorem qBf(fu:Nat)  (a:(Bool×(List Int)×List Int)):qz tb JH (shN tb JH fu 9) fu 17 ((d1 cRt).enc (a)) (d1 cRt).dec=RAbs a:=by kernel_rfl
def qwR:PrimD:=prim (d1 cRt) (d1 cRt) (Zb)
theorem qFN:OkT 17 qwR:=qj qy J0 (by kernel_rfl) fun a y hg h=>⟨0,9,0,(qBf 0 a).trans (qzo a y hg h)⟩
def qaZ:qp:=qV [(66,qwN),(26,qwO),(63,qqS),(48,qqT),(17,qwR)] JH
theorem qbs:PkT qaZ:=qn J0 (qf qFL (qf qFM (qf qBd (qf qBe (qf qFN qr)))))
end
end Su
end
section
namespace Su
noncomputable section
open Go Go.Proofs Fly
set_option maxRecDepth 100000
theorem qBg(fu:Nat)  (a:(Bool×(List Int)×List Int))(b:(Bool×(List Int)×List Int)):qz tb qaZ (shN tb qaZ fu 9) fu 46 ((dc cRt (d1 cRt)).enc (a,b)) (d1 cRt).dec=qEd a b:=by kernel_rfl
def qwS:PrimD:=prim (dc cRt (d1 cRt)) (d1 cRt) (quF)
theorem qFO:OkT 46 qwS:=qj qy qbs (by kernel_rfl) fun a y hg h=>⟨0,9,0,(qBg 0 a.1 a.2).trans (qzr a y hg h)⟩
theorem qBh(fu:Nat)  (a:(Bool×(List Int)×List Int))(b:(Bool×(List Int)×List Int)):qz tb qaZ (shN tb qaZ fu 9) fu 43 ((dc cRt (d1 cRt)).enc (a,b)) (d1 cRt).dec=qEe a b:=by kernel_rfl
def qwT:PrimD:=prim (dc cRt (d1 cRt)) (d1 cRt) (Z4)
theorem qFP:OkT 43 qwT:=qj qy qbs (by kernel_rfl) fun a y hg h=>⟨0,9,0,(qBh 0 a.1 a.2).trans (qzt a y hg h)⟩
theorem qBi(fu:Nat)  (a:(Bool×(List Int)×List Int))(b:(Bool×(List Int)×List Int)):qz tb qaZ (shN tb qaZ fu 9) fu 18 ((dc cRt (d1 cRt)).enc (a,b)) (d1 (cI .i64)).dec=qEf a b:=by kernel_rfl
def qwU:PrimD:=prim (dc cRt (d1 cRt)) (d1 (cI .i64)) (qaM)
theorem qFQ:OkT 18 qwU:=qj qy qbs (by kernel_rfl) fun a y hg h=>⟨0,9,0,(qBi 0 a.1 a.2).trans (qzu a y hg h)⟩
def qdZ:qp:=qV [(46,qwS),(43,qwT),(18,qwU)] qaZ
theorem qd0:PkT qdZ:=qn qbs (qf qFO (qf qFP (qf qFQ qr)))
end
end Su
end
section
namespace Su
noncomputable section
open Go Go.Proofs Fly
set_option maxRecDepth 100000
theorem qBj(fu:Nat)  (a:(Bool×(List Int)×List Int))(b:(Bool×(List Int)×List Int)):qz tb qdZ (shN tb qdZ fu 9) fu 16 ((dc cRt (d1 cRt)).enc (a,b)) (d1 cRt).dec=qEh a b:=by kernel_rfl
def qwV:PrimD:=prim (dc cRt (d1 cRt)) (d1 cRt) (qaN)
theorem qFR:OkT 16 qwV:=qj qy qd0 (by kernel_rfl) fun a y hg h=>⟨0,9,0,(qBj 0 a.1 a.2).trans (qzv a y hg h)⟩
theorem qBk(fu:Nat)  (f:Int):qz tb qdZ (shN tb qdZ fu 9) fu 14 ((d1 (cI .u64)).enc (f)) (dc cRt (d1 cB)).dec=qEi f:=by kernel_rfl
def qwW:PrimD:=prim (d1 (cI .u64)) (dc cRt (d1 cB)) (QN)
theorem qFS:OkT 14 qwW:=qj qy qd0 (by kernel_rfl) fun a y hg h=>⟨0,9,0,(qBk 0 a).trans (qzw a y hg h)⟩
def qd1:qp:=qV [(16,qwV),(14,qwW)] qdZ
theorem qd2:PkT qd1:=qn qd0 (qf qFR (qf qFS qr))
end
end Su
end
section
namespace Su
noncomputable section
open Go Go.Proofs Fly
set_option maxRecDepth 100000
theorem qBl(fu:Nat)(l:(List Int)):qz tb qd1 (shN tb qd1 fu 9) fu 127 ((d1 (cQ 2 1)).enc (l)) (d1 (cI .u64)).dec=qEk fu l:=by kernel_rfl
def qwX:PrimD:=prim (d1 (cQ 2 1)) (d1 (cI .u64)) (quK)
theorem qFT:OkT 127 qwX:=qj qy qd2 (by kernel_rfl) fun a y hg h=>by
 obtain⟨n,hn⟩:=qzx a y hg h;exact⟨n,9,n,(qBl n a).trans hn⟩
theorem qBm(fu:Nat)(l:(List Int)):qz tb qd1 (shN tb qd1 fu 9) fu 162 ((d1 (cQ 2 1)).enc (l)) (d1 (cI .u64)).dec=qEl fu l:=by kernel_rfl
def qwY:PrimD:=prim (d1 (cQ 2 1)) (d1 (cI .u64)) (quL)
theorem qFU:OkT 162 qwY:=qj qy qd2 (by kernel_rfl) fun a y hg h=>by
 obtain⟨n,hn⟩:=qzy a y hg h;exact⟨n,9,n,(qBm n a).trans hn⟩
def qd3:qp:=qV [(127,qwX),(162,qwY)] qd1
theorem qd4:PkT qd3:=qn qd2 (qf qFT (qf qFU qr))
end
end Su
end
section
namespace Su
noncomputable section
open Go Go.Proofs Fly
set_option maxRecDepth 100000
theorem qBn(fu:Nat)  (f:Int):qz tb qd3 (shN tb qd3 fu 9) fu 107 ((d1 (cI .u64)).enc (f)) (d1 cB).dec=qEm f:=by kernel_rfl
def qoH:PrimD:=prim (d1 (cI .u64)) (d1 cB) (quN)
theorem qwZ:OkT 107 qoH:=qj qy qd4 (by kernel_rfl) fun a y hg h=>⟨0,9,0,(qBn 0 a).trans (qzz a y hg h)⟩
theorem qw0(fu:Nat)  (f:Int):qz tb qd3 (shN tb qd3 fu 9) fu 106 ((d1 (cI .u64)).enc (f)) (d1 cB).dec=quM f:=by kernel_rfl
def qkE:PrimD:=prim (d1 (cI .u64)) (d1 cB) (qpX)
theorem qqU:OkT 106 qkE:=qj qy qd4 (by kernel_rfl) fun a y hg h=>⟨0,9,0,(qw0 0 a).trans (quO a y hg h)⟩
def Jo:qp:=qV [(107,qoH),(106,qkE)] qd3
theorem YD:PkT Jo:=qn qd4 (qf qwZ (qf qqU qr))
end
end Su
end
section
namespace Su
noncomputable section
open Go Go.Proofs Fly
set_option maxRecDepth 100000
theorem qw1(fu:Nat)  (x:Int):qz tb Jo (shN tb Jo fu 9) fu 219 ((d1 (cI .u64)).enc (x)) (d1 (cI .i64)).dec=quS x:=by kernel_rfl
def qqV:PrimD:=prim (d1 (cI .u64)) (d1 (cI .i64)) (qpY)
theorem qBo:OkT 219 qqV:=qj qy YD (by kernel_rfl) fun a y hg h=>⟨0,9,0,(qw1 0 a).trans (quU a y hg h)⟩
theorem qBp(fu:Nat)  (a:Int)(b:Int):qz tb Jo (shN tb Jo fu 9) fu 209 ((dc (cI .u64) (d1 (cI .u64))).enc (a,b)) (d1 cW).dec=qEn a b:=by kernel_rfl
def qw2:PrimD:=prim (dc (cI .u64) (d1 (cI .u64))) (d1 cW) (quV)
theorem qFV:OkT 209 qw2:=qj qy YD (by kernel_rfl) fun a y hg h=>⟨0,9,0,(qBp 0 a.1 a.2).trans (qzA a y hg h)⟩
theorem qBq(fu:Nat)  (a:(Int×Int))(b:(Int×Int)):qz tb Jo (shN tb Jo fu 9) fu 223 ((dc cW (d1 cW)).enc (a,b)) (dc cW (d1 (cI .u64))).dec=qEo a b:=by kernel_rfl
def qw3:PrimD:=prim (dc cW (d1 cW)) (dc cW (d1 (cI .u64))) (quW)
theorem qFW:OkT 223 qw3:=qj qy YD (by kernel_rfl) fun a y hg h=>⟨0,9,0,(qBq 0 a.1 a.2).trans (qzB a y hg h)⟩
theorem qBr(fu:Nat)  (a:(Int×Int))(b:(Int×Int)):qz tb Jo (shN tb Jo fu 9) fu 224 ((dc cW (d1 cW)).enc (a,b)) (dc cW (d1 (cI .u64))).dec=qEp a b:=by kernel_rfl
def qw4:PrimD:=prim (dc cW (d1 cW)) (dc cW (d1 (cI .u64))) (quX)
theorem qFX:OkT 224 qw4:=qj qy YD (by kernel_rfl) fun a y hg h=>⟨0,9,0,(qBr 0 a.1 a.2).trans (qzD a y hg h)⟩
def qa0:qp:=qV [(219,qqV),(209,qw2),(223,qw3),(224,qw4)] Jo
theorem qbt:PkT qa0:=qn YD (qf qBo (qf qFV (qf qFW (qf qFX qr))))
end
end Su
end
