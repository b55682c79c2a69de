/-
  The law and its row.
-/
import Derived.Test.YtfckjjffdfkelaaGreatHSh1
import Derived.Test.YtfckjjffdfkelaaGreatNB05
import Derived.Test.YtfckjjffdfkelaaGreatNB09
import Derived.Test.YtfckjjffdfkelaaGreatSuTb
import Derived.Test.YtfckjjffdfkelaaGreatNB10
import Derived.Test.YtfckjjffdfkelaaGreatNC07
set_option maxRecDepth 10000
section
namespace Go.Proofs.Sho
open Go Go.RowKit Go.Shelf Go.Proofs Fly Su
attribute [local go_sem] Oper.semAt_some
abbrev HX (V:qc) (w:World) (V':qc) (W:World):Prop:=Holds ⟨fun _=>False,w,V,fun _ _ _=>False⟩ V' [] W
theorem HX.trans {V V1 V2:qc} {w W W2:World} {G:Fly.Own} (h:HX V w V1 W) (k:Holds ⟨fun _=>False,W,V1,fun _ _ _=>False⟩ V2 G W2):HX V w V2 W2 :=
 ⟨h.ext.trans k.ext,k.view,(fun _ hp=>(List.not_mem_nil hp).elim),(fun _ hp=>(List.not_mem_nil hp).elim),.nil,h.sub.trans k.sub,fun r h1 h2=>by
   by_cases h3:V1 r=none
   · rcases k.newer r h3 h2 with h4 | h4
     · exact .inl (Nat.le_trans h.ext.size h4)
     · exact h4.elim
   · exact h.newer r h1 h3⟩
theorem HX.drew {V V1:qc} {w W:World} (h:HX V w V1 W):HX V w V1 W.drew :=
 ⟨⟨h.ext.os,h.ext.tape,h.ext.output,h.ext.size,h.ext.block⟩,h.view,(fun _ hp=>(List.not_mem_nil hp).elim),(fun _ hp=>(List.not_mem_nil hp).elim),.nil,h.sub,h.newer⟩
theorem HX.add {V:qc} {w W:World} {B:Nat} {o:Obj} (hs:qfa V w) (hb:Below w.heap.size w W) (hB:w.heap.size≤B) (ho:W.heap[B]?=some o):HX V w (addV V B o) W:=by
 have hlt:∀ r o,V r=some o→r<w.heap.size:=fun r o h=>(Array.getElem?_eq_some_iff.1 (hs r o h)).1
 have hn:V B=none:=by
  cases h:V B with
  | none=>rfl
  | some o=>have:=hlt _ _ h;omega
 refine ⟨⟨hb.os,hb.tape,hb.output,hb.size,fun k hk _=>hb.block k hk⟩,fun r u hr=>?_,(fun _ hp=>(List.not_mem_nil hp).elim),(fun _ hp=>(List.not_mem_nil hp).elim),.nil,Fly.Sub.addV hn,fun r h1 h2=>?_⟩
 · unfold addV at hr
   by_cases e:r=B
   · rw [if_pos e] at hr;subst e;rw [ho];exact hr
   · rw [if_neg e] at hr;exact (hb.block r (hlt _ _ hr)).trans (hs r u hr)
 · unfold addV at h2
   by_cases e:r=B
   · exact .inl (by show w.heap.size≤r;omega)
   · rw [if_neg e] at h2;exact absurd h1 h2
theorem gok4 {V:qc}:GOK Su.tb V:=fun _ _ h=>by cases h
theorem qzF (r:Nat) (h:r<18446744073709551616):New (r:Int)=some (ofN r):=by
 have e1:IntKind.u32.wrap (r:Int)=((r % 4294967296:Nat):Int):=by rw [Su.wrap_u32];omega
 have e2:Int.fdiv (r:Int) (2^32)=((r / 4294967296:Nat):Int):=by
  have:=qbH r 32;rwa [show (2:Nat)^32=4294967296 from rfl] at this
 have e3:IntKind.u32.wrap ((r / 4294967296:Nat):Int)=((r / 4294967296:Nat):Int):=Su.qmP (by omega) (by omega)
 unfold New
 rw [e1,e2,e3]
 simp only [qa,Int.toNat_natCast]
 congr 2;omega
theorem qnx {V:qc} {W:World} {v:Value} {a:List Int} (hs:qfa V W) (hr:Rep V (.ql 1 1 a) v):Calls Tryz.prog 148 #[v] W fun e W'=>∃ v' V',e = .returned v'∧HX V W V' W'∧Rep V' (.ql 1 1 (ofN (qa a))) v':=by
 have h:∀ xs y,((d1 (cQ 1 1)).dec xs).bind qiV=some y→∀ V vs,GOK Su.tb V→RepA V xs vs→yq Tryz.prog 148 vs.toArray V [] fun v V' _=>∃ rvs,RepA V' ((d1 (cQ 1 1)).enc y) rvs∧v=YJ rvs:=qvm.2.1
 have h2:((d1 (cQ 1 1)).dec [T.ql 1 1 a]).bind qiV=some (ofN (qa a)):=by
  rw [show (d1 (cQ 1 1)).dec [T.ql 1 1 a]=some a from (d1 (cQ 1 1)).de a];rfl
 refine (h _ _ h2 V [v] gok4 (.cons hr .nil) W hs (fun _ hp=>(List.not_mem_nil hp).elim) (fun _ hp=>(List.not_mem_nil hp).elim) .nil).mono ?_
 rintro e W' ⟨v',V',G',rfl,hh,rvs,m1,rfl⟩
 cases m1 with | cons k1 k2=>cases k2 with | nil =>
 exact ⟨_,V',rfl,⟨⟨hh.ext.os,hh.ext.tape,hh.ext.output,hh.ext.size,fun k hk _=>hh.ext.block k hk (by simp [keys])⟩,hh.view,(fun _ hp=>(List.not_mem_nil hp).elim),(fun _ hp=>(List.not_mem_nil hp).elim),.nil,hh.sub,fun r h1 h2=>(hh.newer r h1 h2).imp id (fun hm=>by simp [keys] at hm)⟩,k1⟩
theorem qq1 {V:qc} {W:World} {r:Nat} (hl:r<18446744073709551616) (hs:qfa V W):Calls Tryz.prog 78 #[.int .u64 (r:Int)] W fun e W'=>∃ v' V',e = .returned v'∧HX V W V' W'∧Rep V' (.ql 1 1 (ofN r)) v':=by
 have h:∀ xs y,((d1 (cI .u64)).dec xs).bind (fun a=>New a)=some y→∀ V vs,GOK Su.tb V→RepA V xs vs→yq Tryz.prog 78 vs.toArray V [] fun v V' _=>∃ rvs,RepA V' ((d1 (cQ 1 1)).enc y) rvs∧v=YJ rvs:=qBw.2.1
 have h2:((d1 (cI .u64)).dec [T.s (.int .u64 (r:Int))]).bind (fun a=>New a)=some (ofN r):=by
  rw [show (d1 (cI .u64)).dec [T.s (.int .u64 (r:Int))]=some (r:Int) from (d1 (cI .u64)).de (r:Int)]
  exact qzF r hl
 refine (h _ _ h2 V [.int .u64 (r:Int)] gok4 (.cons (.s (by show inR .u64 (r:Int)=true;exact Qj.2 ⟨by omega,by omega⟩)) .nil) W hs (fun _ hp=>(List.not_mem_nil hp).elim) (fun _ hp=>(List.not_mem_nil hp).elim) .nil).mono ?_
 rintro e W' ⟨v',V',G',rfl,hh,rvs,m1,rfl⟩
 cases m1 with | cons k1 k2=>cases k2 with | nil =>
 exact ⟨_,V',rfl,⟨⟨hh.ext.os,hh.ext.tape,hh.ext.output,hh.ext.size,fun k hk _=>hh.ext.block k hk (by simp [keys])⟩,hh.view,(fun _ hp=>(List.not_mem_nil hp).elim),(fun _ hp=>(List.not_mem_nil hp).elim),.nil,hh.sub,fun r h1 h2=>(hh.newer r h1 h2).imp id (fun hm=>by simp [keys] at hm)⟩,k1⟩
def wI (qs:List Nat):List Int:=qs.map fun z=>((z:Nat):Int)
theorem qhP (qs:List Nat):(wI qs).length=qs.length:=List.length_map ..
theorem qEa (qs:List Nat):(List.map (α:=U 1) (view 1) (wI qs)).length=qs.length:=(List.length_map (α:=U 1) ..).trans (qhP qs)
theorem qcW:∀ qs:List Nat,(List.map (α:=U 1) (view 1) (wI qs)).flatMap T.cells=qs.map fun z=>T.s (vW z)
 | []=>rfl
 | x::l=>by
  show T.s (vW x)::(List.map (α:=U 1) (view 1) (wI l)).flatMap T.cells=_
  rw [qcW l];rfl
theorem qvq:∀ (qs:List Nat) (x:T),x∈List.map (α:=U 1) (view 1) (wI qs)→x.cells.length=1
 | [],x,h=>by cases h
 | y::l,x,h=>by
  rcases List.mem_cons.1 (show x∈view 1 ((y:Nat):Int)::List.map (α:=U 1) (view 1) (wI l) from h) with rfl | h
  · rfl
  · exact qvq l x h
theorem qq2 {V:qc} {B off:Nat} {qs:List Nat} {len cap:Nat} (h:∀ (j:Nat) (c:Value),(qs.map vW)[j]?=some c→rd V B (off+j) c) (hqw:∀ z∈qs,z<4294967296) (hql:qs.length=len) (hlen:len≤cap) (hcap:cap≤maxLen) :
 Rep V (.ql 1 1 (wI qs)) (.slice (some ⟨B,off,none⟩) len cap):=by
 have hw:∀ l:List Nat,(∀ z∈l,z<4294967296)→RepA V (l.map fun z=>T.s (vW z)) (l.map vW):=by
  intro l
  induction l with
  | nil=>exact fun _=>.nil
  | cons x l ih =>
   intro hx
   have hx0:=hx x (List.mem_cons_self ..)
   exact .cons (.s (show inR .u32 (x:Int)=true from qeK.2 ⟨by omega,by omega⟩)) (ih fun z hz=>hx z (List.mem_cons_of_mem _ hz))
 have hl:=qEa qs
 have h2:=Rep.sl (V:=V) (k:=1) (l:=List.map (α:=U 1) (view 1) (wI qs)) (vs:=qs.map vW) (a:=some ⟨B,off,none⟩) (cap:=cap) (by rw [qcW];exact hw qs hqw)
  (by rw [qcW];intro x hx;obtain ⟨z,_,rfl⟩:=List.mem_map.1 hx;rfl) (qvq qs) (by omega) hcap (.inr ⟨B,off,rfl,h⟩)
 rw [hl,hql] at h2
 exact .ql h2
set_option maxRecDepth 100000 in
set_option maxHeartbeats 4000000 in
theorem qzG {V:qc} {w W:World} {B D b len cap rr:Nat} {sa:Option Addr} {qs:List Nat} {Q:Ending→World→Prop} {Kc:Act→World→Prop} (hs:qfa V w) (hB:Below w.heap.size w W) (hBw:w.heap.size≤B) (hDB:B+5≤D)
 (g1:W.heap[B+1]?=some (Obj.cells (qs.map vW).toArray 175 (0,0))) (hql:qs.length=len) (hqw:∀ z∈qs,z<4294967296) (hlen:len≤549755813888) (g2:W.heap[B+2]?=some (Obj.cells #[.slice (some ⟨B+1,0,none⟩) len len] 38 (0,0)))
 (g3:W.heap[B+3]?=some (Obj.cells #[.int .u64 (rr:Int)] 44 (0,0))) (hrr:rr<18446744073709551616) (hD:W.heap[D]?=some (.deferred (some [])))
 (hK:∀ a w',Code.wpIn Fence.wide 3 Tryz.prog Code.ret (bodyPostM Fence.wide 3 Tryz.prog Tryz.f191 Q) a w'→Kc a w')
 (hQ:∀ v1 v2 V1 V2 W2,HX V w V1 W2→Rep V1 (.ql 1 1 (ofN (qa (wI qs)))) v1→Rep V1 (.ql 1 1 (ofN rr)) v2→W2.heap[D]?=some (.deferred (some []))→V2=V1→Q (.returned (.tuple #[v1,v2])) (W2.putObj D (.deferred none))) :
 Code.wpIn Fence.wide 3 Tryz.prog qu6 (Exit.then Kc (bodyPostM Fence.wide 3 Tryz.prog Tryz.f191 Q)) (qDV B D b sa len cap) W:=by
 have hx0:HX V w (addV V (B+1) (Obj.cells (qs.map vW).toArray 175 (0,0))) W:=HX.add hs hB (by omega) g1
 have hrep:Rep (addV V (B+1) (Obj.cells (qs.map vW).toArray 175 (0,0))) (.ql 1 1 (wI qs)) (.slice (some ⟨B+1,0,none⟩) len len):=qq2 (fun j c hj=>⟨_,_,_,by unfold addV;rw [if_pos rfl],by rw [List.getElem?_toArray,Nat.zero_add];exact hj⟩) hqw hql (Nat.le_refl _) (by simp [maxLen];omega)
 obtain ⟨V0,hV0⟩:∃ V0,addV V (B+1) (Obj.cells (qs.map vW).toArray 175 (0,0))=V0:=⟨_,rfl⟩
 rw [hV0] at hx0 hrep
 have c2:=qaI g2 (i:=0) rfl
 have c3:=qaI g3 (i:=0) rfl
 unfold qu6 qDV
 have hmx:Tryz.prog.follows .mixedOrders=true:=by kernel_rfl
 refine Code.wpIn_mono (Q:=Exit.then Kc (fun _ _ _=>False)) (fun e a w h=>by cases e <;> first | exact h | exact h.elim) ?_
 gi_region_with_o (first
  | (refine ⟨trivial,?_⟩;gi_at_call 148;refine (callsIn_wide.2 (qnx (V:=V0) (W:=W.drew) hx0.view hrep)).mono ?_;rintro e w1 ⟨v1,V1,rfl,hx1,hr1⟩;have c3':=(hx1.ext.below.cell (p:=⟨B+3,0,none⟩) (Array.getElem?_eq_some_iff.1 g3).1).trans c3)
  | (refine ⟨trivial,?_⟩;gi_at_call 78;refine (callsIn_wide.2 (qq1 (V:=V1) (W:=w1) hrr hx1.view)).mono ?_;rintro e w2 ⟨v2,V2,rfl,hx2,hr2⟩))
 all_goals (
  refine hK _ _ ?_
  have hD1:w1.heap[D]?=some (.deferred (some [])):=(hx1.ext.block D (Array.getElem?_eq_some_iff.1 hD).1 (fun h=>h)).trans hD
  have hD2:w2.heap[D]?=some (.deferred (some [])):=(hx2.ext.block D (Array.getElem?_eq_some_iff.1 hD1).1 (fun h=>h)).trans hD1
  gi_wp2
  refine ⟨by simp,.inl ⟨_,_,rfl,run_takeDeferred hD2,?_⟩⟩
  refine ⟨_,results_tmp2 (t:=4) (u:=5) rfl _ _ _,hQ v1 v2 V2 V2 w2 ((hx0.drew.trans hx1).trans hx2) (Rep.mono hx2.sub hr1) hr2 hD2 rfl⟩)
theorem qF2 {b:Nat} {len:Nat} (pre:List (Wo len)):∀ z∈(sf b pre).2,z<4294967296:=by
 have:∀ (l:List (Wo len)) (s:Nat×List Nat),(∀ z∈s.2,z<4294967296)→∀ z∈(l.foldl (stp b) s).2,z<4294967296:=by
  intro l
  induction l with
  | nil=>exact fun s h=>h
  | cons x l ih =>
   refine fun s h=>ih _ fun z hz=>?_
   rcases List.mem_or_eq_of_mem_set hz with hz | rfl
   · exact h z hz
   · exact Nat.mod_lt _ (by omega)
 exact this pre _ fun z hz=>by rw [(List.mem_replicate.1 hz).2];omega
theorem qEb (qs:List Nat) (j:Nat):nth (wI qs) j=((qs[j]?.getD 0:Nat):Int):=by
 unfold nth
 have:(wI qs)[j]?=(qs[j]?).map fun z=>((z:Nat):Int):=List.getElem?_map ..
 rw [this]
 cases qs[j]? <;> rfl
theorem qEc (qs:List Nat) (j y:Nat):wI (qs.set j y)=List.set (wI qs) j ((y:Nat):Int):=List.map_set ..
theorem qzH (zs:List Nat) (m:Nat) (h:m<zs.length):qa (wI (zs.drop m))=zs[m]?.getD 0+4294967296*qa (wI (zs.drop (m+1))):=by
 rw [List.drop_eq_getElem_cons h,List.getElem?_eq_getElem h]
 show qa (((zs[m]:Nat):Int)::wI (zs.drop (m+1)))=_
 rw [qa,Int.toNat_natCast];rfl
theorem qpw {zs:List Nat} (hz:∀ z∈zs,z<4294967296) (h0:0<zs.length) {b:Nat} (hb:0<b):∀ k,k≤zs.length →
 (sf b (qaa hz h0 k)).1=qa (wI (zs.drop (zs.length-k))) % b∧qa (wI (sf b (qaa hz h0 k)).2)=qa (wI (zs.drop (zs.length-k))) / b*4294967296^(zs.length-k)∧∀ j,j<zs.length-k→(sf b (qaa hz h0 k)).2[j]?.getD 0=0
 | 0,_=>by
  have e:sf b (qaa hz h0 0)=(0,List.replicate zs.length 0):=rfl
  have ev:qa (wI ([]:List Nat))=0:=rfl
  have ez:wI (List.replicate zs.length 0)=List.replicate zs.length 0:=List.map_replicate ..
  rw [e,Nat.sub_zero,List.drop_length,ev]
  refine ⟨(Nat.zero_mod b).symm,?_,fun j hj=>?_⟩
  · show qa (wI (List.replicate zs.length 0))=_
    rw [ez,ZO,Nat.zero_div,Nat.zero_mul]
  · show (List.replicate zs.length 0)[j]?.getD 0=0
    rw [List.getElem?_replicate];split <;> rfl
 | k+1,hk=>by
  obtain ⟨i1,i2,i3⟩:=qpw hz h0 hb k (by omega)
  obtain ⟨m,hm⟩:∃ m,m=zs.length-1-k:=⟨_,rfl⟩
  have e1:zs.length-k=m+1:=by omega
  have e2:zs.length-(k+1)=m:=by omega
  rw [e1] at i1 i2 i3
  rw [e2,qhI,qjA]
  have hml:m<zs.length:=by omega
  have hq:=i3 m (by omega)
  have hlen:=qnw b (qaa hz h0 k)
  have hlt:=qu5 hb (qaa hz h0 k)
  generalize sf b (qaa hz h0 k)=s at *
  obtain ⟨R,Q⟩:=s
  simp only at i1 i2 i3 hq hlen hlt
  have hx:=qcU hz m
  have hA:=qzH zs m hml
  simp only [← hm]
  show (R*4294967296+zs[m]?.getD 0) % b=_∧qa (wI (Q.set m ((R*4294967296+zs[m]?.getD 0) / b % 4294967296)))=_∧∀ j,j<m→(Q.set m ((R*4294967296+zs[m]?.getD 0) / b % 4294967296))[j]?.getD 0=0
  generalize zs[m]?.getD 0=x at *
  generalize hA0:qa (wI (zs.drop (m+1)))=A at *
  rw [hA]
  have hdiv:=Nat.div_add_mod A b
  have hr1:x+4294967296*A=b*(4294967296*(A / b))+(R*4294967296+x):=by
   rw [i1]
   generalize A / b=p at *
   generalize A % b=t at *
   rw [← hdiv];grind
  have hr1b:(R*4294967296+x) / b<4294967296:=by
   rw [Nat.div_lt_iff_lt_mul hb]
   have:=Nat.mul_le_mul_right 4294967296 (show R+1≤b by omega)
   rw [Nat.mul_comm 4294967296 b];omega
  rw [hr1]
  refine ⟨?_,?_,fun j hj=>?_⟩
  · rw [Nat.mul_add_mod]
  · rw [Nat.mod_eq_of_lt hr1b,Nat.mul_add_div hb,qEc]
    have hs:=qas (wI Q) m (((R*4294967296+x) / b:Nat):Int) (by rw [qhP];omega)
    rw [qEb,hq,Int.toNat_natCast,i2,Nat.pow_succ] at hs
    generalize (R*4294967296+x) / b=d at *
    generalize A / b=p at *
    generalize 4294967296^m=P at *
    have hs:qa (List.set (wI Q) m (d:Int))+P*0=p*(P*4294967296)+P*d:=hs
    rw [Nat.mul_zero,Nat.add_zero] at hs
    rw [hs];grind
  · rw [List.getElem?_set_ne (by omega)];exact i3 j (by omega)
theorem qEd {zs:List Nat} (hz:∀ z∈zs,z<4294967296) {b:Nat} (hb:0<b) {ys:List (Wo zs.length)} (h:All hz ys):(sf b ys).1=qa (wI zs) % b∧qa (wI (sf b ys).2)=qa (wI zs) / b:=by
 rcases h with ⟨rfl,h0⟩ | ⟨hl,rfl⟩
 · have:zs=[]:=List.eq_nil_of_length_eq_zero h0
   subst this
   exact ⟨(Nat.zero_mod b).symm,(Nat.zero_div b).symm⟩
 · obtain ⟨h1,h2,_⟩:=qpw hz hl hb zs.length (Nat.le_refl _)
   rw [Nat.sub_self,List.drop_zero] at h1 h2
   rw [Nat.pow_zero,Nat.mul_one] at h2
   exact ⟨h1,h2⟩
theorem qpx {V V':qc}:∀ {l:List T} {vs:List Value},(∀ x∈l,∃ v,x=T.s v)→RepA V l vs→RepA V' l vs
 | [],vs,_,h=>by cases h;exact .nil
 | x::l,vs,h,hr=>by
  cases hr with | cons h1 h2 =>
  obtain ⟨v,rfl⟩:=h x (List.mem_cons_self ..)
  cases h1 with | s h1=>exact .cons (.s h1) (qpx (fun y hy=>h y (List.mem_cons_of_mem _ hy)) h2)
theorem qlX:∀ (l:List (U 1)) (x:T),x∈(l.map (view 1)).flatMap T.cells→∃ v,x=T.s v
 | [],x,h=>by cases h
 | y::l,x,h=>by
  rcases List.mem_cons.1 (show x∈T.s (.int .u32 y)::(l.map (view 1)).flatMap T.cells from h) with rfl | h
  · exact ⟨_,rfl⟩
  · exact qlX l x h
def qhQ (V:qc) (D:Nat):qc:=fun r=>if r=D then none else V r
theorem qlY {V:qc} {D:Nat} {l:List (U 1)} {v:Value} (hD:∀ arr e fr,V D≠some (.cells arr e fr)) (h:Rep V (.ql 1 1 l) v):Rep (qhQ V D) (.ql 1 1 l) v:=by
 cases h with | ql h =>
 cases h with | sl a1 a2 a3 a4 a5 a6 =>
 refine .ql (.sl (qpx (qlX l) a1) a2 a3 a4 a5 (a6.imp id ?_))
 rintro ⟨b,off,e,h⟩
 refine ⟨b,off,e,fun j c hj=>?_⟩
 obtain ⟨arr,e,fr,h1,h2⟩:=h j c hj
 refine ⟨arr,e,fr,?_,h2⟩
 unfold qhQ
 rw [if_neg (fun e2=>by subst e2;exact hD _ _ _ h1)]
 exact h1
theorem qzI {a:List Int} (h:Wd a):wI (a.map Int.toNat)=a:=by
 induction a with
 | nil=>rfl
 | cons x l ih =>
  have hx:=h.head
  show ((x.toNat:Nat):Int)::wI (l.map Int.toNat)=_
  rw [ih h.tail];congr 1;omega
theorem short_fing {V:qc} {a:List Int} {b:Nat} {v:Value} (ha:Wd a) (hb0:0<b) (hb1:b<4294967296) (hlen:a.length≤549755813888) (hr:Rep V (.ql 1 1 a) v) :
 yq Tryz.prog 191 #[v,.int .u32 (b:Int)] V [] fun v V' _=>∃ rvs,RepA V' [.ql 1 1 (ofN (qa a / b)),.ql 1 1 (ofN (qa a % b))] rvs∧v=YJ rvs:=by
 intro w hs _ _ _
 obtain ⟨zs,hzs⟩:∃ zs,a.map Int.toNat=zs:=⟨_,rfl⟩
 have hzl:zs.length=a.length:=by rw [← hzs,List.length_map]
 have hz:∀ z∈zs,z<4294967296:=by
  intro z hz
  rw [← hzs] at hz
  obtain ⟨x,hx,rfl⟩:=List.mem_map.1 hz
  have:=ha x hx;omega
 have hwz:wI zs=a:=by rw [← hzs];exact qzI ha
 have hW:∃ sa cap,v = .slice sa zs.length cap∧qhK w.heap.size w (.slice sa zs.length cap) zs:=by
  cases hr with | ql hr =>
  cases hr with | @sl _ _ vs ad cap a1 a2 a3 a4 a5 a6 =>
  have hl:(List.map (α:=U 1) (view 1) a).length=zs.length:=by rw [hzl];exact List.length_map ..
  refine ⟨ad,cap,by rw [hl],?_⟩
  rcases a6 with a6 | ⟨b2,off,rfl,a6⟩
  · have:zs.length=0:=by rw [← hl,a6];rfl
    exact .inl ⟨List.eq_nil_of_length_eq_zero this,ad,cap,by rw [this]⟩
  · by_cases h0:zs.length=0
    · exact .inl ⟨List.eq_nil_of_length_eq_zero h0,_,cap,by rw [h0]⟩
    have hvs:vs=zs.map vW:=by
     have e:=qcW zs
     rw [hwz] at e
     rw [e] at a1
     clear e a6 hl hzs hzl hwz h0
     induction zs generalizing vs with
     | nil=>cases a1;rfl
     | cons x l ih =>
      cases a1 with | cons k1 k2 =>
      cases k1 with | s k1 =>
      rw [List.map_cons,ih (fun z hz2=>hz z (List.mem_cons_of_mem _ hz2)) k2]
    have hrd:∀ j,j<zs.length→rd V b2 (off+j) (vW (zs[j]?.getD 0)):=fun j hj=>a6 j _ (by rw [hvs,List.getElem?_map,List.getElem?_eq_getElem hj];rfl)
    refine .inr ⟨b2,off,cap,rfl,?_,fun j hj=>?_⟩
    · obtain ⟨arr,e,fr,h1,_⟩:=hrd 0 (by omega)
      exact (Array.getElem?_eq_some_iff.1 (hs _ _ h1)).1
    · obtain ⟨arr,e,fr,h1,h2⟩:=hrd j hj
      exact qaI (hs _ _ h1) h2
 obtain ⟨sa,cap,rfl,hI⟩:=hW
 refine callsIn_wide.1 (qu8 Fence.wide 3 trivial trivial trivial rfl (Nat.le_refl _) sa cap b hb0 hb1 zs hz (by omega) w hI ?_)
 intro D ys W Kc hK hD hA hInv hB hDh
 have hlt:=qu5 hb0 ys
 obtain ⟨m1,m2⟩:=qEd hz hb0 hA
 rw [hwz] at m1 m2
 refine qzG hs hB (Nat.le_refl _) hD hInv.h1 (qnw b ys) (qF2 ys) (by omega) hInv.h2 hInv.h3 (by omega) hDh hK ?_
 rintro v1 v2 V1 V2 W2 hx r1 r2 hD2 _
 rw [m2] at r1
 rw [m1] at r2
 have hnD:∀ arr e fr,V1 D≠some (.cells arr e fr):=fun arr e fr h=>by
  have:=hx.view D _ h
  rw [hD2] at this;cases this
 have hoth:∀ r,r≠D→(W2.putObj D (.deferred none)).heap[r]?=W2.heap[r]?:=fun r hr=>World.putObj_heap_other hr
 refine ⟨_,qhQ V1 D,[],rfl,⟨⟨hx.ext.os,hx.ext.tape,hx.ext.output,by have:=hx.ext.size;simpa using this,fun k hk _=>(hoth k (by have:k<w.heap.size:=hk;omega)).trans (hx.ext.block k hk (fun h=>h))⟩,
  fun r o hr=>?_,(fun _ hp=>(List.not_mem_nil hp).elim),(fun _ hp=>(List.not_mem_nil hp).elim),.nil,fun r o hr=>?_,fun r h1 h2=>?_⟩,[v1,v2],.cons (qlY hnD r1) (.cons (qlY hnD r2) .nil),rfl⟩
 · unfold qhQ at hr
   by_cases e:r=D
   · rw [if_pos e] at hr;cases hr
   · rw [if_neg e] at hr;exact (hoth r e).trans (hx.view r o hr)
 · have hlt2:r<w.heap.size:=(Array.getElem?_eq_some_iff.1 (hs r o hr)).1
   unfold qhQ
   rw [if_neg (by omega)];exact hx.sub r o hr
 · unfold qhQ at h2
   by_cases e:r=D
   · rw [if_pos e] at h2;exact absurd rfl h2
   · rw [if_neg e] at h2
     exact (hx.newer r h1 h2).imp id False.elim
end Go.Proofs.Sho
end
section
namespace Fly
open Go Go.Proofs Su
set_option maxRecDepth 10000
noncomputable def tbN:Tabs Tryz.prog:=Su.qlQ.sound.tb
section
variable {P:Program} {n:Nat} {X:Cx} {L:Lo} {V:qc} {G:Own} {Q:Value→qc→Own→Prop}
variable {ty:TypeId} {pos:String} {af:Array Edge} {gd:Option (Nat×Bool)} {ds:Option Tmp}
theorem qjF {t e:TypeId} {a:Option Addr} {len cap:Nat} (hu:P.underlying t=some (.slice e)) (w:World):(Op.equal t (.slice a len cap) (.slice none 0 0)).run P w = .ok a.isNone w:=by
 show (Op.equalIn (9999+1) t (.slice a len cap) (.slice none 0 0)).run P w=_
 unfold Op.equalIn
 rw [Sem.run_bind,Fly.run_underlying hu]
 cases a <;> rfl
theorem qgn {t u e:TypeId} {x y:Operand} {a:Option Addr} {len cap:Nat} (hx:ev L x=some (.slice a len cap)) (hy:ev L y=some (.slice none 0 0)) (hu:P.underlying t=some (.slice e)) (k:Q (.bool a.isNone) V G) :
 Opr P n X L V G ⟨ds,.binOp .eql t x y u,ty,pos,af,gd⟩ Q:=qii hx hy rfl (fun w=>by simp [eqGuard]) (qjF hu) k
end
attribute [local irreducible] WC WE WR Opr St Go.Calls qrl qwL qgP Rel yq qAT qwM Owe One qj3 Go.CallsD
theorem qEe {V:qc} {len cap:Nat} {Q:Value→qc→Own→Prop} (hQ:Q (.slice none 0 0) V []):yq Tryz.prog 190 #[.slice none len cap] V [] Q:=by
 refine yJ (args:=[_]) Tryz.func190 rfl Tryz.ntmps190 rfl ?_
 intro X w hM hb hw hV0 hR;dsimp only [Zy,Nat.zero_add,Nat.reduceAdd]
 (repeat' (first | refine J1 ?_ | refine j8 ?_ | refine J4 ?_ | refine QJ ?_ | refine yH ?_ | refine QH ?_ | refine J3 ?_ | refine QI ?_ | refine qQ ?_ | refine qK ?_ | refine jD rfl ?_ | refine jl ?_ | refine J2 ?_ | ((first | refine QK rfl ?_ | refine Jg ?_ | refine qbh rfl rfl rfl ?_);(first | (refine qgn (e:=175) rfl rfl (by kernel_rfl) ?_) | refine QL rfl ?_ | refine j9 rfl ?_ | refine J7 rfl rfl ?_ | refine J8 rfl rfl ?_ | refine J9 rfl rfl ?_ | refine Ya rfl rfl ?_ | refine Yb rfl rfl ?_ | refine Yc rfl rfl ?_ | refine jE rfl rfl ?_ | refine Yf rfl ?_ | refine yd rfl rfl ?_ | refine ye rfl rfl ?_ | refine Jh rfl rfl (by omega) (by omega) ?_ | refine Ji rfl rfl (by omega) (by omega) ?_ | refine Jj rfl rfl (by omega) (by omega) ?_ | refine Jz rfl rfl ?_ | refine JA rfl rfl ?_ | refine JB rfl rfl ?_ | refine qF tbN rfl rfl ?_ | refine jP tbN rfl rfl rfl ?_ | refine J5 rfl rfl ?_ | refine qab rfl rfl ?_ | refine J6 rfl rfl ?_ | refine yc rfl rfl ?_ | refine Yd rfl rfl (by decide) ?_ | refine Ye rfl rfl (by decide) ?_ | refine Yl rfl rfl ?_ | refine QP rfl rfl ?_ | refine Jk rfl rfl (by kernel_rfl) ?_ | refine Qa rfl rfl (by kernel_rfl) ?_ | refine jF tbN rfl rfl rfl ?_ | refine Yg rfl ?_ | refine yW tbN rfl rfl rfl ?_ | (apply y5 tbN rfl rfl;(· (first | (refine At.own (?_);repeat (first | exact Has.here | refine Has.there ?_)) | exact At.seen (by assumption)));(· exact rfl)) | (apply yI tbN rfl rfl;(· (first | (refine At.own (?_);repeat (first | exact Has.here | refine Has.there ?_)) | exact At.seen (by assumption)));(· exact rfl)) | (apply yw tbN rfl rfl rfl rfl rfl;(· (repeat (first | exact Upd.here | apply Upd.there)));(· exact rfl)) | (apply yx tbN rfl rfl rfl rfl rfl;(· (repeat (first | exact Upd.here | apply Upd.there)));(· exact rfl)) | (apply yp tbN (by kernel_rfl) rfl (rfl:tbN.fo _ 0=_);(· (repeat (first | exact Fill.nil | (apply Fill.cons;(· exact rfl);(· exact rfl);(· exact rfl);(· exact rfl);(· exact rfl)))))) | (refine ym rfl ?_;intro b) | (refine Qg rfl rfl ?_;intro b) | (refine yo tbN rfl ?_;intro b) | (apply qE tbN;(· exact rfl);(· exact rfl);(· exact rfl);(· decide);(· (repeat (first | exact Cat.nil | (apply Cat.cons;(· exact rfl);(· exact rfl);(· exact rfl)) | exact App.nil | apply App.cons)));intro b))) | refine qgu rfl rfl rfl rfl ?_ | refine j4 rfl ?_ | refine j7 rfl ?_ | refine qbi rfl (fun _=>?_) (fun _=>?_) | refine YY rfl (fun _=>?_) (fun _=>?_) | refine y7 rfl rfl (fun _=>?_) (fun _=>?_) | refine y8 rfl rfl (fun _=>?_) (fun _=>?_) | refine Jl rfl (fun _=>?_) (fun _=>?_) | refine Y1 rfl (fun _=>?_) (fun _=>?_) | refine yy rfl rfl (fun _=>?_) (fun _=>?_) | refine Qb rfl rfl (fun _=>?_) (fun _=>?_)))
 exact Y9 hM hw hV0 hR [] (List.Sublist.refl _) (qpX rfl rfl) hQ
theorem qEf {V:qc} {a:Addr} {cap:Nat} {Q:Value→qc→Own→Prop} (hQ:∀ b,Q (.slice (some ⟨b,0,none⟩) 0 0) V [(b,.cells #[] 175 (0,0))]):yq Tryz.prog 190 #[.slice (some a) 0 cap] V [] Q:=by
 refine yJ (args:=[_]) Tryz.func190 rfl Tryz.ntmps190 rfl ?_
 intro X w hM hb hw hV0 hR;dsimp only [Zy,Nat.zero_add,Nat.reduceAdd]
 (repeat' (first | refine J1 ?_ | refine j8 ?_ | refine J4 ?_ | refine QJ ?_ | refine yH ?_ | refine QH ?_ | refine J3 ?_ | refine QI ?_ | refine qQ ?_ | refine qK ?_ | refine jD rfl ?_ | refine jl ?_ | refine J2 ?_ | ((first | refine QK rfl ?_ | refine Jg ?_ | refine qbh rfl rfl rfl ?_);(first | (refine qgn (e:=175) rfl rfl (by kernel_rfl) ?_) | refine QL rfl ?_ | refine j9 rfl ?_ | refine J7 rfl rfl ?_ | refine J8 rfl rfl ?_ | refine J9 rfl rfl ?_ | refine Ya rfl rfl ?_ | refine Yb rfl rfl ?_ | refine Yc rfl rfl ?_ | refine jE rfl rfl ?_ | refine Yf rfl ?_ | refine yd rfl rfl ?_ | refine ye rfl rfl ?_ | refine Jh rfl rfl (by omega) (by omega) ?_ | refine Ji rfl rfl (by omega) (by omega) ?_ | refine Jj rfl rfl (by omega) (by omega) ?_ | refine Jz rfl rfl ?_ | refine JA rfl rfl ?_ | refine JB rfl rfl ?_ | refine qF tbN rfl rfl ?_ | refine jP tbN rfl rfl rfl ?_ | refine J5 rfl rfl ?_ | refine qab rfl rfl ?_ | refine J6 rfl rfl ?_ | refine yc rfl rfl ?_ | refine Yd rfl rfl (by decide) ?_ | refine Ye rfl rfl (by decide) ?_ | refine Yl rfl rfl ?_ | refine QP rfl rfl ?_ | refine Jk rfl rfl (by kernel_rfl) ?_ | refine Qa rfl rfl (by kernel_rfl) ?_ | refine jF tbN rfl rfl rfl ?_ | refine Yg rfl ?_ | refine yW tbN rfl rfl rfl ?_ | (apply y5 tbN rfl rfl;(· (first | (refine At.own (?_);repeat (first | exact Has.here | refine Has.there ?_)) | exact At.seen (by assumption)));(· exact rfl)) | (apply yI tbN rfl rfl;(· (first | (refine At.own (?_);repeat (first | exact Has.here | refine Has.there ?_)) | exact At.seen (by assumption)));(· exact rfl)) | (apply yw tbN rfl rfl rfl rfl rfl;(· (repeat (first | exact Upd.here | apply Upd.there)));(· exact rfl)) | (apply yx tbN rfl rfl rfl rfl rfl;(· (repeat (first | exact Upd.here | apply Upd.there)));(· exact rfl)) | (apply yp tbN (by kernel_rfl) rfl (rfl:tbN.fo _ 0=_);(· (repeat (first | exact Fill.nil | (apply Fill.cons;(· exact rfl);(· exact rfl);(· exact rfl);(· exact rfl);(· exact rfl)))))) | (refine ym rfl ?_;intro b) | (refine Qg rfl rfl ?_;intro b) | (refine yo tbN rfl ?_;intro b) | (apply qE tbN;(· exact rfl);(· exact rfl);(· exact rfl);(· decide);(· (repeat (first | exact Cat.nil | (apply Cat.cons;(· exact rfl);(· exact rfl);(· exact rfl)) | exact App.nil | apply App.cons)));intro b))) | refine qgu rfl rfl rfl rfl ?_ | refine j4 rfl ?_ | refine j7 rfl ?_ | refine qbi rfl (fun _=>?_) (fun _=>?_) | refine YY rfl (fun _=>?_) (fun _=>?_) | refine y7 rfl rfl (fun _=>?_) (fun _=>?_) | refine y8 rfl rfl (fun _=>?_) (fun _=>?_) | refine Jl rfl (fun _=>?_) (fun _=>?_) | refine Y1 rfl (fun _=>?_) (fun _=>?_) | refine yy rfl rfl (fun _=>?_) (fun _=>?_) | refine Qb rfl rfl (fun _=>?_) (fun _=>?_)))
 refine QK rfl (ZF (e:=175) (k:=1) tbN rfl rfl rfl (Nat.le_refl 0) ?_)
 (repeat' (first | refine J1 ?_ | refine j8 ?_ | refine J4 ?_ | refine QJ ?_ | refine yH ?_ | refine QH ?_ | refine J3 ?_ | refine QI ?_ | refine qQ ?_ | refine qK ?_ | refine jD rfl ?_ | refine jl ?_ | refine J2 ?_ | ((first | refine QK rfl ?_ | refine Jg ?_ | refine qbh rfl rfl rfl ?_);(first | refine QL rfl ?_ | refine j9 rfl ?_ | refine J7 rfl rfl ?_ | refine J8 rfl rfl ?_ | refine J9 rfl rfl ?_ | refine Ya rfl rfl ?_ | refine Yb rfl rfl ?_ | refine Yc rfl rfl ?_ | refine jE rfl rfl ?_ | refine Yf rfl ?_ | refine yd rfl rfl ?_ | refine ye rfl rfl ?_ | refine Jh rfl rfl (by omega) (by omega) ?_ | refine Ji rfl rfl (by omega) (by omega) ?_ | refine Jj rfl rfl (by omega) (by omega) ?_ | refine Jz rfl rfl ?_ | refine JA rfl rfl ?_ | refine JB rfl rfl ?_ | refine qF tbN rfl rfl ?_ | refine jP tbN rfl rfl rfl ?_ | refine J5 rfl rfl ?_ | refine qab rfl rfl ?_ | refine J6 rfl rfl ?_ | refine yc rfl rfl ?_ | refine Yd rfl rfl (by decide) ?_ | refine Ye rfl rfl (by decide) ?_ | refine Yl rfl rfl ?_ | refine QP rfl rfl ?_ | refine Jk rfl rfl (by kernel_rfl) ?_ | refine Qa rfl rfl (by kernel_rfl) ?_ | refine jF tbN rfl rfl rfl ?_ | refine Yg rfl ?_ | refine yW tbN rfl rfl rfl ?_ | (apply y5 tbN rfl rfl;(· (first | (refine At.own (?_);repeat (first | exact Has.here | refine Has.there ?_)) | exact At.seen (by assumption)));(· exact rfl)) | (apply yI tbN rfl rfl;(· (first | (refine At.own (?_);repeat (first | exact Has.here | refine Has.there ?_)) | exact At.seen (by assumption)));(· exact rfl)) | (apply yw tbN rfl rfl rfl rfl rfl;(· (repeat (first | exact Upd.here | apply Upd.there)));(· exact rfl)) | (apply yx tbN rfl rfl rfl rfl rfl;(· (repeat (first | exact Upd.here | apply Upd.there)));(· exact rfl)) | (apply yp tbN (by kernel_rfl) rfl (rfl:tbN.fo _ 0=_);(· (repeat (first | exact Fill.nil | (apply Fill.cons;(· exact rfl);(· exact rfl);(· exact rfl);(· exact rfl);(· exact rfl)))))) | (refine ym rfl ?_;intro b) | (refine Qg rfl rfl ?_;intro b) | (refine yo tbN rfl ?_;intro b) | (apply qE tbN;(· exact rfl);(· exact rfl);(· exact rfl);(· decide);(· (repeat (first | exact Cat.nil | (apply Cat.cons;(· exact rfl);(· exact rfl);(· exact rfl)) | exact App.nil | apply App.cons)));intro b))) | refine qgu rfl rfl rfl rfl ?_ | refine j4 rfl ?_ | refine j7 rfl ?_ | refine qbi rfl (fun _=>?_) (fun _=>?_) | refine YY rfl (fun _=>?_) (fun _=>?_) | refine y7 rfl rfl (fun _=>?_) (fun _=>?_) | refine y8 rfl rfl (fun _=>?_) (fun _=>?_) | refine Jl rfl (fun _=>?_) (fun _=>?_) | refine Y1 rfl (fun _=>?_) (fun _=>?_) | refine yy rfl rfl (fun _=>?_) (fun _=>?_) | refine Qb rfl rfl (fun _=>?_) (fun _=>?_)))
 exact Y9 hM hw hV0 hR [(b,.cells #[] 175 (0,0))] (List.Sublist.refl _) (qpX rfl rfl) (hQ b)
theorem qEg {V:qc} {bb off len cap:Nat} {news:List Value} {Q:Value→qc→Own→Prop} (hn:news.length=len*1) (h1:∀ u∈news,u.oneCell'=true) (hr:∀ (j:Nat) (u:Value),news[j]?=some u→rd V bb (off+j) u) (h0:0<len) (hl:len≤549755813888)
 (hQ:∀ v' Gr',RowC 175 1 v' Gr' len news→Q v' V Gr'):yq Tryz.prog 190 #[.slice (some ⟨bb,off,none⟩) len cap] V [] Q:=by
 refine yJ (args:=[_]) Tryz.func190 rfl Tryz.ntmps190 rfl ?_
 intro X w hM hb hw hV0 hR;dsimp only [Zy,Nat.zero_add,Nat.reduceAdd]
 (repeat' (first | refine J1 ?_ | refine j8 ?_ | refine J4 ?_ | refine QJ ?_ | refine yH ?_ | refine QH ?_ | refine J3 ?_ | refine QI ?_ | refine qQ ?_ | refine qK ?_ | refine jD rfl ?_ | refine jl ?_ | refine J2 ?_ | ((first | refine QK rfl ?_ | refine Jg ?_ | refine qbh rfl rfl rfl ?_);(first | (refine qgn (e:=175) rfl rfl (by kernel_rfl) ?_) | refine QL rfl ?_ | refine j9 rfl ?_ | refine J7 rfl rfl ?_ | refine J8 rfl rfl ?_ | refine J9 rfl rfl ?_ | refine Ya rfl rfl ?_ | refine Yb rfl rfl ?_ | refine Yc rfl rfl ?_ | refine jE rfl rfl ?_ | refine Yf rfl ?_ | refine yd rfl rfl ?_ | refine ye rfl rfl ?_ | refine Jh rfl rfl (by omega) (by omega) ?_ | refine Ji rfl rfl (by omega) (by omega) ?_ | refine Jj rfl rfl (by omega) (by omega) ?_ | refine Jz rfl rfl ?_ | refine JA rfl rfl ?_ | refine JB rfl rfl ?_ | refine qF tbN rfl rfl ?_ | refine jP tbN rfl rfl rfl ?_ | refine J5 rfl rfl ?_ | refine qab rfl rfl ?_ | refine J6 rfl rfl ?_ | refine yc rfl rfl ?_ | refine Yd rfl rfl (by decide) ?_ | refine Ye rfl rfl (by decide) ?_ | refine Yl rfl rfl ?_ | refine QP rfl rfl ?_ | refine Jk rfl rfl (by kernel_rfl) ?_ | refine Qa rfl rfl (by kernel_rfl) ?_ | refine jF tbN rfl rfl rfl ?_ | refine Yg rfl ?_ | refine yW tbN rfl rfl rfl ?_ | (apply y5 tbN rfl rfl;(· (first | (refine At.own (?_);repeat (first | exact Has.here | refine Has.there ?_)) | exact At.seen (by assumption)));(· exact rfl)) | (apply yI tbN rfl rfl;(· (first | (refine At.own (?_);repeat (first | exact Has.here | refine Has.there ?_)) | exact At.seen (by assumption)));(· exact rfl)) | (apply yw tbN rfl rfl rfl rfl rfl;(· (repeat (first | exact Upd.here | apply Upd.there)));(· exact rfl)) | (apply yx tbN rfl rfl rfl rfl rfl;(· (repeat (first | exact Upd.here | apply Upd.there)));(· exact rfl)) | (apply yp tbN (by kernel_rfl) rfl (rfl:tbN.fo _ 0=_);(· (repeat (first | exact Fill.nil | (apply Fill.cons;(· exact rfl);(· exact rfl);(· exact rfl);(· exact rfl);(· exact rfl)))))) | (refine ym rfl ?_;intro b) | (refine Qg rfl rfl ?_;intro b) | (refine yo tbN rfl ?_;intro b) | (apply qE tbN;(· exact rfl);(· exact rfl);(· exact rfl);(· decide);(· (repeat (first | exact Cat.nil | (apply Cat.cons;(· exact rfl);(· exact rfl);(· exact rfl)) | exact App.nil | apply App.cons)));intro b))) | refine qgu rfl rfl rfl rfl ?_ | refine j4 rfl ?_ | refine j7 rfl ?_ | refine qbi rfl (fun _=>?_) (fun _=>?_) | refine YY rfl (fun _=>?_) (fun _=>?_) | refine y7 rfl rfl (fun _=>?_) (fun _=>?_) | refine y8 rfl rfl (fun _=>?_) (fun _=>?_) | refine Jl rfl (fun _=>?_) (fun _=>?_) | refine Y1 rfl (fun _=>?_) (fun _=>?_) | refine yy rfl rfl (fun _=>?_) (fun _=>?_) | refine Qb rfl rfl (fun _=>?_) (fun _=>?_)))
 refine QK rfl (ZG (e:=175) (k:=1) (m:=0) (z:=[.int .u32 0]) (Gr:=[(b,.cells #[] 175 (0,0))]) (G1:=[]) (xs:=[]) (news:=news) tbN rfl rfl rfl (Nat.le_of_ble_eq_true (by kernel_rfl)) rfl rfl (fun w hw j u hj=>?_) hn h1 (RowC.some (g:=b) (cur:=#[]) (Nat.le_refl 0) (Nat.le_refl 0) (by simp [maxLen]) rfl rfl) (List.Perm.refl _) h0 (by omega) fun v' Gr' hR'=>?_)
 · obtain ⟨arr,e,f0,q1,q2⟩:=hr j u hj
   rw [yZ,yS (hw.view _ _ q1)];exact q2
 · (repeat' (first | refine J1 ?_ | refine j8 ?_ | refine J4 ?_ | refine QJ ?_ | refine yH ?_ | refine QH ?_ | refine J3 ?_ | refine QI ?_ | refine qQ ?_ | refine qK ?_ | refine jD rfl ?_ | refine jl ?_ | refine J2 ?_ | ((first | refine QK rfl ?_ | refine Jg ?_ | refine qbh rfl rfl rfl ?_);(first | refine QL rfl ?_ | refine j9 rfl ?_ | refine J7 rfl rfl ?_ | refine J8 rfl rfl ?_ | refine J9 rfl rfl ?_ | refine Ya rfl rfl ?_ | refine Yb rfl rfl ?_ | refine Yc rfl rfl ?_ | refine jE rfl rfl ?_ | refine Yf rfl ?_ | refine yd rfl rfl ?_ | refine ye rfl rfl ?_ | refine Jh rfl rfl (by omega) (by omega) ?_ | refine Ji rfl rfl (by omega) (by omega) ?_ | refine Jj rfl rfl (by omega) (by omega) ?_ | refine Jz rfl rfl ?_ | refine JA rfl rfl ?_ | refine JB rfl rfl ?_ | refine qF tbN rfl rfl ?_ | refine jP tbN rfl rfl rfl ?_ | refine J5 rfl rfl ?_ | refine qab rfl rfl ?_ | refine J6 rfl rfl ?_ | refine yc rfl rfl ?_ | refine Yd rfl rfl (by decide) ?_ | refine Ye rfl rfl (by decide) ?_ | refine Yl rfl rfl ?_ | refine QP rfl rfl ?_ | refine Jk rfl rfl (by kernel_rfl) ?_ | refine Qa rfl rfl (by kernel_rfl) ?_ | refine jF tbN rfl rfl rfl ?_ | refine Yg rfl ?_ | refine yW tbN rfl rfl rfl ?_ | (apply y5 tbN rfl rfl;(· (first | (refine At.own (?_);repeat (first | exact Has.here | refine Has.there ?_)) | exact At.seen (by assumption)));(· exact rfl)) | (apply yI tbN rfl rfl;(· (first | (refine At.own (?_);repeat (first | exact Has.here | refine Has.there ?_)) | exact At.seen (by assumption)));(· exact rfl)) | (apply yw tbN rfl rfl rfl rfl rfl;(· (repeat (first | exact Upd.here | apply Upd.there)));(· exact rfl)) | (apply yx tbN rfl rfl rfl rfl rfl;(· (repeat (first | exact Upd.here | apply Upd.there)));(· exact rfl)) | (apply yp tbN (by kernel_rfl) rfl (rfl:tbN.fo _ 0=_);(· (repeat (first | exact Fill.nil | (apply Fill.cons;(· exact rfl);(· exact rfl);(· exact rfl);(· exact rfl);(· exact rfl)))))) | (refine ym rfl ?_;intro b) | (refine Qg rfl rfl ?_;intro b) | (refine yo tbN rfl ?_;intro b) | (apply qE tbN;(· exact rfl);(· exact rfl);(· exact rfl);(· decide);(· (repeat (first | exact Cat.nil | (apply Cat.cons;(· exact rfl);(· exact rfl);(· exact rfl)) | exact App.nil | apply App.cons)));intro b))) | refine qgu rfl rfl rfl rfl ?_ | refine j4 rfl ?_ | refine j7 rfl ?_ | refine qbi rfl (fun _=>?_) (fun _=>?_) | refine YY rfl (fun _=>?_) (fun _=>?_) | refine y7 rfl rfl (fun _=>?_) (fun _=>?_) | refine y8 rfl rfl (fun _=>?_) (fun _=>?_) | refine Jl rfl (fun _=>?_) (fun _=>?_) | refine Y1 rfl (fun _=>?_) (fun _=>?_) | refine yy rfl rfl (fun _=>?_) (fun _=>?_) | refine Qb rfl rfl (fun _=>?_) (fun _=>?_)))
   rw [List.append_nil]
   refine Y9 hM hw hV0 hR Gr' (List.Sublist.refl _) (qpX rfl rfl) (hQ _ _ ?_)
   rw [Nat.zero_add,List.nil_append] at hR'
   exact hR'
end Fly
namespace Su
open Go Go.Proofs Fly
theorem qny (l:List T):sub l 0 l.length=some l:=YQ l
theorem qjG {P:Program} {f:Nat} {V:qc} {vs:List Value} {l:List T} {e w:Nat}
 (h:yq P f vs.toArray V [] fun v V' G'=>∃ ie,RepOB V' [ie] (.row false e w l) ie G'∧RepS V' [ie] (.osl 0 0 l.length) v):yq P f vs.toArray V [] fun v V' _=>∃ rvs,RepA V' [.sl w l] rvs∧v=YJ rvs:=by
 intro w0 hs hG hV hnd
 refine (h w0 hs hG hV hnd).mono ?_
 rintro ex w' ⟨v,V',G',rfl,hh,ie,m1,m2⟩
 have hsub:sub l 0 l.length=some l:=qny l
 have hz:toTs 64 ⟨[],[],[.row false e w l]⟩ [.osl 0 0 l.length]=some ([.sl w l],(St.mk [] [] [.row false e w l]).frow 0 w l):=by
  simp only [toTs,toT,List.getElem?_cons_zero,hsub,Option.bind_some]
 obtain ⟨V2,G2,g2,s2,r2,_⟩:=(yM (I:=[ie]) (L:=[]) 64).2 ⟨[],[],[.row false e w l]⟩ _ [.osl 0 0 l.length] _ hz V' G' [v] (.cons m2 .nil) ⟨⟨G'++[],.cons m1 .nil,by rw [List.append_nil]⟩,fun d sv hd _=>by simp [St.look] at hd⟩ ⟨fun p hp=>(hh.free p (by simp [hp])).2,by have:=hh.nodup;simpa using this⟩
 exact ⟨_,V2,G2,rfl,g2.holds _ _ hh,[v],r2,rfl⟩
noncomputable def qvr:PrimD:=⟨List Int,fun xs=>((d1 (cQ 1 1)).dec xs).bind fun l=>bif qld l then some l else none,fun l=>[.sl 1 (l.map eW)],none,some (175,1),fun _=>none⟩
theorem qnz {V:qc} {v:Value} {l:List T} (hl:l.length≤549755813888) (h:Rep V (.sl 1 l) v) :
 yq Tryz.prog 190 #[v] V [] fun v' V' G'=>∃ ie,RepOB V' [ie] (.row false 175 1 l) ie G'∧RepS V' [ie] (.osl 0 0 l.length) v':=by
 cases h with | @sl _ _ vs a cap a1 a2 a3 a4 a5 a6 =>
 have hn:vs.length=l.length*1:=by rw [← a1.length,Qc a3]
 by_cases h0:l=[]
 · subst h0
   cases a with
   | none=>exact qEe ⟨.vrow,.vrow,.oslv rfl⟩
   | some a=>exact qEf fun b=>⟨.row b 1 0,.row (by simp) (by simp [maxLen]) (by simp) (by simpa using RepA.nil) (by simp) (by simp),by
    have:=RepS.osl (V:=V) (I:=[IE.row b 1 0]) (n:=0) (off:=0) (len:=0) (b:=b) (k:=1) (ct:=0) (cap:=0) rfl (by omega) (by simp [maxLen]) ⟨by simp,by simp⟩
    simpa using this⟩
 · have yG:0<l.length:=List.length_pos_iff.2 h0
   rcases a6 with a6 | ⟨b,off,rfl,a6⟩
   · exact absurd a6 h0
   · refine qEg hn (QS a1 a2) a6 yG hl fun v' Gr' hR=>?_
     obtain ⟨b',ct,cap,rfl,b1,b2,b3⟩:=qn7 (V:=V) (I:=[.row 0 0 0]) (l:=l) hR yG rfl a1 a2 a3
     refine ⟨.row b' 1 ct,b3.row_any,?_⟩
     have:=RepS.osl (V:=V) (I:=[IE.row b' 1 ct]) (n:=0) (off:=0) (len:=l.length) (b:=b') (k:=1) (ct:=ct) (cap:=cap) rfl (by omega) b2 ⟨b1.1,by omega⟩
     rw [Nat.zero_mul] at this
     exact this
theorem qlZ (xs:List T) (y:List Int) (h:((d1 (cQ 1 1)).dec xs).bind (fun l=>bif qld l then some l else none)=some y) (V:qc) (vs:List Value) (hr:RepA V xs vs) :
 yq Tryz.prog 190 vs.toArray V [] fun v V' G'=>∃ ie,RepOB V' [ie] (.row false 175 1 (y.map eW)) ie G'∧RepS V' [ie] (.osl 0 0 (y.map eW).length) v:=by
 obtain ⟨l,h1,h2⟩:=osm h
 obtain ⟨h3,h4⟩:=qj h2
 have:=soi h4;subst this
 have hr2:=(d1 (cQ 1 1)).rep h1 hr
 cases hr2 with | cons k1 k2=>cases k2 with | nil =>
 cases k1 with | ql k1 =>
 exact qnz (l:=l.map eW) (by have h5:(l.map (view 1)).length=l.length:=List.length_map ..;rw [show (List.map eW l).length=l.length from h5];exact Nat.le_of_ble_eq_true h3) k1
theorem qvs:OkT 190 qvr:=by
 refine ⟨by kernel_rfl,fun xs y h V vs _ hr=>qjG (qlZ xs y h V vs hr),fun j hj xs y h V vs _ hr=>?_⟩
 have hj:some ((175,1):Nat×Nat)=some j:=hj
 simp only [Option.some.injEq] at hj;subst hj
 intro w0 a1 a2 a3 a4
 refine (qlZ xs y h V vs hr w0 a1 a2 a3 a4).mono ?_
 rintro e w' ⟨v,V',G',rfl,hh,ie,m1,m2⟩
 refine ⟨v,V',G',rfl,hh,fun w l he hw=>?_⟩
 have he:[T.sl 1 (y.map eW)]=[.sl w l]:=he
 simp only [List.cons.injEq,T.sl.injEq,and_true] at he
 obtain ⟨rfl,rfl⟩:=he
 exact ⟨ie,m1,m2⟩
end Su
end
section
namespace Su
noncomputable section
open Go Go.Proofs Fly
def qpy:PrimD:=prim (dc (cQ 1 1) (d1 (cI .u32))) (dc (cQ 1 1) (d1 (cQ 1 1))) qcx
theorem qzJ:OkT 191 qpy:=by
 refine ⟨by kernel_rfl,fun xs y h V vs _ hr=>?_,fun j hj=>nomatch hj⟩
 obtain ⟨p,h1,h2⟩:=osm (show ((dc (cQ 1 1) (d1 (cI .u32))).dec xs).bind qcx=some y from h)
 have hr2:=(dc (cQ 1 1) (d1 (cI .u32))).rep h1 hr
 have hg:=(dc (cQ 1 1) (d1 (cI .u32))).rng hr2
 obtain ⟨a,b⟩:=p
 obtain ⟨h3,h4⟩:=qj h2
 have:=soi h4;subst this
 rw [Bool.and_eq_true,decide_eq_true_eq] at h3
 obtain ⟨⟨ha,la⟩,hb⟩:=hg
 have hb:=qeK.1 hb
 obtain ⟨h3a,h3b⟩:=h3
 have h3a:0<b:=h3a
 obtain ⟨B,rfl⟩:∃ B:Nat,b=(B:Int):=⟨b.toNat,by omega⟩
 cases hr2 with | cons k1 k2 =>
 cases k2 with | cons k2 k3 =>
 cases k3 with | nil =>
 cases k2 with | s k2 =>
 exact Go.Proofs.Sho.short_fing (Wd.of ha) (by omega) (by have:=hb.2;omega) (Nat.le_of_ble_eq_true h3b) k1
def qpz:PrimD:=prim (d1 (cQ 1 1)) (d1 (cQ 1 1)) Jm
theorem qzK:OkT 190 qpz:=by
 refine ⟨by kernel_rfl,fun xs y h V vs hg hr=>?_,fun j hj=>nomatch hj⟩
 have hF:=qvs.2.1 xs y h V vs hg hr
 intro w a1 a2 a3 a4
 refine (hF w a1 a2 a3 a4).mono ?_
 rintro e w' ⟨v,V',G',rfl,hh,rvs,m1,rfl⟩
 refine ⟨_,V',G',rfl,hh,rvs,?_,rfl⟩
 have m1:RepA V' [.sl 1 (List.map (view 1) (y:List (U 1)))] rvs:=m1
 cases m1 with | cons k1 k2=>cases k2 with | nil=>exact .cons (.ql k1) .nil
def qjH:qq:=qX [(190,qpz),(191,qpy)] qvp
theorem qhR:PkT qjH:=qm qq0 (qf qzK (qf qzJ qr))
end
end Su
end
section
namespace Su
noncomputable section
open Go Go.Proofs Fly
set_option maxRecDepth 100000
theorem qEh (fu:Nat) (a:(List Int)) (b:(List Int)):qx tb qjH (shN tb qjH fu 9) fu 147 ((dc (cQ 1 1) (d1 (cQ 1 1))).enc (a,b)) ((dc (cQ 1 1) (dc (cQ 1 1) (d1 (cI .i64))))).dec=Div fu a b:=by kernel_rfl
def qBC:PrimD:=prim (dc (cQ 1 1) (d1 (cQ 1 1))) (dc (cQ 1 1) (dc (cQ 1 1) (d1 (cI .i64)))) (qcy)
theorem qF3:OkT 147 qBC:=qi qz qhR (by kernel_rfl) fun a y hg h=>by
 obtain ⟨n,hn⟩:=qCR a y hg h
 exact ⟨n,9,n,(qEh n a.1 a.2).trans hn⟩
def qjI:qq:=qX [(147,qBC)] qjH
theorem qhS:PkT qjI:=qm qhR (qf qF3 qr)
end
end Su
end
section
namespace Su
noncomputable section
open Go Go.Proofs Fly
set_option maxRecDepth 100000
theorem qEi (fu:Nat) (a:(List Int)) (b:(List Int)):qx tb qjI (shN tb qjI fu 9) fu 146 ((dc (cQ 1 1) (d1 (cQ 1 1))).enc (a,b)) ((d1 (cQ 1 1))).dec=Gcd fu a b:=by kernel_rfl
def qBD:PrimD:=prim (dc (cQ 1 1) (d1 (cQ 1 1))) (d1 (cQ 1 1)) (qlf)
theorem qF4:OkT 146 qBD:=qi qz qhS (by kernel_rfl) fun a y hg h=>by
 obtain ⟨n,hn⟩:=qCT a y hg h
 exact ⟨n,9,n,(qEi n a.1 a.2).trans hn⟩
def qjJ:qq:=qX [(146,qBD)] qjI
theorem qhT:PkT qjJ:=qm qhS (qf qF4 qr)
end
end Su
end
section
namespace Su
noncomputable section
open Go Go.Proofs Fly
set_option maxRecDepth 100000
theorem qEj (fu:Nat)  (neg:Bool) (num:(List Int)) (den:(List Int)):qx tb qjJ (shN tb qjJ fu 9) fu 65 ((dc cB (dc (cQ 1 1) (d1 (cQ 1 1)))).enc (neg,num,den)) ((d1 cRt)).dec=Low neg num den:=by kernel_rfl
def qBE:PrimD:=prim (dc cB (dc (cQ 1 1) (d1 (cQ 1 1)))) (d1 cRt) (YS)
theorem qF5:OkT 65 qBE:=qi qz qhT (by kernel_rfl) fun a y hg h=>⟨0,9,0,(qEj 0 a.1 a.2.1 a.2.2).trans (qCU a y hg h)⟩
def JJ:qq:=qX [(65,qBE)] qjJ
theorem J0:PkT JJ:=qm qhT (qf qF5 qr)
end
end Su
end
section
namespace Su
noncomputable section
open Go Go.Proofs Fly
set_option maxRecDepth 100000
theorem qzL (fu:Nat)  (a:(Bool×((List Int)×(List Int)))):qx tb JJ (shN tb JJ fu 9) fu 66 ((d1 cRt).enc (a)) ((d1 cRt)).dec=RLow a:=by kernel_rfl
def qvt:PrimD:=prim (d1 cRt) (d1 cRt) (JG)
theorem qEk:OkT 66 qvt:=qi qz J0 (by kernel_rfl) fun a y hg h=>⟨0,9,0,(qzL 0 a).trans (qx7 a y hg h)⟩
theorem qzM (fu:Nat)  (x:Int):qx tb JJ (shN tb JJ fu 9) fu 26 ((d1 (cI .i64)).enc (x)) ((d1 cRt)).dec=qCV x:=by kernel_rfl
def qvu:PrimD:=prim (d1 (cI .i64)) (d1 cRt) (qtl)
theorem qEl:OkT 26 qvu:=qi qz J0 (by kernel_rfl) fun a y hg h=>⟨0,9,0,(qzM 0 a).trans (qx9 a y hg h)⟩
theorem qvv (fu:Nat)  (neg:Bool) (m:Int) (e:Int):qx tb JJ (shN tb JJ fu 9) fu 63 ((dc cB (dc (cI .u64) (d1 (cI .i64)))).enc (neg,m,e)) ((dc cRt (d1 (cI .i64)))).dec=qlg neg m e:=by kernel_rfl
def qpA:PrimD:=prim (dc cB (dc (cI .u64) (d1 (cI .i64)))) (dc cRt (d1 (cI .i64))) (qa1)
theorem qzN:OkT 63 qpA:=qi qz J0 (by kernel_rfl) fun a y hg h=>⟨0,9,0,(qvv 0 a.1 a.2.1 a.2.2).trans (qto a y hg h)⟩
theorem qvw (fu:Nat)  (a:(Bool×((List Int)×(List Int)))):qx tb JJ (shN tb JJ fu 9) fu 48 ((d1 cRt).enc (a)) ((d1 cRt)).dec=qA2 a:=by kernel_rfl
def qpB:PrimD:=prim (d1 cRt) (d1 cRt) (qcz)
theorem qzO:OkT 48 qpB:=qi qz J0 (by kernel_rfl) fun a y hg h=>⟨0,9,0,(qvw 0 a).trans (qtk a y hg h)⟩
theorem qzP (fu:Nat)  (a:(Bool×((List Int)×(List Int)))):qx tb JJ (shN tb JJ fu 9) fu 17 ((d1 cRt).enc (a)) ((d1 cRt)).dec=RAbs a:=by kernel_rfl
def qvx:PrimD:=prim (d1 cRt) (d1 cRt) (qi3)
theorem qEm:OkT 17 qvx:=qi qz J0 (by kernel_rfl) fun a y hg h=>⟨0,9,0,(qzP 0 a).trans (qx8 a y hg h)⟩
def qaK:qq:=qX [(66,qvt),(26,qvu),(63,qpA),(48,qpB),(17,qvx)] JJ
theorem qba:PkT qaK:=qm J0 (qf qEk (qf qEl (qf qzN (qf qzO (qf qEm qr)))))
end
end Su
end
section
namespace Su
noncomputable section
open Go Go.Proofs Fly
set_option maxRecDepth 100000
theorem qzQ (fu:Nat)  (a:(Bool×((List Int)×(List Int)))) (b:(Bool×((List Int)×(List Int)))):qx tb qaK (shN tb qaK fu 9) fu 46 ((dc cRt (d1 cRt)).enc (a,b)) ((d1 cRt)).dec=qCX a b:=by kernel_rfl
def qvy:PrimD:=prim (dc cRt (d1 cRt)) (d1 cRt) (qaw)
theorem qEn:OkT 46 qvy:=qi qz qba (by kernel_rfl) fun a y hg h=>⟨0,9,0,(qzQ 0 a.1 a.2).trans (qyb a y hg h)⟩
theorem qzR (fu:Nat)  (a:(Bool×((List Int)×(List Int)))) (b:(Bool×((List Int)×(List Int)))):qx tb qaK (shN tb qaK fu 9) fu 43 ((dc cRt (d1 cRt)).enc (a,b)) ((d1 cRt)).dec=qCY a b:=by kernel_rfl
def qvz:PrimD:=prim (dc cRt (d1 cRt)) (d1 cRt) (ZS)
theorem qEo:OkT 43 qvz:=qi qz qba (by kernel_rfl) fun a y hg h=>⟨0,9,0,(qzR 0 a.1 a.2).trans (qyd a y hg h)⟩
theorem qzS (fu:Nat)  (a:(Bool×((List Int)×(List Int)))) (b:(Bool×((List Int)×(List Int)))):qx tb qaK (shN tb qaK fu 9) fu 18 ((dc cRt (d1 cRt)).enc (a,b)) ((d1 (cI .i64))).dec=qCZ a b:=by kernel_rfl
def qvA:PrimD:=prim (dc cRt (d1 cRt)) (d1 (cI .i64)) (ZT)
theorem qEp:OkT 18 qvA:=qi qz qba (by kernel_rfl) fun a y hg h=>⟨0,9,0,(qzS 0 a.1 a.2).trans (qye a y hg h)⟩
def qdI:qq:=qX [(46,qvy),(43,qvz),(18,qvA)] qaK
theorem qdJ:PkT qdI:=qm qba (qf qEn (qf qEo (qf qEp qr)))
end
end Su
end
section
namespace Su
noncomputable section
open Go Go.Proofs Fly
set_option maxRecDepth 100000
theorem qzT (fu:Nat)  (a:(Bool×((List Int)×(List Int)))) (b:(Bool×((List Int)×(List Int)))):qx tb qdI (shN tb qdI fu 9) fu 16 ((dc cRt (d1 cRt)).enc (a,b)) ((d1 cRt)).dec=qC1 a b:=by kernel_rfl
def qvB:PrimD:=prim (dc cRt (d1 cRt)) (d1 cRt) (qi4)
theorem qEq:OkT 16 qvB:=qi qz qdJ (by kernel_rfl) fun a y hg h=>⟨0,9,0,(qzT 0 a.1 a.2).trans (qyf a y hg h)⟩
theorem qzU (fu:Nat)  (f:Int):qx tb qdI (shN tb qdI fu 9) fu 14 ((d1 (cI .u64)).enc (f)) ((dc cRt (d1 cB))).dec=qC2 f:=by kernel_rfl
def qvC:PrimD:=prim (d1 (cI .u64)) (dc cRt (d1 cB)) (Je)
theorem qEr:OkT 14 qvC:=qi qz qdJ (by kernel_rfl) fun a y hg h=>⟨0,9,0,(qzU 0 a).trans (qyg a y hg h)⟩
def qdK:qq:=qX [(16,qvB),(14,qvC)] qdI
theorem qdL:PkT qdK:=qm qdJ (qf qEq (qf qEr qr))
end
end Su
end
section
namespace Su
noncomputable section
open Go Go.Proofs Fly
set_option maxRecDepth 100000
theorem qzV (fu:Nat) (l:(List Int)):qx tb qdK (shN tb qdK fu 9) fu 127 ((d1 (cQ 2 1)).enc (l)) ((d1 (cI .u64))).dec=qC4 fu l:=by kernel_rfl
def qvD:PrimD:=prim (d1 (cQ 2 1)) (d1 (cI .u64)) (qts)
theorem qEs:OkT 127 qvD:=qi qz qdL (by kernel_rfl) fun a y hg h=>by
 obtain ⟨n,hn⟩:=qyh a y hg h
 exact ⟨n,9,n,(qzV n a).trans hn⟩
theorem qzW (fu:Nat) (l:(List Int)):qx tb qdK (shN tb qdK fu 9) fu 162 ((d1 (cQ 2 1)).enc (l)) ((d1 (cI .u64))).dec=qC5 fu l:=by kernel_rfl
def qvE:PrimD:=prim (d1 (cQ 2 1)) (d1 (cI .u64)) (qtt)
theorem qEt:OkT 162 qvE:=qi qz qdL (by kernel_rfl) fun a y hg h=>by
 obtain ⟨n,hn⟩:=qyi a y hg h
 exact ⟨n,9,n,(qzW n a).trans hn⟩
def qdM:qq:=qX [(127,qvD),(162,qvE)] qdK
theorem qdN:PkT qdM:=qm qdL (qf qEs (qf qEt qr))
end
end Su
end
section
namespace Su
noncomputable section
open Go Go.Proofs Fly
set_option maxRecDepth 100000
theorem qzX (fu:Nat)  (f:Int):qx tb qdM (shN tb qdM fu 9) fu 107 ((d1 (cI .u64)).enc (f)) ((d1 cB)).dec=qC6 f:=by kernel_rfl
def qnA:PrimD:=prim (d1 (cI .u64)) (d1 cB) (qtv)
theorem qvF:OkT 107 qnA:=qi qz qdN (by kernel_rfl) fun a y hg h=>⟨0,9,0,(qzX 0 a).trans (qyj a y hg h)⟩
theorem qvG (fu:Nat)  (f:Int):qx tb qdM (shN tb qdM fu 9) fu 106 ((d1 (cI .u64)).enc (f)) ((d1 cB)).dec=qtu f:=by kernel_rfl
def qjK:PrimD:=prim (d1 (cI .u64)) (d1 cB) (qoG)
theorem qpC:OkT 106 qjK:=qi qz qdN (by kernel_rfl) fun a y hg h=>⟨0,9,0,(qvG 0 a).trans (qtw a y hg h)⟩
def Jo:qq:=qX [(107,qnA),(106,qjK)] qdM
theorem YH:PkT Jo:=qm qdN (qf qvF (qf qpC qr))
end
end Su
end
section
namespace Su
noncomputable section
open Go Go.Proofs Fly
set_option maxRecDepth 100000
theorem qvH (fu:Nat)  (x:Int):qx tb Jo (shN tb Jo fu 9) fu 219 ((d1 (cI .u64)).enc (x)) ((d1 (cI .i64))).dec=qtA x:=by kernel_rfl
def qpD:PrimD:=prim (d1 (cI .u64)) (d1 (cI .i64)) (qoH)
theorem qzY:OkT 219 qpD:=qi qz YH (by kernel_rfl) fun a y hg h=>⟨0,9,0,(qvH 0 a).trans (qtC a y hg h)⟩
theorem qzZ (fu:Nat)  (a:Int) (b:Int):qx tb Jo (shN tb Jo fu 9) fu 209 ((dc (cI .u64) (d1 (cI .u64))).enc (a,b)) ((d1 cW)).dec=qC7 a b:=by kernel_rfl
def qvI:PrimD:=prim (dc (cI .u64) (d1 (cI .u64))) (d1 cW) (qtD)
theorem qEu:OkT 209 qvI:=qi qz YH (by kernel_rfl) fun a y hg h=>⟨0,9,0,(qzZ 0 a.1 a.2).trans (qyk a y hg h)⟩
theorem qz0 (fu:Nat)  (a:(Int×Int)) (b:(Int×Int)):qx tb Jo (shN tb Jo fu 9) fu 223 ((dc cW (d1 cW)).enc (a,b)) ((dc cW (d1 (cI .u64)))).dec=qC8 a b:=by kernel_rfl
def qvJ:PrimD:=prim (dc cW (d1 cW)) (dc cW (d1 (cI .u64))) (qtE)
theorem qEv:OkT 223 qvJ:=qi qz YH (by kernel_rfl) fun a y hg h=>⟨0,9,0,(qz0 0 a.1 a.2).trans (qyl a y hg h)⟩
theorem qz1 (fu:Nat)  (a:(Int×Int)) (b:(Int×Int)):qx tb Jo (shN tb Jo fu 9) fu 224 ((dc cW (d1 cW)).enc (a,b)) ((dc cW (d1 (cI .u64)))).dec=qC9 a b:=by kernel_rfl
def qvK:PrimD:=prim (dc cW (d1 cW)) (dc cW (d1 (cI .u64))) (qtF)
theorem qEw:OkT 224 qvK:=qi qz YH (by kernel_rfl) fun a y hg h=>⟨0,9,0,(qz1 0 a.1 a.2).trans (qyn a y hg h)⟩
def qaL:qq:=qX [(219,qpD),(209,qvI),(223,qvJ),(224,qvK)] Jo
theorem qbb:PkT qaL:=qm YH (qf qzY (qf qEu (qf qEv (qf qEw qr))))
end
end Su
end
