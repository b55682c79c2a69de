/-
  The law and its row.
-/
import Derived.Test.YtfckjjffdfkelaaGreatHSh1
import Derived.Test.YtfckjjffdfkelaaGreatNB05
import Derived.Test.YtfckjjffdfkelaaGreatNB09
import Derived.Test.YtfckjjffdfkelaaGreatSuTb
import Derived.Test.YtfckjjffdfkelaaGreatNB10
set_option maxRecDepth 10000
section
namespace Go.Proofs.Sho
open Go Go.RowKit Go.Shelf Go.Proofs Fly Su
attribute [local go_sem] Oper.semAt_some
abbrev HX (V:qc) (w:World) (V':qc) (W:World):Prop:=Holds ⟨fun _=>False,w,V,fun _ _ _=>False⟩ V' [] W
theorem HX.trans {V V1 V2:qc} {w W W2:World} {G:Fly.Own} (h:HX V w V1 W) (k:Holds ⟨fun _=>False,W,V1,fun _ _ _=>False⟩ V2 G W2):HX V w V2 W2 :=
 ⟨h.ext.trans k.ext,k.view,(fun _ hp=>(List.not_mem_nil hp).elim),(fun _ hp=>(List.not_mem_nil hp).elim),.nil,h.sub.trans k.sub,fun r h1 h2=>by
   by_cases h3:V1 r=none
   · rcases k.newer r h3 h2 with h4 | h4
     · exact .inl (Nat.le_trans h.ext.size h4)
     · exact h4.elim
   · exact h.newer r h1 h3⟩
theorem HX.drew {V V1:qc} {w W:World} (h:HX V w V1 W):HX V w V1 W.drew :=
 ⟨⟨h.ext.os,h.ext.tape,h.ext.output,h.ext.size,h.ext.block⟩,h.view,(fun _ hp=>(List.not_mem_nil hp).elim),(fun _ hp=>(List.not_mem_nil hp).elim),.nil,h.sub,h.newer⟩
theorem HX.add {V:qc} {w W:World} {B:Nat} {o:Obj} (hs:qef V w) (hb:Below w.heap.size w W) (hB:w.heap.size≤B) (ho:W.heap[B]?=some o):HX V w (addV V B o) W:=by
 have hlt:∀ r o,V r=some o→r<w.heap.size:=fun r o h=>(Array.getElem?_eq_some_iff.1 (hs r o h)).1
 have hn:V B=none:=by
  cases h:V B with
  | none=>rfl
  | some o=>have:=hlt _ _ h;omega
 refine ⟨⟨hb.os,hb.tape,hb.output,hb.size,fun k hk _=>hb.block k hk⟩,fun r u hr=>?_,(fun _ hp=>(List.not_mem_nil hp).elim),(fun _ hp=>(List.not_mem_nil hp).elim),.nil,Fly.Sub.addV hn,fun r h1 h2=>?_⟩
 · unfold addV at hr
   by_cases e:r=B
   · rw [if_pos e] at hr;subst e;rw [ho];exact hr
   · rw [if_neg e] at hr;exact (hb.block r (hlt _ _ hr)).trans (hs r u hr)
 · unfold addV at h2
   by_cases e:r=B
   · exact .inl (by show w.heap.size≤r;omega)
   · rw [if_neg e] at h2;exact absurd h1 h2
theorem gok4 {V:qc}:GOK Su.tb V:=fun _ _ h=>by cases h
theorem qzu (r:Nat) (h:r<18446744073709551616):New (r:Int)=some (ofN r):=by
 have e1:IntKind.u32.wrap (r:Int)=((r % 4294967296:Nat):Int):=by rw [Su.wrap_u32];omega
 have e2:Int.fdiv (r:Int) (2^32)=((r / 4294967296:Nat):Int):=by
  have:=qaz r 32;rwa [show (2:Nat)^32=4294967296 from rfl] at this
 have e3:IntKind.u32.wrap ((r / 4294967296:Nat):Int)=((r / 4294967296:Nat):Int):=Su.qlX (by omega) (by omega)
 unfold New
 rw [e1,e2,e3]
 simp only [qa,Int.toNat_natCast]
 congr 2;omega
theorem qmF {V:qc} {W:World} {v:Value} {a:List Int} (hs:qef V W) (hr:Rep V (.ql 1 1 a) v):Calls Tryz.prog 148 #[v] W fun e W'=>∃ v' V',e = .returned v'∧HX V W V' W'∧Rep V' (.ql 1 1 (ofN (qa a))) v':=by
 have h:∀ xs y,((d1 (cQ 1 1)).dec xs).bind qia=some y→∀ V vs,GOK Su.tb V→RepA V xs vs→yp Tryz.prog 148 vs.toArray V [] fun v V' _=>∃ rvs,RepA V' ((d1 (cQ 1 1)).enc y) rvs∧v=JI rvs:=quY.2.1
 have h2:((d1 (cQ 1 1)).dec [T.ql 1 1 a]).bind qia=some (ofN (qa a)):=by
  rw [show (d1 (cQ 1 1)).dec [T.ql 1 1 a]=some a from (d1 (cQ 1 1)).de a];rfl
 refine (h _ _ h2 V [v] gok4 (.cons hr .nil) W hs (fun _ hp=>(List.not_mem_nil hp).elim) (fun _ hp=>(List.not_mem_nil hp).elim) .nil).mono ?_
 rintro e W' ⟨v',V',G',rfl,hh,rvs,m1,rfl⟩
 cases m1 with | cons k1 k2=>cases k2 with | nil =>
 exact ⟨_,V',rfl,⟨⟨hh.ext.os,hh.ext.tape,hh.ext.output,hh.ext.size,fun k hk _=>hh.ext.block k hk (by simp [keys])⟩,hh.view,(fun _ hp=>(List.not_mem_nil hp).elim),(fun _ hp=>(List.not_mem_nil hp).elim),.nil,hh.sub,fun r h1 h2=>(hh.newer r h1 h2).imp id (fun hm=>by simp [keys] at hm)⟩,k1⟩
theorem qqk {V:qc} {W:World} {r:Nat} (hl:r<18446744073709551616) (hs:qef V W):Calls Tryz.prog 78 #[.int .u64 (r:Int)] W fun e W'=>∃ v' V',e = .returned v'∧HX V W V' W'∧Rep V' (.ql 1 1 (ofN r)) v':=by
 have h:∀ xs y,((d1 (cI .u64)).dec xs).bind (fun a=>New a)=some y→∀ V vs,GOK Su.tb V→RepA V xs vs→yp Tryz.prog 78 vs.toArray V [] fun v V' _=>∃ rvs,RepA V' ((d1 (cQ 1 1)).enc y) rvs∧v=JI rvs:=qBE.2.1
 have h2:((d1 (cI .u64)).dec [T.s (.int .u64 (r:Int))]).bind (fun a=>New a)=some (ofN r):=by
  rw [show (d1 (cI .u64)).dec [T.s (.int .u64 (r:Int))]=some (r:Int) from (d1 (cI .u64)).de (r:Int)]
  exact qzu r hl
 refine (h _ _ h2 V [.int .u64 (r:Int)] gok4 (.cons (.s (by show inR .u64 (r:Int)=true;exact ZG.2 ⟨by omega,by omega⟩)) .nil) W hs (fun _ hp=>(List.not_mem_nil hp).elim) (fun _ hp=>(List.not_mem_nil hp).elim) .nil).mono ?_
 rintro e W' ⟨v',V',G',rfl,hh,rvs,m1,rfl⟩
 cases m1 with | cons k1 k2=>cases k2 with | nil =>
 exact ⟨_,V',rfl,⟨⟨hh.ext.os,hh.ext.tape,hh.ext.output,hh.ext.size,fun k hk _=>hh.ext.block k hk (by simp [keys])⟩,hh.view,(fun _ hp=>(List.not_mem_nil hp).elim),(fun _ hp=>(List.not_mem_nil hp).elim),.nil,hh.sub,fun r h1 h2=>(hh.newer r h1 h2).imp id (fun hm=>by simp [keys] at hm)⟩,k1⟩
def wI (qs:List Nat):List Int:=qs.map fun z=>((z:Nat):Int)
theorem qg1 (qs:List Nat):(wI qs).length=qs.length:=List.length_map ..
theorem qEw (qs:List Nat):(List.map (α:=U 1) (view 1) (wI qs)).length=qs.length:=(List.length_map (α:=U 1) ..).trans (qg1 qs)
theorem qb0:∀ qs:List Nat,(List.map (α:=U 1) (view 1) (wI qs)).flatMap T.cells=qs.map fun z=>T.s (vW z)
 | []=>rfl
 | x::l=>by
  show T.s (vW x)::(List.map (α:=U 1) (view 1) (wI l)).flatMap T.cells=_
  rw [qb0 l];rfl
theorem qu2:∀ (qs:List Nat) (x:T),x∈List.map (α:=U 1) (view 1) (wI qs)→x.cells.length=1
 | [],x,h=>by cases h
 | y::l,x,h=>by
  rcases List.mem_cons.1 (show x∈view 1 ((y:Nat):Int)::List.map (α:=U 1) (view 1) (wI l) from h) with rfl | h
  · rfl
  · exact qu2 l x h
theorem qql {V:qc} {B off:Nat} {qs:List Nat} {len cap:Nat} (h:∀ (j:Nat) (c:Value),(qs.map vW)[j]?=some c→rd V B (off+j) c) (hqw:∀ z∈qs,z<4294967296) (hql:qs.length=len) (hlen:len≤cap) (hcap:cap≤maxLen) :
 Rep V (.ql 1 1 (wI qs)) (.slice (some ⟨B,off,none⟩) len cap):=by
 have hw:∀ l:List Nat,(∀ z∈l,z<4294967296)→RepA V (l.map fun z=>T.s (vW z)) (l.map vW):=by
  intro l
  induction l with
  | nil=>exact fun _=>.nil
  | cons x l ih =>
   intro hx
   have hx0:=hx x (List.mem_cons_self ..)
   exact .cons (.s (show inR .u32 (x:Int)=true from qdQ.2 ⟨by omega,by omega⟩)) (ih fun z hz=>hx z (List.mem_cons_of_mem _ hz))
 have hl:=qEw qs
 have h2:=Rep.sl (V:=V) (k:=1) (l:=List.map (α:=U 1) (view 1) (wI qs)) (vs:=qs.map vW) (a:=some ⟨B,off,none⟩) (cap:=cap) (by rw [qb0];exact hw qs hqw)
  (by rw [qb0];intro x hx;obtain ⟨z,_,rfl⟩:=List.mem_map.1 hx;rfl) (qu2 qs) (by omega) hcap (.inr ⟨B,off,rfl,h⟩)
 rw [hl,hql] at h2
 exact .ql h2
set_option maxRecDepth 100000 in
set_option maxHeartbeats 4000000 in
theorem qzv {V:qc} {w W:World} {B D b len cap rr:Nat} {sa:Option Addr} {qs:List Nat} {Q:Ending→World→Prop} {Kc:Act→World→Prop} (hs:qef V w) (hB:Below w.heap.size w W) (hBw:w.heap.size≤B) (hDB:B+5≤D)
 (g1:W.heap[B+1]?=some (Obj.cells (qs.map vW).toArray 175 (0,0))) (hql:qs.length=len) (hqw:∀ z∈qs,z<4294967296) (hlen:len≤549755813888) (g2:W.heap[B+2]?=some (Obj.cells #[.slice (some ⟨B+1,0,none⟩) len len] 38 (0,0)))
 (g3:W.heap[B+3]?=some (Obj.cells #[.int .u64 (rr:Int)] 44 (0,0))) (hrr:rr<18446744073709551616) (hD:W.heap[D]?=some (.deferred (some [])))
 (hK:∀ a w',Code.wpIn Fence.wide 3 Tryz.prog Code.ret (bodyPostM Fence.wide 3 Tryz.prog Tryz.f191 Q) a w'→Kc a w')
 (hQ:∀ v1 v2 V1 V2 W2,HX V w V1 W2→Rep V1 (.ql 1 1 (ofN (qa (wI qs)))) v1→Rep V1 (.ql 1 1 (ofN rr)) v2→W2.heap[D]?=some (.deferred (some []))→V2=V1→Q (.returned (.tuple #[v1,v2])) (W2.putObj D (.deferred none))) :
 Code.wpIn Fence.wide 3 Tryz.prog quI (Exit.then Kc (bodyPostM Fence.wide 3 Tryz.prog Tryz.f191 Q)) (qEh B D b sa len cap) W:=by
 have hx0:HX V w (addV V (B+1) (Obj.cells (qs.map vW).toArray 175 (0,0))) W:=HX.add hs hB (by omega) g1
 have hrep:Rep (addV V (B+1) (Obj.cells (qs.map vW).toArray 175 (0,0))) (.ql 1 1 (wI qs)) (.slice (some ⟨B+1,0,none⟩) len len):=qql (fun j c hj=>⟨_,_,_,by unfold addV;rw [if_pos rfl],by rw [List.getElem?_toArray,Nat.zero_add];exact hj⟩) hqw hql (Nat.le_refl _) (by simp [maxLen];omega)
 obtain ⟨V0,hV0⟩:∃ V0,addV V (B+1) (Obj.cells (qs.map vW).toArray 175 (0,0))=V0:=⟨_,rfl⟩
 rw [hV0] at hx0 hrep
 have c2:=Zg g2 (i:=0) rfl
 have c3:=Zg g3 (i:=0) rfl
 unfold quI qEh
 have hmx:Tryz.prog.follows .mixedOrders=true:=by kernel_rfl
 refine Code.wpIn_mono (Q:=Exit.then Kc (fun _ _ _=>False)) (fun e a w h=>by cases e <;> first | exact h | exact h.elim) ?_
 gi_region_with_o (first
  | (refine ⟨trivial,?_⟩;gi_at_call 148;refine (callsIn_wide.2 (qmF (V:=V0) (W:=W.drew) hx0.view hrep)).mono ?_;rintro e w1 ⟨v1,V1,rfl,hx1,hr1⟩;have c3':=(hx1.ext.below.cell (p:=⟨B+3,0,none⟩) (Array.getElem?_eq_some_iff.1 g3).1).trans c3)
  | (refine ⟨trivial,?_⟩;gi_at_call 78;refine (callsIn_wide.2 (qqk (V:=V1) (W:=w1) hrr hx1.view)).mono ?_;rintro e w2 ⟨v2,V2,rfl,hx2,hr2⟩))
 all_goals (
  refine hK _ _ ?_
  have hD1:w1.heap[D]?=some (.deferred (some [])):=(hx1.ext.block D (Array.getElem?_eq_some_iff.1 hD).1 (fun h=>h)).trans hD
  have hD2:w2.heap[D]?=some (.deferred (some [])):=(hx2.ext.block D (Array.getElem?_eq_some_iff.1 hD1).1 (fun h=>h)).trans hD1
  gi_wp2
  refine ⟨by simp,.inl ⟨_,_,rfl,run_takeDeferred hD2,?_⟩⟩
  refine ⟨_,results_tmp2 (t:=4) (u:=5) rfl _ _ _,hQ v1 v2 V2 V2 w2 ((hx0.drew.trans hx1).trans hx2) (Rep.mono hx2.sub hr1) hr2 hD2 rfl⟩)
theorem qGs {b:Nat} {len:Nat} (pre:List (Wo len)):∀ z∈(sf b pre).2,z<4294967296:=by
 have:∀ (l:List (Wo len)) (s:Nat×List Nat),(∀ z∈s.2,z<4294967296)→∀ z∈(l.foldl (stp b) s).2,z<4294967296:=by
  intro l
  induction l with
  | nil=>exact fun s h=>h
  | cons x l ih =>
   refine fun s h=>ih _ fun z hz=>?_
   rcases List.mem_or_eq_of_mem_set hz with hz | rfl
   · exact h z hz
   · exact Nat.mod_lt _ (by omega)
 exact this pre _ fun z hz=>by rw [(List.mem_replicate.1 hz).2];omega
theorem qEx (qs:List Nat) (j:Nat):nth (wI qs) j=((qs[j]?.getD 0:Nat):Int):=by
 unfold nth
 have:(wI qs)[j]?=(qs[j]?).map fun z=>((z:Nat):Int):=List.getElem?_map ..
 rw [this]
 cases qs[j]? <;> rfl
theorem qEy (qs:List Nat) (j y:Nat):wI (qs.set j y)=List.set (wI qs) j ((y:Nat):Int):=List.map_set ..
theorem qzw (zs:List Nat) (m:Nat) (h:m<zs.length):qa (wI (zs.drop m))=zs[m]?.getD 0+4294967296*qa (wI (zs.drop (m+1))):=by
 rw [List.drop_eq_getElem_cons h,List.getElem?_eq_getElem h]
 show qa (((zs[m]:Nat):Int)::wI (zs.drop (m+1)))=_
 rw [qa,Int.toNat_natCast];rfl
theorem qoD {zs:List Nat} (hz:∀ z∈zs,z<4294967296) (h0:0<zs.length) {b:Nat} (hb:0<b):∀ k,k≤zs.length →
 (sf b (Yz hz h0 k)).1=qa (wI (zs.drop (zs.length-k))) % b∧qa (wI (sf b (Yz hz h0 k)).2)=qa (wI (zs.drop (zs.length-k))) / b*4294967296^(zs.length-k)∧∀ j,j<zs.length-k→(sf b (Yz hz h0 k)).2[j]?.getD 0=0
 | 0,_=>by
  have e:sf b (Yz hz h0 0)=(0,List.replicate zs.length 0):=rfl
  have ev:qa (wI ([]:List Nat))=0:=rfl
  have ez:wI (List.replicate zs.length 0)=List.replicate zs.length 0:=List.map_replicate ..
  rw [e,Nat.sub_zero,List.drop_length,ev]
  refine ⟨(Nat.zero_mod b).symm,?_,fun j hj=>?_⟩
  · show qa (wI (List.replicate zs.length 0))=_
    rw [ez,Yl,Nat.zero_div,Nat.zero_mul]
  · show (List.replicate zs.length 0)[j]?.getD 0=0
    rw [List.getElem?_replicate];split <;> rfl
 | k+1,hk=>by
  obtain ⟨i1,i2,i3⟩:=qoD hz h0 hb k (by omega)
  obtain ⟨m,hm⟩:∃ m,m=zs.length-1-k:=⟨_,rfl⟩
  have e1:zs.length-k=m+1:=by omega
  have e2:zs.length-(k+1)=m:=by omega
  rw [e1] at i1 i2 i3
  rw [e2,qgU,qiC]
  have hml:m<zs.length:=by omega
  have hq:=i3 m (by omega)
  have hlen:=qmE b (Yz hz h0 k)
  have hlt:=quH hb (Yz hz h0 k)
  generalize sf b (Yz hz h0 k)=s at *
  obtain ⟨R,Q⟩:=s
  simp only at i1 i2 i3 hq hlen hlt
  have hx:=qbY hz m
  have hA:=qzw zs m hml
  simp only [← hm]
  show (R*4294967296+zs[m]?.getD 0) % b=_∧qa (wI (Q.set m ((R*4294967296+zs[m]?.getD 0) / b % 4294967296)))=_∧∀ j,j<m→(Q.set m ((R*4294967296+zs[m]?.getD 0) / b % 4294967296))[j]?.getD 0=0
  generalize zs[m]?.getD 0=x at *
  generalize hA0:qa (wI (zs.drop (m+1)))=A at *
  rw [hA]
  have hdiv:=Nat.div_add_mod A b
  have hr1:x+4294967296*A=b*(4294967296*(A / b))+(R*4294967296+x):=by
   rw [i1]
   generalize A / b=p at *
   generalize A % b=t at *
   rw [← hdiv];grind
  have hr1b:(R*4294967296+x) / b<4294967296:=by
   rw [Nat.div_lt_iff_lt_mul hb]
   have:=Nat.mul_le_mul_right 4294967296 (show R+1≤b by omega)
   rw [Nat.mul_comm 4294967296 b];omega
  rw [hr1]
  refine ⟨?_,?_,fun j hj=>?_⟩
  · rw [Nat.mul_add_mod]
  · rw [Nat.mod_eq_of_lt hr1b,Nat.mul_add_div hb,qEy]
    have hs:=YW (wI Q) m (((R*4294967296+x) / b:Nat):Int) (by rw [qg1];omega)
    rw [qEx,hq,Int.toNat_natCast,i2,Nat.pow_succ] at hs
    generalize (R*4294967296+x) / b=d at *
    generalize A / b=p at *
    generalize 4294967296^m=P at *
    have hs:qa (List.set (wI Q) m (d:Int))+P*0=p*(P*4294967296)+P*d:=hs
    rw [Nat.mul_zero,Nat.add_zero] at hs
    rw [hs];grind
  · rw [List.getElem?_set_ne (by omega)];exact i3 j (by omega)
theorem qEz {zs:List Nat} (hz:∀ z∈zs,z<4294967296) {b:Nat} (hb:0<b) {ys:List (Wo zs.length)} (h:All hz ys):(sf b ys).1=qa (wI zs) % b∧qa (wI (sf b ys).2)=qa (wI zs) / b:=by
 rcases h with ⟨rfl,h0⟩ | ⟨hl,rfl⟩
 · have:zs=[]:=List.eq_nil_of_length_eq_zero h0
   subst this
   exact ⟨(Nat.zero_mod b).symm,(Nat.zero_div b).symm⟩
 · obtain ⟨h1,h2,_⟩:=qoD hz hl hb zs.length (Nat.le_refl _)
   rw [Nat.sub_self,List.drop_zero] at h1 h2
   rw [Nat.pow_zero,Nat.mul_one] at h2
   exact ⟨h1,h2⟩
theorem qoE {V V':qc}:∀ {l:List T} {vs:List Value},(∀ x∈l,∃ v,x=T.s v)→RepA V l vs→RepA V' l vs
 | [],vs,_,h=>by cases h;exact .nil
 | x::l,vs,h,hr=>by
  cases hr with | cons h1 h2 =>
  obtain ⟨v,rfl⟩:=h x (List.mem_cons_self ..)
  cases h1 with | s h1=>exact .cons (.s h1) (qoE (fun y hy=>h y (List.mem_cons_of_mem _ hy)) h2)
theorem qk1:∀ (l:List (U 1)) (x:T),x∈(l.map (view 1)).flatMap T.cells→∃ v,x=T.s v
 | [],x,h=>by cases h
 | y::l,x,h=>by
  rcases List.mem_cons.1 (show x∈T.s (.int .u32 y)::(l.map (view 1)).flatMap T.cells from h) with rfl | h
  · exact ⟨_,rfl⟩
  · exact qk1 l x h
def qg2 (V:qc) (D:Nat):qc:=fun r=>if r=D then none else V r
theorem qk2 {V:qc} {D:Nat} {l:List (U 1)} {v:Value} (hD:∀ arr e fr,V D≠some (.cells arr e fr)) (h:Rep V (.ql 1 1 l) v):Rep (qg2 V D) (.ql 1 1 l) v:=by
 cases h with | ql h =>
 cases h with | sl a1 a2 a3 a4 a5 a6 =>
 refine .ql (.sl (qoE (qk1 l) a1) a2 a3 a4 a5 (a6.imp id ?_))
 rintro ⟨b,off,e,h⟩
 refine ⟨b,off,e,fun j c hj=>?_⟩
 obtain ⟨arr,e,fr,h1,h2⟩:=h j c hj
 refine ⟨arr,e,fr,?_,h2⟩
 unfold qg2
 rw [if_neg (fun e2=>by subst e2;exact hD _ _ _ h1)]
 exact h1
theorem qzx {a:List Int} (h:Wd a):wI (a.map Int.toNat)=a:=by
 induction a with
 | nil=>rfl
 | cons x l ih =>
  have hx:=h.head
  show ((x.toNat:Nat):Int)::wI (l.map Int.toNat)=_
  rw [ih h.tail];congr 1;omega
theorem short_fing {V:qc} {a:List Int} {b:Nat} {v:Value} (ha:Wd a) (hb0:0<b) (hb1:b<4294967296) (hlen:a.length≤549755813888) (hr:Rep V (.ql 1 1 a) v) :
 yp Tryz.prog 191 #[v,.int .u32 (b:Int)] V [] fun v V' _=>∃ rvs,RepA V' [.ql 1 1 (ofN (qa a / b)),.ql 1 1 (ofN (qa a % b))] rvs∧v=JI rvs:=by
 intro w hs _ _ _
 obtain ⟨zs,hzs⟩:∃ zs,a.map Int.toNat=zs:=⟨_,rfl⟩
 have hzl:zs.length=a.length:=by rw [← hzs,List.length_map]
 have hz:∀ z∈zs,z<4294967296:=by
  intro z hz
  rw [← hzs] at hz
  obtain ⟨x,hx,rfl⟩:=List.mem_map.1 hz
  have:=ha x hx;omega
 have hwz:wI zs=a:=by rw [← hzs];exact qzx ha
 have hW:∃ sa cap,v = .slice sa zs.length cap∧qgW w.heap.size w (.slice sa zs.length cap) zs:=by
  cases hr with | ql hr =>
  cases hr with | @sl _ _ vs ad cap a1 a2 a3 a4 a5 a6 =>
  have hl:(List.map (α:=U 1) (view 1) a).length=zs.length:=by rw [hzl];exact List.length_map ..
  refine ⟨ad,cap,by rw [hl],?_⟩
  rcases a6 with a6 | ⟨b2,off,rfl,a6⟩
  · have:zs.length=0:=by rw [← hl,a6];rfl
    exact .inl ⟨List.eq_nil_of_length_eq_zero this,ad,cap,by rw [this]⟩
  · by_cases h0:zs.length=0
    · exact .inl ⟨List.eq_nil_of_length_eq_zero h0,_,cap,by rw [h0]⟩
    have hvs:vs=zs.map vW:=by
     have e:=qb0 zs
     rw [hwz] at e
     rw [e] at a1
     clear e a6 hl hzs hzl hwz h0
     induction zs generalizing vs with
     | nil=>cases a1;rfl
     | cons x l ih =>
      cases a1 with | cons k1 k2 =>
      cases k1 with | s k1 =>
      rw [List.map_cons,ih (fun z hz2=>hz z (List.mem_cons_of_mem _ hz2)) k2]
    have hrd:∀ j,j<zs.length→rd V b2 (off+j) (vW (zs[j]?.getD 0)):=fun j hj=>a6 j _ (by rw [hvs,List.getElem?_map,List.getElem?_eq_getElem hj];rfl)
    refine .inr ⟨b2,off,cap,rfl,?_,fun j hj=>?_⟩
    · obtain ⟨arr,e,fr,h1,_⟩:=hrd 0 (by omega)
      exact (Array.getElem?_eq_some_iff.1 (hs _ _ h1)).1
    · obtain ⟨arr,e,fr,h1,h2⟩:=hrd j hj
      exact Zg (hs _ _ h1) h2
 obtain ⟨sa,cap,rfl,hI⟩:=hW
 refine callsIn_wide.1 (quK Fence.wide 3 trivial trivial trivial rfl (Nat.le_refl _) sa cap b hb0 hb1 zs hz (by omega) w hI ?_)
 intro D ys W Kc hK hD hA hInv hB hDh
 have hlt:=quH hb0 ys
 obtain ⟨m1,m2⟩:=qEz hz hb0 hA
 rw [hwz] at m1 m2
 refine qzv hs hB (Nat.le_refl _) hD hInv.h1 (qmE b ys) (qGs ys) (by omega) hInv.h2 hInv.h3 (by omega) hDh hK ?_
 rintro v1 v2 V1 V2 W2 hx r1 r2 hD2 _
 rw [m2] at r1
 rw [m1] at r2
 have hnD:∀ arr e fr,V1 D≠some (.cells arr e fr):=fun arr e fr h=>by
  have:=hx.view D _ h
  rw [hD2] at this;cases this
 have hoth:∀ r,r≠D→(W2.putObj D (.deferred none)).heap[r]?=W2.heap[r]?:=fun r hr=>World.putObj_heap_other hr
 refine ⟨_,qg2 V1 D,[],rfl,⟨⟨hx.ext.os,hx.ext.tape,hx.ext.output,by have:=hx.ext.size;simpa using this,fun k hk _=>(hoth k (by have:k<w.heap.size:=hk;omega)).trans (hx.ext.block k hk (fun h=>h))⟩,
  fun r o hr=>?_,(fun _ hp=>(List.not_mem_nil hp).elim),(fun _ hp=>(List.not_mem_nil hp).elim),.nil,fun r o hr=>?_,fun r h1 h2=>?_⟩,[v1,v2],.cons (qk2 hnD r1) (.cons (qk2 hnD r2) .nil),rfl⟩
 · unfold qg2 at hr
   by_cases e:r=D
   · rw [if_pos e] at hr;cases hr
   · rw [if_neg e] at hr;exact (hoth r e).trans (hx.view r o hr)
 · have hlt2:r<w.heap.size:=(Array.getElem?_eq_some_iff.1 (hs r o hr)).1
   unfold qg2
   rw [if_neg (by omega)];exact hx.sub r o hr
 · unfold qg2 at h2
   by_cases e:r=D
   · rw [if_pos e] at h2;exact absurd rfl h2
   · rw [if_neg e] at h2
     exact (hx.newer r h1 h2).imp id False.elim
end Go.Proofs.Sho
end
section
namespace Fly
open Go Go.Proofs Su
set_option maxRecDepth 10000
noncomputable def tbN:Tabs Tryz.prog:=Su.qi.sound.tb
section
variable {P:Program} {n:Nat} {X:Cx} {L:Lo} {V:qc} {G:Own} {Q:Value→qc→Own→Prop}
variable {ty:TypeId} {pos:String} {af:Array Edge} {gd:Option (Nat×Bool)} {ds:Option Tmp}
theorem qiH {t e:TypeId} {a:Option Addr} {len cap:Nat} (hu:P.underlying t=some (.slice e)) (w:World):(Op.equal t (.slice a len cap) (.slice none 0 0)).run P w = .ok a.isNone w:=by
 show (Op.equalIn (9999+1) t (.slice a len cap) (.slice none 0 0)).run P w=_
 unfold Op.equalIn
 rw [Sem.run_bind,Fly.run_underlying hu]
 cases a <;> rfl
theorem qfw {t u e:TypeId} {x y:Operand} {a:Option Addr} {len cap:Nat} (hx:ev L x=some (.slice a len cap)) (hy:ev L y=some (.slice none 0 0)) (hu:P.underlying t=some (.slice e)) (k:Q (.bool a.isNone) V G) :
 Opr P n X L V G ⟨ds,.binOp .eql t x y u,ty,pos,af,gd⟩ Q:=qln hx hy rfl (fun w=>by simp [eqGuard]) (qiH hu) k
end
attribute [local irreducible] WC WE WR Opr St Go.Calls qwD qB5 qjd Rel yp qFG qB6 Owe One qli Go.CallsD
theorem qEA {V:qc} {len cap:Nat} {Q:Value→qc→Own→Prop} (hQ:Q (.slice none 0 0) V []):yp Tryz.prog 190 #[.slice none len cap] V [] Q:=by
 refine QG (args:=[_]) Tryz.func190 rfl Tryz.ntmps190 rfl ?_
 intro X w hM hb hw hV0 hR;dsimp only [Z1,Nat.zero_add,Nat.reduceAdd]
 (repeat' (first | refine qb1 ?_ | refine Qs ?_ | refine qb4 ?_ | refine Zr ?_ | refine JA ?_ | refine Zo ?_ | refine qb3 ?_ | refine Zp ?_ | refine jU ?_ | refine jH ?_ | refine yG rfl ?_ | refine yg ?_ | refine qb2 ?_ | ((first | refine qaf rfl ?_ | refine qaU ?_ | refine qi7 rfl rfl rfl ?_);(first | (refine qfw (e:=175) rfl rfl (by kernel_rfl) ?_) | refine Zs rfl ?_ | refine Qt rfl ?_ | refine qb7 rfl rfl ?_ | refine qb8 rfl rfl ?_ | refine qb9 rfl rfl ?_ | refine qca rfl rfl ?_ | refine qcb rfl rfl ?_ | refine qcc rfl rfl ?_ | refine yH rfl rfl ?_ | refine qcf rfl ?_ | refine Qv rfl rfl ?_ | refine Qw rfl rfl ?_ | refine qaV rfl rfl (by omega) (by omega) ?_ | refine qaW rfl rfl (by omega) (by omega) ?_ | refine qaX rfl rfl (by omega) (by omega) ?_ | refine qag rfl rfl ?_ | refine qah rfl rfl ?_ | refine qai rfl rfl ?_ | refine jo tbN rfl rfl ?_ | refine yJ tbN rfl rfl rfl ?_ | refine qb5 rfl rfl ?_ | refine qfM rfl rfl ?_ | refine qb6 rfl rfl ?_ | refine Qu rfl rfl ?_ | refine qcd rfl rfl (by decide) ?_ | refine qce rfl rfl (by decide) ?_ | refine qcp rfl rfl ?_ | refine Zy rfl rfl ?_ | refine qa4 rfl rfl (by kernel_rfl) ?_ | refine YJ rfl rfl (by kernel_rfl) ?_ | refine yI tbN rfl rfl rfl ?_ | refine qcg rfl ?_ | refine QC tbN rfl rfl rfl ?_ | (apply YB tbN rfl rfl;(· (first | (refine At.own (?_);repeat (first | exact Has.here | refine Has.there ?_)) | exact At.seen (by assumption)));(· exact rfl)) | (apply JB tbN rfl rfl;(· (first | (refine At.own (?_);repeat (first | exact Has.here | refine Has.there ?_)) | exact At.seen (by assumption)));(· exact rfl)) | (apply JC tbN rfl rfl rfl rfl rfl;(· (repeat (first | exact Upd.here | apply Upd.there)));(· exact rfl)) | (apply JD tbN rfl rfl rfl rfl rfl;(· (repeat (first | exact Upd.here | apply Upd.there)));(· exact rfl)) | (apply QF tbN (by kernel_rfl) rfl (rfl:tbN.fo _ 0=_);(· (repeat (first | exact Fill.nil | (apply Fill.cons;(· exact rfl);(· exact rfl);(· exact rfl);(· exact rfl);(· exact rfl)))))) | (refine yW rfl ?_;intro b) | (refine J7 rfl rfl ?_;intro b) | (refine QE tbN rfl ?_;intro b) | (apply jv tbN;(· exact rfl);(· exact rfl);(· exact rfl);(· decide);(· (repeat (first | exact Cat.nil | (apply Cat.cons;(· exact rfl);(· exact rfl);(· exact rfl)) | exact App.nil | apply App.cons)));intro b))) | refine qqI rfl rfl rfl rfl ?_ | refine Qq rfl ?_ | refine Qr rfl ?_ | refine qi8 rfl (fun _=>?_) (fun _=>?_) | refine qeg rfl (fun _=>?_) (fun _=>?_) | refine YC rfl rfl (fun _=>?_) (fun _=>?_) | refine YD rfl rfl (fun _=>?_) (fun _=>?_) | refine qa5 rfl (fun _=>?_) (fun _=>?_) | refine qez rfl (fun _=>?_) (fun _=>?_) | refine JH rfl rfl (fun _=>?_) (fun _=>?_) | refine YK rfl rfl (fun _=>?_) (fun _=>?_)))
 exact qeo hM hw hV0 hR [] (List.Sublist.refl _) (qB2 rfl rfl) hQ
theorem qEB {V:qc} {a:Addr} {cap:Nat} {Q:Value→qc→Own→Prop} (hQ:∀ b,Q (.slice (some ⟨b,0,none⟩) 0 0) V [(b,.cells #[] 175 (0,0))]):yp Tryz.prog 190 #[.slice (some a) 0 cap] V [] Q:=by
 refine QG (args:=[_]) Tryz.func190 rfl Tryz.ntmps190 rfl ?_
 intro X w hM hb hw hV0 hR;dsimp only [Z1,Nat.zero_add,Nat.reduceAdd]
 (repeat' (first | refine qb1 ?_ | refine Qs ?_ | refine qb4 ?_ | refine Zr ?_ | refine JA ?_ | refine Zo ?_ | refine qb3 ?_ | refine Zp ?_ | refine jU ?_ | refine jH ?_ | refine yG rfl ?_ | refine yg ?_ | refine qb2 ?_ | ((first | refine qaf rfl ?_ | refine qaU ?_ | refine qi7 rfl rfl rfl ?_);(first | (refine qfw (e:=175) rfl rfl (by kernel_rfl) ?_) | refine Zs rfl ?_ | refine Qt rfl ?_ | refine qb7 rfl rfl ?_ | refine qb8 rfl rfl ?_ | refine qb9 rfl rfl ?_ | refine qca rfl rfl ?_ | refine qcb rfl rfl ?_ | refine qcc rfl rfl ?_ | refine yH rfl rfl ?_ | refine qcf rfl ?_ | refine Qv rfl rfl ?_ | refine Qw rfl rfl ?_ | refine qaV rfl rfl (by omega) (by omega) ?_ | refine qaW rfl rfl (by omega) (by omega) ?_ | refine qaX rfl rfl (by omega) (by omega) ?_ | refine qag rfl rfl ?_ | refine qah rfl rfl ?_ | refine qai rfl rfl ?_ | refine jo tbN rfl rfl ?_ | refine yJ tbN rfl rfl rfl ?_ | refine qb5 rfl rfl ?_ | refine qfM rfl rfl ?_ | refine qb6 rfl rfl ?_ | refine Qu rfl rfl ?_ | refine qcd rfl rfl (by decide) ?_ | refine qce rfl rfl (by decide) ?_ | refine qcp rfl rfl ?_ | refine Zy rfl rfl ?_ | refine qa4 rfl rfl (by kernel_rfl) ?_ | refine YJ rfl rfl (by kernel_rfl) ?_ | refine yI tbN rfl rfl rfl ?_ | refine qcg rfl ?_ | refine QC tbN rfl rfl rfl ?_ | (apply YB tbN rfl rfl;(· (first | (refine At.own (?_);repeat (first | exact Has.here | refine Has.there ?_)) | exact At.seen (by assumption)));(· exact rfl)) | (apply JB tbN rfl rfl;(· (first | (refine At.own (?_);repeat (first | exact Has.here | refine Has.there ?_)) | exact At.seen (by assumption)));(· exact rfl)) | (apply JC tbN rfl rfl rfl rfl rfl;(· (repeat (first | exact Upd.here | apply Upd.there)));(· exact rfl)) | (apply JD tbN rfl rfl rfl rfl rfl;(· (repeat (first | exact Upd.here | apply Upd.there)));(· exact rfl)) | (apply QF tbN (by kernel_rfl) rfl (rfl:tbN.fo _ 0=_);(· (repeat (first | exact Fill.nil | (apply Fill.cons;(· exact rfl);(· exact rfl);(· exact rfl);(· exact rfl);(· exact rfl)))))) | (refine yW rfl ?_;intro b) | (refine J7 rfl rfl ?_;intro b) | (refine QE tbN rfl ?_;intro b) | (apply jv tbN;(· exact rfl);(· exact rfl);(· exact rfl);(· decide);(· (repeat (first | exact Cat.nil | (apply Cat.cons;(· exact rfl);(· exact rfl);(· exact rfl)) | exact App.nil | apply App.cons)));intro b))) | refine qqI rfl rfl rfl rfl ?_ | refine Qq rfl ?_ | refine Qr rfl ?_ | refine qi8 rfl (fun _=>?_) (fun _=>?_) | refine qeg rfl (fun _=>?_) (fun _=>?_) | refine YC rfl rfl (fun _=>?_) (fun _=>?_) | refine YD rfl rfl (fun _=>?_) (fun _=>?_) | refine qa5 rfl (fun _=>?_) (fun _=>?_) | refine qez rfl (fun _=>?_) (fun _=>?_) | refine JH rfl rfl (fun _=>?_) (fun _=>?_) | refine YK rfl rfl (fun _=>?_) (fun _=>?_)))
 refine qaf rfl (qao (e:=175) (k:=1) tbN rfl rfl rfl (Nat.le_refl 0) ?_)
 (repeat' (first | refine qb1 ?_ | refine Qs ?_ | refine qb4 ?_ | refine Zr ?_ | refine JA ?_ | refine Zo ?_ | refine qb3 ?_ | refine Zp ?_ | refine jU ?_ | refine jH ?_ | refine yG rfl ?_ | refine yg ?_ | refine qb2 ?_ | ((first | refine qaf rfl ?_ | refine qaU ?_ | refine qi7 rfl rfl rfl ?_);(first | refine Zs rfl ?_ | refine Qt rfl ?_ | refine qb7 rfl rfl ?_ | refine qb8 rfl rfl ?_ | refine qb9 rfl rfl ?_ | refine qca rfl rfl ?_ | refine qcb rfl rfl ?_ | refine qcc rfl rfl ?_ | refine yH rfl rfl ?_ | refine qcf rfl ?_ | refine Qv rfl rfl ?_ | refine Qw rfl rfl ?_ | refine qaV rfl rfl (by omega) (by omega) ?_ | refine qaW rfl rfl (by omega) (by omega) ?_ | refine qaX rfl rfl (by omega) (by omega) ?_ | refine qag rfl rfl ?_ | refine qah rfl rfl ?_ | refine qai rfl rfl ?_ | refine jo tbN rfl rfl ?_ | refine yJ tbN rfl rfl rfl ?_ | refine qb5 rfl rfl ?_ | refine qfM rfl rfl ?_ | refine qb6 rfl rfl ?_ | refine Qu rfl rfl ?_ | refine qcd rfl rfl (by decide) ?_ | refine qce rfl rfl (by decide) ?_ | refine qcp rfl rfl ?_ | refine Zy rfl rfl ?_ | refine qa4 rfl rfl (by kernel_rfl) ?_ | refine YJ rfl rfl (by kernel_rfl) ?_ | refine yI tbN rfl rfl rfl ?_ | refine qcg rfl ?_ | refine QC tbN rfl rfl rfl ?_ | (apply YB tbN rfl rfl;(· (first | (refine At.own (?_);repeat (first | exact Has.here | refine Has.there ?_)) | exact At.seen (by assumption)));(· exact rfl)) | (apply JB tbN rfl rfl;(· (first | (refine At.own (?_);repeat (first | exact Has.here | refine Has.there ?_)) | exact At.seen (by assumption)));(· exact rfl)) | (apply JC tbN rfl rfl rfl rfl rfl;(· (repeat (first | exact Upd.here | apply Upd.there)));(· exact rfl)) | (apply JD tbN rfl rfl rfl rfl rfl;(· (repeat (first | exact Upd.here | apply Upd.there)));(· exact rfl)) | (apply QF tbN (by kernel_rfl) rfl (rfl:tbN.fo _ 0=_);(· (repeat (first | exact Fill.nil | (apply Fill.cons;(· exact rfl);(· exact rfl);(· exact rfl);(· exact rfl);(· exact rfl)))))) | (refine yW rfl ?_;intro b) | (refine J7 rfl rfl ?_;intro b) | (refine QE tbN rfl ?_;intro b) | (apply jv tbN;(· exact rfl);(· exact rfl);(· exact rfl);(· decide);(· (repeat (first | exact Cat.nil | (apply Cat.cons;(· exact rfl);(· exact rfl);(· exact rfl)) | exact App.nil | apply App.cons)));intro b))) | refine qqI rfl rfl rfl rfl ?_ | refine Qq rfl ?_ | refine Qr rfl ?_ | refine qi8 rfl (fun _=>?_) (fun _=>?_) | refine qeg rfl (fun _=>?_) (fun _=>?_) | refine YC rfl rfl (fun _=>?_) (fun _=>?_) | refine YD rfl rfl (fun _=>?_) (fun _=>?_) | refine qa5 rfl (fun _=>?_) (fun _=>?_) | refine qez rfl (fun _=>?_) (fun _=>?_) | refine JH rfl rfl (fun _=>?_) (fun _=>?_) | refine YK rfl rfl (fun _=>?_) (fun _=>?_)))
 exact qeo hM hw hV0 hR [(b,.cells #[] 175 (0,0))] (List.Sublist.refl _) (qB2 rfl rfl) (hQ b)
theorem qEC {V:qc} {bb off len cap:Nat} {news:List Value} {Q:Value→qc→Own→Prop} (hn:news.length=len*1) (h1:∀ u∈news,u.oneCell'=true) (hr:∀ (j:Nat) (u:Value),news[j]?=some u→rd V bb (off+j) u) (h0:0<len) (hl:len≤549755813888)
 (hQ:∀ v' Gr',Row 175 1 v' Gr' len news→Q v' V Gr'):yp Tryz.prog 190 #[.slice (some ⟨bb,off,none⟩) len cap] V [] Q:=by
 refine QG (args:=[_]) Tryz.func190 rfl Tryz.ntmps190 rfl ?_
 intro X w hM hb hw hV0 hR;dsimp only [Z1,Nat.zero_add,Nat.reduceAdd]
 (repeat' (first | refine qb1 ?_ | refine Qs ?_ | refine qb4 ?_ | refine Zr ?_ | refine JA ?_ | refine Zo ?_ | refine qb3 ?_ | refine Zp ?_ | refine jU ?_ | refine jH ?_ | refine yG rfl ?_ | refine yg ?_ | refine qb2 ?_ | ((first | refine qaf rfl ?_ | refine qaU ?_ | refine qi7 rfl rfl rfl ?_);(first | (refine qfw (e:=175) rfl rfl (by kernel_rfl) ?_) | refine Zs rfl ?_ | refine Qt rfl ?_ | refine qb7 rfl rfl ?_ | refine qb8 rfl rfl ?_ | refine qb9 rfl rfl ?_ | refine qca rfl rfl ?_ | refine qcb rfl rfl ?_ | refine qcc rfl rfl ?_ | refine yH rfl rfl ?_ | refine qcf rfl ?_ | refine Qv rfl rfl ?_ | refine Qw rfl rfl ?_ | refine qaV rfl rfl (by omega) (by omega) ?_ | refine qaW rfl rfl (by omega) (by omega) ?_ | refine qaX rfl rfl (by omega) (by omega) ?_ | refine qag rfl rfl ?_ | refine qah rfl rfl ?_ | refine qai rfl rfl ?_ | refine jo tbN rfl rfl ?_ | refine yJ tbN rfl rfl rfl ?_ | refine qb5 rfl rfl ?_ | refine qfM rfl rfl ?_ | refine qb6 rfl rfl ?_ | refine Qu rfl rfl ?_ | refine qcd rfl rfl (by decide) ?_ | refine qce rfl rfl (by decide) ?_ | refine qcp rfl rfl ?_ | refine Zy rfl rfl ?_ | refine qa4 rfl rfl (by kernel_rfl) ?_ | refine YJ rfl rfl (by kernel_rfl) ?_ | refine yI tbN rfl rfl rfl ?_ | refine qcg rfl ?_ | refine QC tbN rfl rfl rfl ?_ | (apply YB tbN rfl rfl;(· (first | (refine At.own (?_);repeat (first | exact Has.here | refine Has.there ?_)) | exact At.seen (by assumption)));(· exact rfl)) | (apply JB tbN rfl rfl;(· (first | (refine At.own (?_);repeat (first | exact Has.here | refine Has.there ?_)) | exact At.seen (by assumption)));(· exact rfl)) | (apply JC tbN rfl rfl rfl rfl rfl;(· (repeat (first | exact Upd.here | apply Upd.there)));(· exact rfl)) | (apply JD tbN rfl rfl rfl rfl rfl;(· (repeat (first | exact Upd.here | apply Upd.there)));(· exact rfl)) | (apply QF tbN (by kernel_rfl) rfl (rfl:tbN.fo _ 0=_);(· (repeat (first | exact Fill.nil | (apply Fill.cons;(· exact rfl);(· exact rfl);(· exact rfl);(· exact rfl);(· exact rfl)))))) | (refine yW rfl ?_;intro b) | (refine J7 rfl rfl ?_;intro b) | (refine QE tbN rfl ?_;intro b) | (apply jv tbN;(· exact rfl);(· exact rfl);(· exact rfl);(· decide);(· (repeat (first | exact Cat.nil | (apply Cat.cons;(· exact rfl);(· exact rfl);(· exact rfl)) | exact App.nil | apply App.cons)));intro b))) | refine qqI rfl rfl rfl rfl ?_ | refine Qq rfl ?_ | refine Qr rfl ?_ | refine qi8 rfl (fun _=>?_) (fun _=>?_) | refine qeg rfl (fun _=>?_) (fun _=>?_) | refine YC rfl rfl (fun _=>?_) (fun _=>?_) | refine YD rfl rfl (fun _=>?_) (fun _=>?_) | refine qa5 rfl (fun _=>?_) (fun _=>?_) | refine qez rfl (fun _=>?_) (fun _=>?_) | refine JH rfl rfl (fun _=>?_) (fun _=>?_) | refine YK rfl rfl (fun _=>?_) (fun _=>?_)))
 refine qaf rfl (qap (e:=175) (k:=1) (m:=0) (z:=[.int .u32 0]) (Gr:=[(b,.cells #[] 175 (0,0))]) (G1:=[]) (xs:=[]) (news:=news) tbN rfl rfl rfl (Nat.le_of_ble_eq_true (by kernel_rfl)) rfl rfl (fun w hw j u hj=>?_) hn h1 (Row.some (g:=b) (cur:=#[]) (Nat.le_refl 0) (by simp [maxLen]) rfl rfl) (List.Perm.refl _) h0 (by omega) fun v' Gr' hR'=>?_)
 · obtain ⟨arr,e,f0,q1,q2⟩:=hr j u hj
   rw [yo,ye (hw.view _ _ q1)];exact q2
 · (repeat' (first | refine qb1 ?_ | refine Qs ?_ | refine qb4 ?_ | refine Zr ?_ | refine JA ?_ | refine Zo ?_ | refine qb3 ?_ | refine Zp ?_ | refine jU ?_ | refine jH ?_ | refine yG rfl ?_ | refine yg ?_ | refine qb2 ?_ | ((first | refine qaf rfl ?_ | refine qaU ?_ | refine qi7 rfl rfl rfl ?_);(first | refine Zs rfl ?_ | refine Qt rfl ?_ | refine qb7 rfl rfl ?_ | refine qb8 rfl rfl ?_ | refine qb9 rfl rfl ?_ | refine qca rfl rfl ?_ | refine qcb rfl rfl ?_ | refine qcc rfl rfl ?_ | refine yH rfl rfl ?_ | refine qcf rfl ?_ | refine Qv rfl rfl ?_ | refine Qw rfl rfl ?_ | refine qaV rfl rfl (by omega) (by omega) ?_ | refine qaW rfl rfl (by omega) (by omega) ?_ | refine qaX rfl rfl (by omega) (by omega) ?_ | refine qag rfl rfl ?_ | refine qah rfl rfl ?_ | refine qai rfl rfl ?_ | refine jo tbN rfl rfl ?_ | refine yJ tbN rfl rfl rfl ?_ | refine qb5 rfl rfl ?_ | refine qfM rfl rfl ?_ | refine qb6 rfl rfl ?_ | refine Qu rfl rfl ?_ | refine qcd rfl rfl (by decide) ?_ | refine qce rfl rfl (by decide) ?_ | refine qcp rfl rfl ?_ | refine Zy rfl rfl ?_ | refine qa4 rfl rfl (by kernel_rfl) ?_ | refine YJ rfl rfl (by kernel_rfl) ?_ | refine yI tbN rfl rfl rfl ?_ | refine qcg rfl ?_ | refine QC tbN rfl rfl rfl ?_ | (apply YB tbN rfl rfl;(· (first | (refine At.own (?_);repeat (first | exact Has.here | refine Has.there ?_)) | exact At.seen (by assumption)));(· exact rfl)) | (apply JB tbN rfl rfl;(· (first | (refine At.own (?_);repeat (first | exact Has.here | refine Has.there ?_)) | exact At.seen (by assumption)));(· exact rfl)) | (apply JC tbN rfl rfl rfl rfl rfl;(· (repeat (first | exact Upd.here | apply Upd.there)));(· exact rfl)) | (apply JD tbN rfl rfl rfl rfl rfl;(· (repeat (first | exact Upd.here | apply Upd.there)));(· exact rfl)) | (apply QF tbN (by kernel_rfl) rfl (rfl:tbN.fo _ 0=_);(· (repeat (first | exact Fill.nil | (apply Fill.cons;(· exact rfl);(· exact rfl);(· exact rfl);(· exact rfl);(· exact rfl)))))) | (refine yW rfl ?_;intro b) | (refine J7 rfl rfl ?_;intro b) | (refine QE tbN rfl ?_;intro b) | (apply jv tbN;(· exact rfl);(· exact rfl);(· exact rfl);(· decide);(· (repeat (first | exact Cat.nil | (apply Cat.cons;(· exact rfl);(· exact rfl);(· exact rfl)) | exact App.nil | apply App.cons)));intro b))) | refine qqI rfl rfl rfl rfl ?_ | refine Qq rfl ?_ | refine Qr rfl ?_ | refine qi8 rfl (fun _=>?_) (fun _=>?_) | refine qeg rfl (fun _=>?_) (fun _=>?_) | refine YC rfl rfl (fun _=>?_) (fun _=>?_) | refine YD rfl rfl (fun _=>?_) (fun _=>?_) | refine qa5 rfl (fun _=>?_) (fun _=>?_) | refine qez rfl (fun _=>?_) (fun _=>?_) | refine JH rfl rfl (fun _=>?_) (fun _=>?_) | refine YK rfl rfl (fun _=>?_) (fun _=>?_)))
   rw [List.append_nil]
   refine qeo hM hw hV0 hR Gr' (List.Sublist.refl _) (qB2 rfl rfl) (hQ _ _ ?_)
   rw [Nat.zero_add,List.nil_append] at hR'
   exact hR'
end Fly
namespace Su
open Go Go.Proofs Fly
theorem qmG (l:List T):sub l 0 l.length=some l:=Jb l
theorem qiI {P:Program} {f:Nat} {V:qc} {vs:List Value} {l:List T} {e w:Nat}
 (h:yp P f vs.toArray V [] fun v V' G'=>∃ ie,RepOB V' [ie] (.row false e w l) ie G'∧RepS V' [ie] (.osl 0 0 l.length) v):yp P f vs.toArray V [] fun v V' _=>∃ rvs,RepA V' [.sl w l] rvs∧v=JI rvs:=by
 intro w0 hs hG hV hnd
 refine (h w0 hs hG hV hnd).mono ?_
 rintro ex w' ⟨v,V',G',rfl,hh,ie,m1,m2⟩
 have hsub:sub l 0 l.length=some l:=qmG l
 have hz:toTs 64 ⟨[],[],[.row false e w l]⟩ [.osl 0 0 l.length]=some ([.sl w l],(St.mk [] [] [.row false e w l]).frow 0 w l):=by
  simp only [toTs,toT,List.getElem?_cons_zero,hsub,Option.bind_some]
 obtain ⟨V2,G2,g2,s2,r2,_⟩:=(y7 (I:=[ie]) (L:=[]) 64).2 ⟨[],[],[.row false e w l]⟩ _ [.osl 0 0 l.length] _ hz V' G' [v] (.cons m2 .nil) ⟨⟨G'++[],.cons m1 .nil,by rw [List.append_nil]⟩,fun d sv hd _=>by simp [St.look] at hd⟩ ⟨fun p hp=>(hh.free p (by simp [hp])).2,by have:=hh.nodup;simpa using this⟩
 exact ⟨_,V2,G2,rfl,g2.holds _ _ hh,[v],r2,rfl⟩
noncomputable def qu3:PrimD:=⟨List Int,fun xs=>((d1 (cQ 1 1)).dec xs).bind fun l=>bif qkk l then some l else none,fun l=>[.sl 1 (l.map eW)],none,some (175,1),fun _=>none⟩
theorem qmH {V:qc} {v:Value} {l:List T} (hl:l.length≤549755813888) (h:Rep V (.sl 1 l) v) :
 yp Tryz.prog 190 #[v] V [] fun v' V' G'=>∃ ie,RepOB V' [ie] (.row false 175 1 l) ie G'∧RepS V' [ie] (.osl 0 0 l.length) v':=by
 cases h with | @sl _ _ vs a cap a1 a2 a3 a4 a5 a6 =>
 have hn:vs.length=l.length*1:=by rw [← a1.length,y6 a3]
 by_cases h0:l=[]
 · subst h0
   cases a with
   | none=>exact qEA ⟨.vrow,.vrow,.oslv rfl⟩
   | some a=>exact qEB fun b=>⟨.row b 1 0,.row (by simp) (by simp [maxLen]) (by simp) (by simpa using RepA.nil) (by simp) (by simp),by
    have:=RepS.osl (V:=V) (I:=[IE.row b 1 0]) (n:=0) (off:=0) (len:=0) (b:=b) (k:=1) (ct:=0) rfl (by omega) (by simp [maxLen])
    simpa using this⟩
 · have hpos:0<l.length:=List.length_pos_iff.2 h0
   rcases a6 with a6 | ⟨b,off,rfl,a6⟩
   · exact absurd a6 h0
   · refine qEC hn (QN a1 a2) a6 hpos hl fun v' Gr' hR=>?_
     obtain ⟨b',ct,rfl,b1,b2,b3⟩:=qry (V:=V) (I:=[.row 0 0 0]) (l:=l) hR hpos rfl a1 a2 a3
     refine ⟨.row b' 1 ct,b3.row_any,?_⟩
     have:=RepS.osl (V:=V) (I:=[IE.row b' 1 ct]) (n:=0) (off:=0) (len:=l.length) (b:=b') (k:=1) (ct:=ct) rfl (by omega) b2
     rw [Nat.zero_mul,Nat.sub_zero] at this
     exact this
theorem qk3 (xs:List T) (y:List Int) (h:((d1 (cQ 1 1)).dec xs).bind (fun l=>bif qkk l then some l else none)=some y) (V:qc) (vs:List Value) (hr:RepA V xs vs) :
 yp Tryz.prog 190 vs.toArray V [] fun v V' G'=>∃ ie,RepOB V' [ie] (.row false 175 1 (y.map eW)) ie G'∧RepS V' [ie] (.osl 0 0 (y.map eW).length) v:=by
 obtain ⟨l,h1,h2⟩:=osm h
 obtain ⟨h3,h4⟩:=qj h2
 have:=soi h4;subst this
 have hr2:=(d1 (cQ 1 1)).rep h1 hr
 cases hr2 with | cons k1 k2=>cases k2 with | nil =>
 cases k1 with | ql k1 =>
 exact qmH (l:=l.map eW) (by have h5:(l.map (view 1)).length=l.length:=List.length_map ..;rw [show (List.map eW l).length=l.length from h5];exact Nat.le_of_ble_eq_true h3) k1
theorem qu4:Ok1 Tryz.prog Su.tb qi.sound 190 qu3:=by
 refine ⟨by kernel_rfl,fun xs y h V vs _ hr=>qiI (qk3 xs y h V vs hr),fun j hj xs y h V vs _ hr=>?_⟩
 have hj:some ((175,1):Nat×Nat)=some j:=hj
 simp only [Option.some.injEq] at hj;subst hj
 intro w0 a1 a2 a3 a4
 refine (qk3 xs y h V vs hr w0 a1 a2 a3 a4).mono ?_
 rintro e w' ⟨v,V',G',rfl,hh,ie,m1,m2⟩
 refine ⟨v,V',G',rfl,hh,fun w l he hw=>?_⟩
 have he:[T.sl 1 (y.map eW)]=[.sl w l]:=he
 simp only [List.cons.injEq,T.sl.injEq,and_true] at he
 obtain ⟨rfl,rfl⟩:=he
 exact ⟨ie,m1,m2⟩
end Su
end
section
namespace Su
open Go Go.Proofs Fly
noncomputable def qoF:PrimD:=prim (dc (cQ 1 1) (d1 (cI .u32))) (dc (cQ 1 1) (d1 (cQ 1 1))) qbx
theorem qzy:Ok1 Tryz.prog tb qi.sound 191 qoF:=by
 refine ⟨by kernel_rfl,fun xs y h V vs _ hr=>?_,fun j hj=>nomatch hj⟩
 obtain ⟨p,h1,h2⟩:=osm (show ((dc (cQ 1 1) (d1 (cI .u32))).dec xs).bind qbx=some y from h)
 have hr2:=(dc (cQ 1 1) (d1 (cI .u32))).rep h1 hr
 have hg:=(dc (cQ 1 1) (d1 (cI .u32))).rng hr2
 obtain ⟨a,b⟩:=p
 obtain ⟨h3,h4⟩:=qj h2
 have:=soi h4;subst this
 rw [Bool.and_eq_true,decide_eq_true_eq] at h3
 obtain ⟨⟨ha,la⟩,hb⟩:=hg
 have hb:=qdQ.1 hb
 obtain ⟨h3a,h3b⟩:=h3
 have h3a:0<b:=h3a
 obtain ⟨B,rfl⟩:∃ B:Nat,b=(B:Int):=⟨b.toNat,by omega⟩
 cases hr2 with | cons k1 k2 =>
 cases k2 with | cons k2 k3 =>
 cases k3 with | nil =>
 cases k2 with | s k2 =>
 exact Go.Proofs.Sho.short_fing (Wd.of ha) (by omega) (by have:=hb.2;omega) (Nat.le_of_ble_eq_true h3b) k1
noncomputable def qoG:PrimD:=prim (d1 (cQ 1 1)) (d1 (cQ 1 1)) yX
theorem qzz:Ok1 Tryz.prog tb qi.sound 190 qoG:=by
 refine ⟨by kernel_rfl,fun xs y h V vs hg hr=>?_,fun j hj=>nomatch hj⟩
 have hF:=qu4.2.1 xs y h V vs hg hr
 intro w a1 a2 a3 a4
 refine (hF w a1 a2 a3 a4).mono ?_
 rintro e w' ⟨v,V',G',rfl,hh,rvs,m1,rfl⟩
 refine ⟨_,V',G',rfl,hh,rvs,?_,rfl⟩
 have m1:RepA V' [.sl 1 (List.map (view 1) (y:List (U 1)))] rvs:=m1
 cases m1 with | cons k1 k2=>cases k2 with | nil=>exact .cons (.ql k1) .nil
noncomputable def qiJ:qy:=qM [(190,qoG),(191,qoF)] qu1
theorem qg3:qn Tryz.prog tb qi.sound qiJ:=qm qqj (qe qzz (qe qzy qw))
end Su
end
section
namespace Su
open Go Go.Proofs Fly
set_option maxRecDepth 100000
theorem qED (fu:Nat) (a:(List Int)) (b:(List Int)):qu tb qiJ (shN tb qiJ fu 9) fu 147 ((dc (cQ 1 1) (d1 (cQ 1 1))).enc (a,b)) ((dc (cQ 1 1) (dc (cQ 1 1) (d1 (cI .i64))))).dec=Div fu a b:=by kernel_rfl
noncomputable def qBK:PrimD:=prim (dc (cQ 1 1) (d1 (cQ 1 1))) (dc (cQ 1 1) (dc (cQ 1 1) (d1 (cI .i64)))) (qby)
theorem qGt:Ok1 Tryz.prog tb qi.sound 147 qBK:=qh qx qg3 (by kernel_rfl) fun a y hg h=>by
 obtain ⟨n,hn⟩:=qC5 a y hg h
 exact ⟨n,9,n,(qED n a.1 a.2).trans hn⟩
noncomputable def qiK:qy:=qM [(147,qBK)] qiJ
theorem qg4:qn Tryz.prog tb qi.sound qiK:=qm qg3 (qe qGt qw)
end Su
end
section
namespace Su
open Go Go.Proofs Fly
set_option maxRecDepth 100000
theorem qEE (fu:Nat) (a:(List Int)) (b:(List Int)):qu tb qiK (shN tb qiK fu 9) fu 146 ((dc (cQ 1 1) (d1 (cQ 1 1))).enc (a,b)) ((d1 (cQ 1 1))).dec=Gcd fu a b:=by kernel_rfl
noncomputable def qBL:PrimD:=prim (dc (cQ 1 1) (d1 (cQ 1 1))) (d1 (cQ 1 1)) (qkm)
theorem qGu:Ok1 Tryz.prog tb qi.sound 146 qBL:=qh qx qg4 (by kernel_rfl) fun a y hg h=>by
 obtain ⟨n,hn⟩:=qC7 a y hg h
 exact ⟨n,9,n,(qEE n a.1 a.2).trans hn⟩
noncomputable def qiL:qy:=qM [(146,qBL)] qiK
theorem qg5:qn Tryz.prog tb qi.sound qiL:=qm qg4 (qe qGu qw)
end Su
end
section
namespace Su
open Go Go.Proofs Fly
set_option maxRecDepth 100000
theorem qEF (fu:Nat)  (neg:Bool) (num:(List Int)) (den:(List Int)):qu tb qiL (shN tb qiL fu 9) fu 65 ((dc cB (dc (cQ 1 1) (d1 (cQ 1 1)))).enc (neg,num,den)) ((d1 cRt)).dec=Low neg num den:=by kernel_rfl
noncomputable def qBM:PrimD:=prim (dc cB (dc (cQ 1 1) (d1 (cQ 1 1)))) (d1 cRt) (Jd)
theorem qGv:Ok1 Tryz.prog tb qi.sound 65 qBM:=qh qx qg5 (by kernel_rfl) fun a y hg h=>⟨0,9,0,(qEF 0 a.1 a.2.1 a.2.2).trans (qDa a y hg h)⟩
noncomputable def Qh:qy:=qM [(65,qBM)] qiL
theorem QB:qn Tryz.prog tb qi.sound Qh:=qm qg5 (qe qGv qw)
end Su
end
section
namespace Su
open Go Go.Proofs Fly
set_option maxRecDepth 100000
theorem qzA (fu:Nat)  (a:(Bool×((List Int)×(List Int)))):qu tb Qh (shN tb Qh fu 9) fu 66 ((d1 cRt).enc (a)) ((d1 cRt)).dec=RLow a:=by kernel_rfl
noncomputable def qu5:PrimD:=prim (d1 cRt) (d1 cRt) (Jt)
theorem qEG:Ok1 Tryz.prog tb qi.sound 66 qu5:=qh qx QB (by kernel_rfl) fun a y hg h=>⟨0,9,0,(qzA 0 a).trans (qxT a y hg h)⟩
theorem qzB (fu:Nat)  (x:Int):qu tb Qh (shN tb Qh fu 9) fu 26 ((d1 (cI .i64)).enc (x)) ((d1 cRt)).dec=qDb x:=by kernel_rfl
noncomputable def qu6:PrimD:=prim (d1 (cI .i64)) (d1 cRt) (qsD)
theorem qEH:Ok1 Tryz.prog tb qi.sound 26 qu6:=qh qx QB (by kernel_rfl) fun a y hg h=>⟨0,9,0,(qzB 0 a).trans (qxV a y hg h)⟩
theorem qu7 (fu:Nat)  (neg:Bool) (m:Int) (e:Int):qu tb Qh (shN tb Qh fu 9) fu 63 ((dc cB (dc (cI .u64) (d1 (cI .i64)))).enc (neg,m,e)) ((dc cRt (d1 (cI .i64)))).dec=qkq neg m e:=by kernel_rfl
noncomputable def qoH:PrimD:=prim (dc cB (dc (cI .u64) (d1 (cI .i64)))) (dc cRt (d1 (cI .i64))) (ZI)
theorem qzC:Ok1 Tryz.prog tb qi.sound 63 qoH:=qh qx QB (by kernel_rfl) fun a y hg h=>⟨0,9,0,(qu7 0 a.1 a.2.1 a.2.2).trans (qsG a y hg h)⟩
theorem qu8 (fu:Nat)  (a:(Bool×((List Int)×(List Int)))):qu tb Qh (shN tb Qh fu 9) fu 48 ((d1 cRt).enc (a)) ((d1 cRt)).dec=qBc a:=by kernel_rfl
noncomputable def qoI:PrimD:=prim (d1 cRt) (d1 cRt) (qbA)
theorem qzD:Ok1 Tryz.prog tb qi.sound 48 qoI:=qh qx QB (by kernel_rfl) fun a y hg h=>⟨0,9,0,(qu8 0 a).trans (qsC a y hg h)⟩
theorem qzE (fu:Nat)  (a:(Bool×((List Int)×(List Int)))):qu tb Qh (shN tb Qh fu 9) fu 17 ((d1 cRt).enc (a)) ((d1 cRt)).dec=RAbs a:=by kernel_rfl
noncomputable def qu9:PrimD:=prim (d1 cRt) (d1 cRt) (qaB)
theorem qEI:Ok1 Tryz.prog tb qi.sound 17 qu9:=qh qx QB (by kernel_rfl) fun a y hg h=>⟨0,9,0,(qzE 0 a).trans (qxU a y hg h)⟩
noncomputable def Zi:qy:=qM [(66,qu5),(26,qu6),(63,qoH),(48,qoI),(17,qu9)] Qh
theorem ZS:qn Tryz.prog tb qi.sound Zi:=qm QB (qe qEG (qe qEH (qe qzC (qe qzD (qe qEI qw)))))
end Su
end
section
namespace Su
open Go Go.Proofs Fly
set_option maxRecDepth 100000
theorem qzF (fu:Nat)  (a:(Bool×((List Int)×(List Int)))) (b:(Bool×((List Int)×(List Int)))):qu tb Zi (shN tb Zi fu 9) fu 46 ((dc cRt (d1 cRt)).enc (a,b)) ((d1 cRt)).dec=qDd a b:=by kernel_rfl
noncomputable def qva:PrimD:=prim (dc cRt (d1 cRt)) (d1 cRt) (qsH)
theorem qEJ:Ok1 Tryz.prog tb qi.sound 46 qva:=qh qx ZS (by kernel_rfl) fun a y hg h=>⟨0,9,0,(qzF 0 a.1 a.2).trans (qxX a y hg h)⟩
theorem qzG (fu:Nat)  (a:(Bool×((List Int)×(List Int)))) (b:(Bool×((List Int)×(List Int)))):qu tb Zi (shN tb Zi fu 9) fu 43 ((dc cRt (d1 cRt)).enc (a,b)) ((d1 cRt)).dec=qDe a b:=by kernel_rfl
noncomputable def qvb:PrimD:=prim (dc cRt (d1 cRt)) (d1 cRt) (Y0)
theorem qEK:Ok1 Tryz.prog tb qi.sound 43 qvb:=qh qx ZS (by kernel_rfl) fun a y hg h=>⟨0,9,0,(qzG 0 a.1 a.2).trans (qxZ a y hg h)⟩
theorem qzH (fu:Nat)  (a:(Bool×((List Int)×(List Int)))) (b:(Bool×((List Int)×(List Int)))):qu tb Zi (shN tb Zi fu 9) fu 18 ((dc cRt (d1 cRt)).enc (a,b)) ((d1 (cI .i64))).dec=qDf a b:=by kernel_rfl
noncomputable def qvc:PrimD:=prim (dc cRt (d1 cRt)) (d1 (cI .i64)) (qaD)
theorem qEL:Ok1 Tryz.prog tb qi.sound 18 qvc:=qh qx ZS (by kernel_rfl) fun a y hg h=>⟨0,9,0,(qzH 0 a.1 a.2).trans (qx0 a y hg h)⟩
noncomputable def qcV:qy:=qM [(46,qva),(43,qvb),(18,qvc)] Zi
theorem qcW:qn Tryz.prog tb qi.sound qcV:=qm ZS (qe qEJ (qe qEK (qe qEL qw)))
end Su
end
section
namespace Su
open Go Go.Proofs Fly
set_option maxRecDepth 100000
theorem qzI (fu:Nat)  (a:(Bool×((List Int)×(List Int)))) (b:(Bool×((List Int)×(List Int)))):qu tb qcV (shN tb qcV fu 9) fu 16 ((dc cRt (d1 cRt)).enc (a,b)) ((d1 cRt)).dec=qDh a b:=by kernel_rfl
noncomputable def qvd:PrimD:=prim (dc cRt (d1 cRt)) (d1 cRt) (qaE)
theorem qEM:Ok1 Tryz.prog tb qi.sound 16 qvd:=qh qx qcW (by kernel_rfl) fun a y hg h=>⟨0,9,0,(qzI 0 a.1 a.2).trans (qx1 a y hg h)⟩
theorem qzJ (fu:Nat)  (f:Int):qu tb qcV (shN tb qcV fu 9) fu 14 ((d1 (cI .u64)).enc (f)) ((dc cRt (d1 cB))).dec=qDi f:=by kernel_rfl
noncomputable def qve:PrimD:=prim (d1 (cI .u64)) (dc cRt (d1 cB)) (Q0)
theorem qvf:Ok1 Tryz.prog tb qi.sound 14 qve:=qh qx qcW (by kernel_rfl) fun a y hg h=>⟨0,9,0,(qzJ 0 a).trans (qx2 a y hg h)⟩
noncomputable def qcX:qy:=qM [(16,qvd),(14,qve)] qcV
theorem qcY:qn Tryz.prog tb qi.sound qcX:=qm qcW (qe qEM (qe qvf qw))
end Su
end
section
namespace Su
open Go Go.Proofs Fly
set_option maxRecDepth 100000
theorem qqm (fu:Nat)  (f:Int):qu tb qcX (shN tb qcX fu 9) fu 144 ((d1 (cI .u64)).enc (f)) ((dc cB (dc (cI .i64) (d1 (cI .u64))))).dec=qmb f:=by kernel_rfl
noncomputable def qk4:PrimD:=prim (d1 (cI .u64)) (dc cB (dc (cI .i64) (d1 (cI .u64)))) (qkt)
theorem qvg:Ok1 Tryz.prog tb qi.sound 144 qk4:=qh qx qcY (by kernel_rfl) fun a y hg h=>⟨0,9,0,(qqm 0 a).trans (qpN a y hg h)⟩
theorem qqn (fu:Nat)  (f:Int):qu tb qcX (shN tb qcX fu 9) fu 64 ((d1 (cI .u64)).enc (f)) ((d1 (cI .u8))).dec=qmc f:=by kernel_rfl
noncomputable def qk5:PrimD:=prim (d1 (cI .u64)) (d1 (cI .u8)) (qku)
theorem qvh:Ok1 Tryz.prog tb qi.sound 64 qk5:=qh qx qcY (by kernel_rfl) fun a y hg h=>⟨0,9,0,(qqn 0 a).trans (qpO a y hg h)⟩
noncomputable def Zj:qy:=qM [(144,qk4),(64,qk5)] qcX
theorem ZT:qn Tryz.prog tb qi.sound Zj:=qm qcY (qe qvg (qe qvh qw))
end Su
end
section
namespace Su
open Go Go.Proofs Fly
set_option maxRecDepth 100000
theorem qvi (fu:Nat)  (e:Int):qu tb Zj (shN tb Zj fu 9) fu 31 ((d1 (cI .u64)).enc (e)) ((d1 (cI .u64))).dec=qsN e:=by kernel_rfl
noncomputable def qoJ:PrimD:=prim (d1 (cI .u64)) (d1 (cI .u64)) (qnH)
theorem qzK:Ok1 Tryz.prog tb qi.sound 31 qoJ:=qh qx ZT (by kernel_rfl) fun a y hg h=>⟨0,9,0,(qvi 0 a).trans (qsP a y hg h)⟩
theorem qmI (fu:Nat)  (e:Int):qu tb Zj (shN tb Zj fu 9) fu 15 ((d1 (cI .u64)).enc (e)) ((d1 (cI .u64))).dec=qij e:=by kernel_rfl
noncomputable def qg6:PrimD:=prim (d1 (cI .u64)) (d1 (cI .u64)) (qgE)
theorem qqo:Ok1 Tryz.prog tb qi.sound 15 qg6:=qh qx ZT (by kernel_rfl) fun a y hg h=>⟨0,9,0,(qmI 0 a).trans (qmd a y hg h)⟩
theorem qzL (fu:Nat)  (f:Int):qu tb Zj (shN tb Zj fu 9) fu 27 ((d1 (cI .u64)).enc (f)) ((d1 cB)).dec=qDk f:=by kernel_rfl
noncomputable def qvj:PrimD:=prim (d1 (cI .u64)) (d1 cB) (qsO)
theorem qEN:Ok1 Tryz.prog tb qi.sound 27 qvj:=qh qx ZT (by kernel_rfl) fun a y hg h=>⟨0,9,0,(qzL 0 a).trans (qx3 a y hg h)⟩
noncomputable def qaO:qy:=qM [(31,qoJ),(15,qg6),(27,qvj)] Zj
theorem ZU:qn Tryz.prog tb qi.sound qaO:=qm ZT (qe qzK (qe qqo (qe qEN qw)))
end Su
end
section
namespace Su
open Go Go.Proofs Fly
set_option maxRecDepth 100000
theorem qzM (fu:Nat) (l:(List Int)):qu tb qaO (shN tb qaO fu 9) fu 127 ((d1 (cQ 2 1)).enc (l)) ((d1 (cI .u64))).dec=qDl fu l:=by kernel_rfl
noncomputable def qvk:PrimD:=prim (d1 (cQ 2 1)) (d1 (cI .u64)) (qsQ)
theorem qEO:Ok1 Tryz.prog tb qi.sound 127 qvk:=qh qx ZU (by kernel_rfl) fun a y hg h=>by
 obtain ⟨n,hn⟩:=qx4 a y hg h
 exact ⟨n,9,n,(qzM n a).trans hn⟩
theorem qzN (fu:Nat) (l:(List Int)):qu tb qaO (shN tb qaO fu 9) fu 162 ((d1 (cQ 2 1)).enc (l)) ((d1 (cI .u64))).dec=qDm fu l:=by kernel_rfl
noncomputable def qvl:PrimD:=prim (d1 (cQ 2 1)) (d1 (cI .u64)) (qsR)
theorem qEP:Ok1 Tryz.prog tb qi.sound 162 qvl:=qh qx ZU (by kernel_rfl) fun a y hg h=>by
 obtain ⟨n,hn⟩:=qx5 a y hg h
 exact ⟨n,9,n,(qzN n a).trans hn⟩
noncomputable def qcZ:qy:=qM [(127,qvk),(162,qvl)] qaO
theorem qc0:qn Tryz.prog tb qi.sound qcZ:=qm ZU (qe qEO (qe qEP qw))
end Su
end
section
namespace Su
open Go Go.Proofs Fly
set_option maxRecDepth 100000
theorem qzO (fu:Nat)  (f:Int):qu tb qcZ (shN tb qcZ fu 9) fu 107 ((d1 (cI .u64)).enc (f)) ((d1 cB)).dec=qDn f:=by kernel_rfl
noncomputable def qvm:PrimD:=prim (d1 (cI .u64)) (d1 cB) (qsT)
theorem qEQ:Ok1 Tryz.prog tb qi.sound 107 qvm:=qh qx qc0 (by kernel_rfl) fun a y hg h=>⟨0,9,0,(qzO 0 a).trans (qx6 a y hg h)⟩
theorem qvn (fu:Nat)  (f:Int):qu tb qcZ (shN tb qcZ fu 9) fu 106 ((d1 (cI .u64)).enc (f)) ((d1 cB)).dec=qsS f:=by kernel_rfl
noncomputable def qoK:PrimD:=prim (d1 (cI .u64)) (d1 cB) (qnK)
theorem qzP:Ok1 Tryz.prog tb qi.sound 106 qoK:=qh qx qc0 (by kernel_rfl) fun a y hg h=>⟨0,9,0,(qvn 0 a).trans (qsU a y hg h)⟩
noncomputable def y5:qy:=qM [(107,qvm),(106,qoK)] qcZ
theorem Q6:qn Tryz.prog tb qi.sound y5:=qm qc0 (qe qEQ (qe qzP qw))
end Su
end
