/-
  The law and its row.
-/
import Derived.Test.YtfckjjffdfkelaaGreatHSh1
import Derived.Test.YtfckjjffdfkelaaGreatNB05
import Derived.Test.YtfckjjffdfkelaaGreatNB09
import Derived.Test.YtfckjjffdfkelaaGreatSuTb
import Derived.Test.YtfckjjffdfkelaaGreatNB10
set_option maxRecDepth 10000
section
namespace Go.Proofs.Sho
open Go Go.RowKit Go.Shelf Go.Proofs Fly Su
attribute [local go_sem] Oper.semAt_some
abbrev HX (V:qc) (w:World) (V':qc) (W:World):Prop:=Holds ⟨fun _=>False,w,V,fun _ _ _=>False⟩ V' [] W
theorem HX.trans {V V1 V2:qc} {w W W2:World} {G:Fly.Own} (h:HX V w V1 W) (k:Holds ⟨fun _=>False,W,V1,fun _ _ _=>False⟩ V2 G W2):HX V w V2 W2 :=
 ⟨h.ext.trans k.ext,k.view,(fun _ hp=>(List.not_mem_nil hp).elim),(fun _ hp=>(List.not_mem_nil hp).elim),.nil,h.sub.trans k.sub,fun r h1 h2=>by
   by_cases h3:V1 r=none
   · rcases k.newer r h3 h2 with h4 | h4
     · exact .inl (Nat.le_trans h.ext.size h4)
     · exact h4.elim
   · exact h.newer r h1 h3⟩
theorem HX.drew {V V1:qc} {w W:World} (h:HX V w V1 W):HX V w V1 W.drew :=
 ⟨⟨h.ext.os,h.ext.tape,h.ext.output,h.ext.size,h.ext.block⟩,h.view,(fun _ hp=>(List.not_mem_nil hp).elim),(fun _ hp=>(List.not_mem_nil hp).elim),.nil,h.sub,h.newer⟩
theorem HX.add {V:qc} {w W:World} {B:Nat} {o:Obj} (hs:qeI V w) (hb:Below w.heap.size w W) (hB:w.heap.size≤B) (ho:W.heap[B]?=some o):HX V w (addV V B o) W:=by
 have hlt:∀ r o,V r=some o→r<w.heap.size:=fun r o h=>(Array.getElem?_eq_some_iff.1 (hs r o h)).1
 have hn:V B=none:=by
  cases h:V B with
  | none=>rfl
  | some o=>have:=hlt _ _ h;omega
 refine ⟨⟨hb.os,hb.tape,hb.output,hb.size,fun k hk _=>hb.block k hk⟩,fun r u hr=>?_,(fun _ hp=>(List.not_mem_nil hp).elim),(fun _ hp=>(List.not_mem_nil hp).elim),.nil,Fly.Sub.addV hn,fun r h1 h2=>?_⟩
 · unfold addV at hr
   by_cases e:r=B
   · rw [if_pos e] at hr;subst e;rw [ho];exact hr
   · rw [if_neg e] at hr;exact (hb.block r (hlt _ _ hr)).trans (hs r u hr)
 · unfold addV at h2
   by_cases e:r=B
   · exact .inl (by show w.heap.size≤r;omega)
   · rw [if_neg e] at h2;exact absurd h1 h2
theorem gok4 {V:qc}:GOK Su.tb V:=fun _ _ h=>by cases h
theorem qAJ (r:Nat) (h:r<18446744073709551616):New (r:Int)=some (ofN r):=by
 have e1:IntKind.u32.wrap (r:Int)=((r % 4294967296:Nat):Int):=by rw [Su.wrap_u32];omega
 have e2:Int.fdiv (r:Int) (2^32)=((r / 4294967296:Nat):Int):=by
  have:=qaV r 32;rwa [show (2:Nat)^32=4294967296 from rfl] at this
 have e3:IntKind.u32.wrap ((r / 4294967296:Nat):Int)=((r / 4294967296:Nat):Int):=Su.qmQ (by omega) (by omega)
 unfold New
 rw [e1,e2,e3]
 simp only [qa,Int.toNat_natCast]
 congr 2;omega
theorem qnr {V:qc} {W:World} {v:Value} {a:List Int} (hs:qeI V W) (hr:Rep V (.ql 1 1 a) v):Calls Tryz.prog 148 #[v] W fun e W'=>∃ v' V',e = .returned v'∧HX V W V' W'∧Rep V' (.ql 1 1 (ofN (qa a))) v':=by
 have h:∀ xs y,((d1 (cQ 1 1)).dec xs).bind qiU=some y→∀ V vs,GOK Su.tb V→RepA V xs vs→yp Tryz.prog 148 vs.toArray V [] fun v V' _=>∃ rvs,RepA V' ((d1 (cQ 1 1)).enc y) rvs∧v=JZ rvs:=qv1.2.1
 have h2:((d1 (cQ 1 1)).dec [T.ql 1 1 a]).bind qiU=some (ofN (qa a)):=by
  rw [show (d1 (cQ 1 1)).dec [T.ql 1 1 a]=some a from (d1 (cQ 1 1)).de a];rfl
 refine (h _ _ h2 V [v] gok4 (.cons hr .nil) W hs (fun _ hp=>(List.not_mem_nil hp).elim) (fun _ hp=>(List.not_mem_nil hp).elim) .nil).mono ?_
 rintro e W' ⟨v',V',G',rfl,hh,rvs,m1,rfl⟩
 cases m1 with | cons k1 k2=>cases k2 with | nil =>
 exact ⟨_,V',rfl,⟨⟨hh.ext.os,hh.ext.tape,hh.ext.output,hh.ext.size,fun k hk _=>hh.ext.block k hk (by simp [keys])⟩,hh.view,(fun _ hp=>(List.not_mem_nil hp).elim),(fun _ hp=>(List.not_mem_nil hp).elim),.nil,hh.sub,fun r h1 h2=>(hh.newer r h1 h2).imp id (fun hm=>by simp [keys] at hm)⟩,k1⟩
theorem qrp {V:qc} {W:World} {r:Nat} (hl:r<18446744073709551616) (hs:qeI V W):Calls Tryz.prog 78 #[.int .u64 (r:Int)] W fun e W'=>∃ v' V',e = .returned v'∧HX V W V' W'∧Rep V' (.ql 1 1 (ofN r)) v':=by
 have h:∀ xs y,((d1 (cI .u64)).dec xs).bind (fun a=>New a)=some y→∀ V vs,GOK Su.tb V→RepA V xs vs→yp Tryz.prog 78 vs.toArray V [] fun v V' _=>∃ rvs,RepA V' ((d1 (cQ 1 1)).enc y) rvs∧v=JZ rvs:=qC3.2.1
 have h2:((d1 (cI .u64)).dec [T.s (.int .u64 (r:Int))]).bind (fun a=>New a)=some (ofN r):=by
  rw [show (d1 (cI .u64)).dec [T.s (.int .u64 (r:Int))]=some (r:Int) from (d1 (cI .u64)).de (r:Int)]
  exact qAJ r hl
 refine (h _ _ h2 V [.int .u64 (r:Int)] gok4 (.cons (.s (by show inR .u64 (r:Int)=true;exact Qa.2 ⟨by omega,by omega⟩)) .nil) W hs (fun _ hp=>(List.not_mem_nil hp).elim) (fun _ hp=>(List.not_mem_nil hp).elim) .nil).mono ?_
 rintro e W' ⟨v',V',G',rfl,hh,rvs,m1,rfl⟩
 cases m1 with | cons k1 k2=>cases k2 with | nil =>
 exact ⟨_,V',rfl,⟨⟨hh.ext.os,hh.ext.tape,hh.ext.output,hh.ext.size,fun k hk _=>hh.ext.block k hk (by simp [keys])⟩,hh.view,(fun _ hp=>(List.not_mem_nil hp).elim),(fun _ hp=>(List.not_mem_nil hp).elim),.nil,hh.sub,fun r h1 h2=>(hh.newer r h1 h2).imp id (fun hm=>by simp [keys] at hm)⟩,k1⟩
def wI (qs:List Nat):List Int:=qs.map fun z=>((z:Nat):Int)
theorem qhJ (qs:List Nat):(wI qs).length=qs.length:=List.length_map ..
theorem qFZ (qs:List Nat):(List.map (α:=U 1) (view 1) (wI qs)).length=qs.length:=(List.length_map (α:=U 1) ..).trans (qhJ qs)
theorem qcp:∀ qs:List Nat,(List.map (α:=U 1) (view 1) (wI qs)).flatMap T.cells=qs.map fun z=>T.s (vW z)
 | []=>rfl
 | x::l=>by
  show T.s (vW x)::(List.map (α:=U 1) (view 1) (wI l)).flatMap T.cells=_
  rw [qcp l];rfl
theorem qv5:∀ (qs:List Nat) (x:T),x∈List.map (α:=U 1) (view 1) (wI qs)→x.cells.length=1
 | [],x,h=>by cases h
 | y::l,x,h=>by
  rcases List.mem_cons.1 (show x∈view 1 ((y:Nat):Int)::List.map (α:=U 1) (view 1) (wI l) from h) with rfl | h
  · rfl
  · exact qv5 l x h
theorem qrq {V:qc} {B off:Nat} {qs:List Nat} {len cap:Nat} (h:∀ (j:Nat) (c:Value),(qs.map vW)[j]?=some c→rd V B (off+j) c) (hqw:∀ z∈qs,z<4294967296) (hql:qs.length=len) (hlen:len≤cap) (hcap:cap≤maxLen) :
 Rep V (.ql 1 1 (wI qs)) (.slice (some ⟨B,off,none⟩) len cap):=by
 have hw:∀ l:List Nat,(∀ z∈l,z<4294967296)→RepA V (l.map fun z=>T.s (vW z)) (l.map vW):=by
  intro l
  induction l with
  | nil=>exact fun _=>.nil
  | cons x l ih =>
   intro hx
   have hx0:=hx x (List.mem_cons_self ..)
   exact .cons (.s (show inR .u32 (x:Int)=true from qel.2 ⟨by omega,by omega⟩)) (ih fun z hz=>hx z (List.mem_cons_of_mem _ hz))
 have hl:=qFZ qs
 have h2:=Rep.sl (V:=V) (k:=1) (l:=List.map (α:=U 1) (view 1) (wI qs)) (vs:=qs.map vW) (a:=some ⟨B,off,none⟩) (cap:=cap) (by rw [qcp];exact hw qs hqw)
  (by rw [qcp];intro x hx;obtain ⟨z,_,rfl⟩:=List.mem_map.1 hx;rfl) (qv5 qs) (by omega) hcap (.inr ⟨B,off,rfl,h⟩)
 rw [hl,hql] at h2
 exact .ql h2
set_option maxRecDepth 100000 in
set_option maxHeartbeats 4000000 in
theorem qAK {V:qc} {w W:World} {B D b len cap rr:Nat} {sa:Option Addr} {qs:List Nat} {Q:Ending→World→Prop} {Kc:Act→World→Prop} (hs:qeI V w) (hB:Below w.heap.size w W) (hBw:w.heap.size≤B) (hDB:B+5≤D)
 (g1:W.heap[B+1]?=some (Obj.cells (qs.map vW).toArray 175 (0,0))) (hql:qs.length=len) (hqw:∀ z∈qs,z<4294967296) (hlen:len≤549755813888) (g2:W.heap[B+2]?=some (Obj.cells #[.slice (some ⟨B+1,0,none⟩) len len] 38 (0,0)))
 (g3:W.heap[B+3]?=some (Obj.cells #[.int .u64 (rr:Int)] 44 (0,0))) (hrr:rr<18446744073709551616) (hD:W.heap[D]?=some (.deferred (some [])))
 (hK:∀ a w',Code.wpIn Fence.wide 3 Tryz.prog Code.ret (bodyPostM Fence.wide 3 Tryz.prog Tryz.f191 Q) a w'→Kc a w')
 (hQ:∀ v1 v2 V1 V2 W2,HX V w V1 W2→Rep V1 (.ql 1 1 (ofN (qa (wI qs)))) v1→Rep V1 (.ql 1 1 (ofN rr)) v2→W2.heap[D]?=some (.deferred (some []))→V2=V1→Q (.returned (.tuple #[v1,v2])) (W2.putObj D (.deferred none))) :
 Code.wpIn Fence.wide 3 Tryz.prog qvL (Exit.then Kc (bodyPostM Fence.wide 3 Tryz.prog Tryz.f191 Q)) (qFK B D b sa len cap) W:=by
 have hx0:HX V w (addV V (B+1) (Obj.cells (qs.map vW).toArray 175 (0,0))) W:=HX.add hs hB (by omega) g1
 have hrep:Rep (addV V (B+1) (Obj.cells (qs.map vW).toArray 175 (0,0))) (.ql 1 1 (wI qs)) (.slice (some ⟨B+1,0,none⟩) len len):=qrq (fun j c hj=>⟨_,_,_,by unfold addV;rw [if_pos rfl],by rw [List.getElem?_toArray,Nat.zero_add];exact hj⟩) hqw hql (Nat.le_refl _) (by simp [maxLen];omega)
 obtain ⟨V0,hV0⟩:∃ V0,addV V (B+1) (Obj.cells (qs.map vW).toArray 175 (0,0))=V0:=⟨_,rfl⟩
 rw [hV0] at hx0 hrep
 have c2:=ZB g2 (i:=0) rfl
 have c3:=ZB g3 (i:=0) rfl
 unfold qvL qFK
 have hmx:Tryz.prog.follows .mixedOrders=true:=by kernel_rfl
 refine Code.wpIn_mono (Q:=Exit.then Kc (fun _ _ _=>False)) (fun e a w h=>by cases e <;> first | exact h | exact h.elim) ?_
 gi_region_with_o (first
  | (refine ⟨trivial,?_⟩;gi_at_call 148;refine (callsIn_wide.2 (qnr (V:=V0) (W:=W.drew) hx0.view hrep)).mono ?_;rintro e w1 ⟨v1,V1,rfl,hx1,hr1⟩;have c3':=(hx1.ext.below.cell (p:=⟨B+3,0,none⟩) (Array.getElem?_eq_some_iff.1 g3).1).trans c3)
  | (refine ⟨trivial,?_⟩;gi_at_call 78;refine (callsIn_wide.2 (qrp (V:=V1) (W:=w1) hrr hx1.view)).mono ?_;rintro e w2 ⟨v2,V2,rfl,hx2,hr2⟩))
 all_goals (
  refine hK _ _ ?_
  have hD1:w1.heap[D]?=some (.deferred (some [])):=(hx1.ext.block D (Array.getElem?_eq_some_iff.1 hD).1 (fun h=>h)).trans hD
  have hD2:w2.heap[D]?=some (.deferred (some [])):=(hx2.ext.block D (Array.getElem?_eq_some_iff.1 hD1).1 (fun h=>h)).trans hD1
  gi_wp2
  refine ⟨by simp,.inl ⟨_,_,rfl,run_takeDeferred hD2,?_⟩⟩
  refine ⟨_,results_tmp2 (t:=4) (u:=5) rfl _ _ _,hQ v1 v2 V2 V2 w2 ((hx0.drew.trans hx1).trans hx2) (Rep.mono hx2.sub hr1) hr2 hD2 rfl⟩)
theorem qH1 {b:Nat} {len:Nat} (pre:List (Wo len)):∀ z∈(sf b pre).2,z<4294967296:=by
 have:∀ (l:List (Wo len)) (s:Nat×List Nat),(∀ z∈s.2,z<4294967296)→∀ z∈(l.foldl (stp b) s).2,z<4294967296:=by
  intro l
  induction l with
  | nil=>exact fun s h=>h
  | cons x l ih =>
   refine fun s h=>ih _ fun z hz=>?_
   rcases List.mem_or_eq_of_mem_set hz with hz | rfl
   · exact h z hz
   · exact Nat.mod_lt _ (by omega)
 exact this pre _ fun z hz=>by rw [(List.mem_replicate.1 hz).2];omega
theorem qF0 (qs:List Nat) (j:Nat):nth (wI qs) j=((qs[j]?.getD 0:Nat):Int):=by
 unfold nth
 have:(wI qs)[j]?=(qs[j]?).map fun z=>((z:Nat):Int):=List.getElem?_map ..
 rw [this]
 cases qs[j]? <;> rfl
theorem qF1 (qs:List Nat) (j y:Nat):wI (qs.set j y)=List.set (wI qs) j ((y:Nat):Int):=List.map_set ..
theorem qAL (zs:List Nat) (m:Nat) (h:m<zs.length):qa (wI (zs.drop m))=zs[m]?.getD 0+4294967296*qa (wI (zs.drop (m+1))):=by
 rw [List.drop_eq_getElem_cons h,List.getElem?_eq_getElem h]
 show qa (((zs[m]:Nat):Int)::wI (zs.drop (m+1)))=_
 rw [qa,Int.toNat_natCast];rfl
theorem qpC {zs:List Nat} (hz:∀ z∈zs,z<4294967296) (h0:0<zs.length) {b:Nat} (hb:0<b):∀ k,k≤zs.length →
 (sf b (back hz h0 k)).1=qa (wI (zs.drop (zs.length-k))) % b∧qa (wI (sf b (back hz h0 k)).2)=qa (wI (zs.drop (zs.length-k))) / b*4294967296^(zs.length-k)∧∀ j,j<zs.length-k→(sf b (back hz h0 k)).2[j]?.getD 0=0
 | 0,_=>by
  have e:sf b (back hz h0 0)=(0,List.replicate zs.length 0):=rfl
  have ev:qa (wI ([]:List Nat))=0:=rfl
  have ez:wI (List.replicate zs.length 0)=List.replicate zs.length 0:=List.map_replicate ..
  rw [e,Nat.sub_zero,List.drop_length,ev]
  refine ⟨(Nat.zero_mod b).symm,?_,fun j hj=>?_⟩
  · show qa (wI (List.replicate zs.length 0))=_
    rw [ez,YC,Nat.zero_div,Nat.zero_mul]
  · show (List.replicate zs.length 0)[j]?.getD 0=0
    rw [List.getElem?_replicate];split <;> rfl
 | k+1,hk=>by
  obtain ⟨i1,i2,i3⟩:=qpC hz h0 hb k (by omega)
  obtain ⟨m,hm⟩:∃ m,m=zs.length-1-k:=⟨_,rfl⟩
  have e1:zs.length-k=m+1:=by omega
  have e2:zs.length-(k+1)=m:=by omega
  rw [e1] at i1 i2 i3
  rw [e2,qhC,qjr]
  have hml:m<zs.length:=by omega
  have hq:=i3 m (by omega)
  have hlen:=qnq b (back hz h0 k)
  have hlt:=qvK hb (back hz h0 k)
  generalize sf b (back hz h0 k)=s at *
  obtain ⟨R,Q⟩:=s
  simp only at i1 i2 i3 hq hlen hlt
  have hx:=qcn hz m
  have hA:=qAL zs m hml
  simp only [← hm]
  show (R*4294967296+zs[m]?.getD 0) % b=_∧qa (wI (Q.set m ((R*4294967296+zs[m]?.getD 0) / b % 4294967296)))=_∧∀ j,j<m→(Q.set m ((R*4294967296+zs[m]?.getD 0) / b % 4294967296))[j]?.getD 0=0
  generalize zs[m]?.getD 0=x at *
  generalize hA0:qa (wI (zs.drop (m+1)))=A at *
  rw [hA]
  have hdiv:=Nat.div_add_mod A b
  have hr1:x+4294967296*A=b*(4294967296*(A / b))+(R*4294967296+x):=by
   rw [i1]
   generalize A / b=p at *
   generalize A % b=t at *
   rw [← hdiv];grind
  have hr1b:(R*4294967296+x) / b<4294967296:=by
   rw [Nat.div_lt_iff_lt_mul hb]
   have:=Nat.mul_le_mul_right 4294967296 (show R+1≤b by omega)
   rw [Nat.mul_comm 4294967296 b];omega
  rw [hr1]
  refine ⟨?_,?_,fun j hj=>?_⟩
  · rw [Nat.mul_add_mod]
  · rw [Nat.mod_eq_of_lt hr1b,Nat.mul_add_div hb,qF1]
    have hs:=Zk (wI Q) m (((R*4294967296+x) / b:Nat):Int) (by rw [qhJ];omega)
    rw [qF0,hq,Int.toNat_natCast,i2,Nat.pow_succ] at hs
    generalize (R*4294967296+x) / b=d at *
    generalize A / b=p at *
    generalize 4294967296^m=P at *
    have hs:qa (List.set (wI Q) m (d:Int))+P*0=p*(P*4294967296)+P*d:=hs
    rw [Nat.mul_zero,Nat.add_zero] at hs
    rw [hs];grind
  · rw [List.getElem?_set_ne (by omega)];exact i3 j (by omega)
theorem qF2 {zs:List Nat} (hz:∀ z∈zs,z<4294967296) {b:Nat} (hb:0<b) {ys:List (Wo zs.length)} (h:All hz ys):(sf b ys).1=qa (wI zs) % b∧qa (wI (sf b ys).2)=qa (wI zs) / b:=by
 rcases h with ⟨rfl,h0⟩ | ⟨hl,rfl⟩
 · have:zs=[]:=List.eq_nil_of_length_eq_zero h0
   subst this
   exact ⟨(Nat.zero_mod b).symm,(Nat.zero_div b).symm⟩
 · obtain ⟨h1,h2,_⟩:=qpC hz hl hb zs.length (Nat.le_refl _)
   rw [Nat.sub_self,List.drop_zero] at h1 h2
   rw [Nat.pow_zero,Nat.mul_one] at h2
   exact ⟨h1,h2⟩
theorem qpD {V V':qc}:∀ {l:List T} {vs:List Value},(∀ x∈l,∃ v,x=T.s v)→RepA V l vs→RepA V' l vs
 | [],vs,_,h=>by cases h;exact .nil
 | x::l,vs,h,hr=>by
  cases hr with | cons h1 h2 =>
  obtain ⟨v,rfl⟩:=h x (List.mem_cons_self ..)
  cases h1 with | s h1=>exact .cons (.s h1) (qpD (fun y hy=>h y (List.mem_cons_of_mem _ hy)) h2)
theorem qlV:∀ (l:List (U 1)) (x:T),x∈(l.map (view 1)).flatMap T.cells→∃ v,x=T.s v
 | [],x,h=>by cases h
 | y::l,x,h=>by
  rcases List.mem_cons.1 (show x∈T.s (.int .u32 y)::(l.map (view 1)).flatMap T.cells from h) with rfl | h
  · exact ⟨_,rfl⟩
  · exact qlV l x h
def qhK (V:qc) (D:Nat):qc:=fun r=>if r=D then none else V r
theorem qlW {V:qc} {D:Nat} {l:List (U 1)} {v:Value} (hD:∀ arr e fr,V D≠some (.cells arr e fr)) (h:Rep V (.ql 1 1 l) v):Rep (qhK V D) (.ql 1 1 l) v:=by
 cases h with | ql h =>
 cases h with | sl a1 a2 a3 a4 a5 a6 =>
 refine .ql (.sl (qpD (qlV l) a1) a2 a3 a4 a5 (a6.imp id ?_))
 rintro ⟨b,off,e,h⟩
 refine ⟨b,off,e,fun j c hj=>?_⟩
 obtain ⟨arr,e,fr,h1,h2⟩:=h j c hj
 refine ⟨arr,e,fr,?_,h2⟩
 unfold qhK
 rw [if_neg (fun e2=>by subst e2;exact hD _ _ _ h1)]
 exact h1
theorem qAM {a:List Int} (h:Wd a):wI (a.map Int.toNat)=a:=by
 induction a with
 | nil=>rfl
 | cons x l ih =>
  have hx:=h.head
  show ((x.toNat:Nat):Int)::wI (l.map Int.toNat)=_
  rw [ih h.tail];congr 1;omega
theorem short_fing {V:qc} {a:List Int} {b:Nat} {v:Value} (ha:Wd a) (hb0:0<b) (hb1:b<4294967296) (hlen:a.length≤549755813888) (hr:Rep V (.ql 1 1 a) v) :
 yp Tryz.prog 191 #[v,.int .u32 (b:Int)] V [] fun v V' _=>∃ rvs,RepA V' [.ql 1 1 (ofN (qa a / b)),.ql 1 1 (ofN (qa a % b))] rvs∧v=JZ rvs:=by
 intro w hs _ _ _
 obtain ⟨zs,hzs⟩:∃ zs,a.map Int.toNat=zs:=⟨_,rfl⟩
 have hzl:zs.length=a.length:=by rw [← hzs,List.length_map]
 have hz:∀ z∈zs,z<4294967296:=by
  intro z hz
  rw [← hzs] at hz
  obtain ⟨x,hx,rfl⟩:=List.mem_map.1 hz
  have:=ha x hx;omega
 have hwz:wI zs=a:=by rw [← hzs];exact qAM ha
 have hW:∃ sa cap,v = .slice sa zs.length cap∧qhE w.heap.size w (.slice sa zs.length cap) zs:=by
  cases hr with | ql hr =>
  cases hr with | @sl _ _ vs ad cap a1 a2 a3 a4 a5 a6 =>
  have hl:(List.map (α:=U 1) (view 1) a).length=zs.length:=by rw [hzl];exact List.length_map ..
  refine ⟨ad,cap,by rw [hl],?_⟩
  rcases a6 with a6 | ⟨b2,off,rfl,a6⟩
  · have:zs.length=0:=by rw [← hl,a6];rfl
    exact .inl ⟨List.eq_nil_of_length_eq_zero this,ad,cap,by rw [this]⟩
  · by_cases h0:zs.length=0
    · exact .inl ⟨List.eq_nil_of_length_eq_zero h0,_,cap,by rw [h0]⟩
    have hvs:vs=zs.map vW:=by
     have e:=qcp zs
     rw [hwz] at e
     rw [e] at a1
     clear e a6 hl hzs hzl hwz h0
     induction zs generalizing vs with
     | nil=>cases a1;rfl
     | cons x l ih =>
      cases a1 with | cons k1 k2 =>
      cases k1 with | s k1 =>
      rw [List.map_cons,ih (fun z hz2=>hz z (List.mem_cons_of_mem _ hz2)) k2]
    have hrd:∀ j,j<zs.length→rd V b2 (off+j) (vW (zs[j]?.getD 0)):=fun j hj=>a6 j _ (by rw [hvs,List.getElem?_map,List.getElem?_eq_getElem hj];rfl)
    refine .inr ⟨b2,off,cap,rfl,?_,fun j hj=>?_⟩
    · obtain ⟨arr,e,fr,h1,_⟩:=hrd 0 (by omega)
      exact (Array.getElem?_eq_some_iff.1 (hs _ _ h1)).1
    · obtain ⟨arr,e,fr,h1,h2⟩:=hrd j hj
      exact ZB (hs _ _ h1) h2
 obtain ⟨sa,cap,rfl,hI⟩:=hW
 refine callsIn_wide.1 (qvN Fence.wide 3 trivial trivial trivial rfl (Nat.le_refl _) sa cap b hb0 hb1 zs hz (by omega) w hI ?_)
 intro D ys W Kc hK hD hA hInv hB hDh
 have hlt:=qvK hb0 ys
 obtain ⟨m1,m2⟩:=qF2 hz hb0 hA
 rw [hwz] at m1 m2
 refine qAK hs hB (Nat.le_refl _) hD hInv.h1 (qnq b ys) (qH1 ys) (by omega) hInv.h2 hInv.h3 (by omega) hDh hK ?_
 rintro v1 v2 V1 V2 W2 hx r1 r2 hD2 _
 rw [m2] at r1
 rw [m1] at r2
 have hnD:∀ arr e fr,V1 D≠some (.cells arr e fr):=fun arr e fr h=>by
  have:=hx.view D _ h
  rw [hD2] at this;cases this
 have hoth:∀ r,r≠D→(W2.putObj D (.deferred none)).heap[r]?=W2.heap[r]?:=fun r hr=>World.putObj_heap_other hr
 refine ⟨_,qhK V1 D,[],rfl,⟨⟨hx.ext.os,hx.ext.tape,hx.ext.output,by have:=hx.ext.size;simpa using this,fun k hk _=>(hoth k (by have:k<w.heap.size:=hk;omega)).trans (hx.ext.block k hk (fun h=>h))⟩,
  fun r o hr=>?_,(fun _ hp=>(List.not_mem_nil hp).elim),(fun _ hp=>(List.not_mem_nil hp).elim),.nil,fun r o hr=>?_,fun r h1 h2=>?_⟩,[v1,v2],.cons (qlW hnD r1) (.cons (qlW hnD r2) .nil),rfl⟩
 · unfold qhK at hr
   by_cases e:r=D
   · rw [if_pos e] at hr;cases hr
   · rw [if_neg e] at hr;exact (hoth r e).trans (hx.view r o hr)
 · have hlt2:r<w.heap.size:=(Array.getElem?_eq_some_iff.1 (hs r o hr)).1
   unfold qhK
   rw [if_neg (by omega)];exact hx.sub r o hr
 · unfold qhK at h2
   by_cases e:r=D
   · rw [if_pos e] at h2;exact absurd rfl h2
   · rw [if_neg e] at h2
     exact (hx.newer r h1 h2).imp id False.elim
end Go.Proofs.Sho
end
section
namespace Fly
open Go Go.Proofs Su
set_option maxRecDepth 10000
noncomputable def tbN:Tabs Tryz.prog:=Su.qh.sound.tb
section
variable {P:Program} {n:Nat} {X:Cx} {L:Lo} {V:qc} {G:Own} {Q:Value→qc→Own→Prop}
variable {ty:TypeId} {pos:String} {af:Array Edge} {gd:Option (Nat×Bool)} {ds:Option Tmp}
theorem qjw {t e:TypeId} {a:Option Addr} {len cap:Nat} (hu:P.underlying t=some (.slice e)) (w:World):(Op.equal t (.slice a len cap) (.slice none 0 0)).run P w = .ok a.isNone w:=by
 show (Op.equalIn (9999+1) t (.slice a len cap) (.slice none 0 0)).run P w=_
 unfold Op.equalIn
 rw [Sem.run_bind,Fly.run_underlying hu]
 cases a <;> rfl
theorem qga {t u e:TypeId} {x y:Operand} {a:Option Addr} {len cap:Nat} (hx:ev L x=some (.slice a len cap)) (hy:ev L y=some (.slice none 0 0)) (hu:P.underlying t=some (.slice e)) (k:Q (.bool a.isNone) V G) :
 Opr P n X L V G ⟨ds,.binOp .eql t x y u,ty,pos,af,gd⟩ Q:=qmh hx hy rfl (fun w=>by simp [eqGuard]) (qjw hu) k
end
attribute [local irreducible] WC WE WR Opr St Go.Calls qxP qDu qj7 Rel yp qHe qDv Owe One qmc Go.CallsD
theorem qF3 {V:qc} {len cap:Nat} {Q:Value→qc→Own→Prop} (hQ:Q (.slice none 0 0) V []):yp Tryz.prog 190 #[.slice none len cap] V [] Q:=by
 refine QX (args:=[_]) Tryz.func190 rfl Tryz.ntmps190 rfl ?_
 intro X w hM hb hw hV0 hR;dsimp only [qan,Nat.zero_add,Nat.reduceAdd]
 (repeat' (first | refine qcr ?_ | refine QJ ?_ | refine qcu ?_ | refine ZL ?_ | refine JR ?_ | refine ZI ?_ | refine qct ?_ | refine ZJ ?_ | refine jX ?_ | refine jG ?_ | refine yM rfl ?_ | refine ye ?_ | refine qcs ?_ | ((first | refine qaB rfl ?_ | refine qbf ?_ | refine qj1 rfl rfl rfl ?_);(first | (refine qga (e:=175) rfl rfl (by kernel_rfl) ?_) | refine ZM rfl ?_ | refine QK rfl ?_ | refine qcx rfl rfl ?_ | refine qcy rfl rfl ?_ | refine qcz rfl rfl ?_ | refine qcA rfl rfl ?_ | refine qcB rfl rfl ?_ | refine qcC rfl rfl ?_ | refine yN rfl rfl ?_ | refine qcF rfl ?_ | refine QM rfl rfl ?_ | refine QN rfl rfl ?_ | refine qbg rfl rfl (by omega) (by omega) ?_ | refine qbh rfl rfl (by omega) (by omega) ?_ | refine qbi rfl rfl (by omega) (by omega) ?_ | refine qaC rfl rfl ?_ | refine qaD rfl rfl ?_ | refine qaE rfl rfl ?_ | refine jo tbN rfl rfl ?_ | refine yP tbN rfl rfl rfl ?_ | refine qcv rfl rfl ?_ | refine qgq rfl rfl ?_ | refine qcw rfl rfl ?_ | refine QL rfl rfl ?_ | refine qcD rfl rfl (by decide) ?_ | refine qcE rfl rfl (by decide) ?_ | refine qcP rfl rfl ?_ | refine ZS rfl rfl ?_ | refine qbp rfl rfl (by kernel_rfl) ?_ | refine Y5 rfl rfl (by kernel_rfl) ?_ | refine yO tbN rfl rfl rfl ?_ | refine qcG rfl ?_ | refine QU tbN rfl rfl rfl ?_ | (apply YX tbN rfl rfl;(· (first | (refine At.own (?_);repeat (first | exact Has.here | refine Has.there ?_)) | exact At.seen (by assumption)));(· exact rfl)) | (apply JS tbN rfl rfl;(· (first | (refine At.own (?_);repeat (first | exact Has.here | refine Has.there ?_)) | exact At.seen (by assumption)));(· exact rfl)) | (apply JT tbN rfl rfl rfl rfl rfl;(· (repeat (first | exact Upd.here | apply Upd.there)));(· exact rfl)) | (apply JU tbN rfl rfl rfl rfl rfl;(· (repeat (first | exact Upd.here | apply Upd.there)));(· exact rfl)) | (apply QW tbN (by kernel_rfl) rfl (rfl:tbN.fo _ 0=_);(· (repeat (first | exact Fill.nil | (apply Fill.cons;(· exact rfl);(· exact rfl);(· exact rfl);(· exact rfl);(· exact rfl)))))) | (refine y9 rfl ?_;intro b) | (refine Yp rfl rfl ?_;intro b) | (refine QV tbN rfl ?_;intro b) | (apply jv tbN;(· exact rfl);(· exact rfl);(· exact rfl);(· decide);(· (repeat (first | exact Cat.nil | (apply Cat.cons;(· exact rfl);(· exact rfl);(· exact rfl)) | exact App.nil | apply App.cons)));intro b))) | refine qrN rfl rfl rfl rfl ?_ | refine QH rfl ?_ | refine QI rfl ?_ | refine qj2 rfl (fun _=>?_) (fun _=>?_) | refine qeJ rfl (fun _=>?_) (fun _=>?_) | refine YY rfl rfl (fun _=>?_) (fun _=>?_) | refine YZ rfl rfl (fun _=>?_) (fun _=>?_) | refine qbq rfl (fun _=>?_) (fun _=>?_) | refine qe2 rfl (fun _=>?_) (fun _=>?_) | refine JY rfl rfl (fun _=>?_) (fun _=>?_) | refine Y6 rfl rfl (fun _=>?_) (fun _=>?_)))
 exact qeR hM hw hV0 hR [] (List.Sublist.refl _) (qDr rfl rfl) hQ
theorem qF4 {V:qc} {a:Addr} {cap:Nat} {Q:Value→qc→Own→Prop} (hQ:∀ b,Q (.slice (some ⟨b,0,none⟩) 0 0) V [(b,.cells #[] 175 (0,0))]):yp Tryz.prog 190 #[.slice (some a) 0 cap] V [] Q:=by
 refine QX (args:=[_]) Tryz.func190 rfl Tryz.ntmps190 rfl ?_
 intro X w hM hb hw hV0 hR;dsimp only [qan,Nat.zero_add,Nat.reduceAdd]
 (repeat' (first | refine qcr ?_ | refine QJ ?_ | refine qcu ?_ | refine ZL ?_ | refine JR ?_ | refine ZI ?_ | refine qct ?_ | refine ZJ ?_ | refine jX ?_ | refine jG ?_ | refine yM rfl ?_ | refine ye ?_ | refine qcs ?_ | ((first | refine qaB rfl ?_ | refine qbf ?_ | refine qj1 rfl rfl rfl ?_);(first | (refine qga (e:=175) rfl rfl (by kernel_rfl) ?_) | refine ZM rfl ?_ | refine QK rfl ?_ | refine qcx rfl rfl ?_ | refine qcy rfl rfl ?_ | refine qcz rfl rfl ?_ | refine qcA rfl rfl ?_ | refine qcB rfl rfl ?_ | refine qcC rfl rfl ?_ | refine yN rfl rfl ?_ | refine qcF rfl ?_ | refine QM rfl rfl ?_ | refine QN rfl rfl ?_ | refine qbg rfl rfl (by omega) (by omega) ?_ | refine qbh rfl rfl (by omega) (by omega) ?_ | refine qbi rfl rfl (by omega) (by omega) ?_ | refine qaC rfl rfl ?_ | refine qaD rfl rfl ?_ | refine qaE rfl rfl ?_ | refine jo tbN rfl rfl ?_ | refine yP tbN rfl rfl rfl ?_ | refine qcv rfl rfl ?_ | refine qgq rfl rfl ?_ | refine qcw rfl rfl ?_ | refine QL rfl rfl ?_ | refine qcD rfl rfl (by decide) ?_ | refine qcE rfl rfl (by decide) ?_ | refine qcP rfl rfl ?_ | refine ZS rfl rfl ?_ | refine qbp rfl rfl (by kernel_rfl) ?_ | refine Y5 rfl rfl (by kernel_rfl) ?_ | refine yO tbN rfl rfl rfl ?_ | refine qcG rfl ?_ | refine QU tbN rfl rfl rfl ?_ | (apply YX tbN rfl rfl;(· (first | (refine At.own (?_);repeat (first | exact Has.here | refine Has.there ?_)) | exact At.seen (by assumption)));(· exact rfl)) | (apply JS tbN rfl rfl;(· (first | (refine At.own (?_);repeat (first | exact Has.here | refine Has.there ?_)) | exact At.seen (by assumption)));(· exact rfl)) | (apply JT tbN rfl rfl rfl rfl rfl;(· (repeat (first | exact Upd.here | apply Upd.there)));(· exact rfl)) | (apply JU tbN rfl rfl rfl rfl rfl;(· (repeat (first | exact Upd.here | apply Upd.there)));(· exact rfl)) | (apply QW tbN (by kernel_rfl) rfl (rfl:tbN.fo _ 0=_);(· (repeat (first | exact Fill.nil | (apply Fill.cons;(· exact rfl);(· exact rfl);(· exact rfl);(· exact rfl);(· exact rfl)))))) | (refine y9 rfl ?_;intro b) | (refine Yp rfl rfl ?_;intro b) | (refine QV tbN rfl ?_;intro b) | (apply jv tbN;(· exact rfl);(· exact rfl);(· exact rfl);(· decide);(· (repeat (first | exact Cat.nil | (apply Cat.cons;(· exact rfl);(· exact rfl);(· exact rfl)) | exact App.nil | apply App.cons)));intro b))) | refine qrN rfl rfl rfl rfl ?_ | refine QH rfl ?_ | refine QI rfl ?_ | refine qj2 rfl (fun _=>?_) (fun _=>?_) | refine qeJ rfl (fun _=>?_) (fun _=>?_) | refine YY rfl rfl (fun _=>?_) (fun _=>?_) | refine YZ rfl rfl (fun _=>?_) (fun _=>?_) | refine qbq rfl (fun _=>?_) (fun _=>?_) | refine qe2 rfl (fun _=>?_) (fun _=>?_) | refine JY rfl rfl (fun _=>?_) (fun _=>?_) | refine Y6 rfl rfl (fun _=>?_) (fun _=>?_)))
 refine qaB rfl (qaK (e:=175) (k:=1) tbN rfl rfl rfl (Nat.le_refl 0) ?_)
 (repeat' (first | refine qcr ?_ | refine QJ ?_ | refine qcu ?_ | refine ZL ?_ | refine JR ?_ | refine ZI ?_ | refine qct ?_ | refine ZJ ?_ | refine jX ?_ | refine jG ?_ | refine yM rfl ?_ | refine ye ?_ | refine qcs ?_ | ((first | refine qaB rfl ?_ | refine qbf ?_ | refine qj1 rfl rfl rfl ?_);(first | refine ZM rfl ?_ | refine QK rfl ?_ | refine qcx rfl rfl ?_ | refine qcy rfl rfl ?_ | refine qcz rfl rfl ?_ | refine qcA rfl rfl ?_ | refine qcB rfl rfl ?_ | refine qcC rfl rfl ?_ | refine yN rfl rfl ?_ | refine qcF rfl ?_ | refine QM rfl rfl ?_ | refine QN rfl rfl ?_ | refine qbg rfl rfl (by omega) (by omega) ?_ | refine qbh rfl rfl (by omega) (by omega) ?_ | refine qbi rfl rfl (by omega) (by omega) ?_ | refine qaC rfl rfl ?_ | refine qaD rfl rfl ?_ | refine qaE rfl rfl ?_ | refine jo tbN rfl rfl ?_ | refine yP tbN rfl rfl rfl ?_ | refine qcv rfl rfl ?_ | refine qgq rfl rfl ?_ | refine qcw rfl rfl ?_ | refine QL rfl rfl ?_ | refine qcD rfl rfl (by decide) ?_ | refine qcE rfl rfl (by decide) ?_ | refine qcP rfl rfl ?_ | refine ZS rfl rfl ?_ | refine qbp rfl rfl (by kernel_rfl) ?_ | refine Y5 rfl rfl (by kernel_rfl) ?_ | refine yO tbN rfl rfl rfl ?_ | refine qcG rfl ?_ | refine QU tbN rfl rfl rfl ?_ | (apply YX tbN rfl rfl;(· (first | (refine At.own (?_);repeat (first | exact Has.here | refine Has.there ?_)) | exact At.seen (by assumption)));(· exact rfl)) | (apply JS tbN rfl rfl;(· (first | (refine At.own (?_);repeat (first | exact Has.here | refine Has.there ?_)) | exact At.seen (by assumption)));(· exact rfl)) | (apply JT tbN rfl rfl rfl rfl rfl;(· (repeat (first | exact Upd.here | apply Upd.there)));(· exact rfl)) | (apply JU tbN rfl rfl rfl rfl rfl;(· (repeat (first | exact Upd.here | apply Upd.there)));(· exact rfl)) | (apply QW tbN (by kernel_rfl) rfl (rfl:tbN.fo _ 0=_);(· (repeat (first | exact Fill.nil | (apply Fill.cons;(· exact rfl);(· exact rfl);(· exact rfl);(· exact rfl);(· exact rfl)))))) | (refine y9 rfl ?_;intro b) | (refine Yp rfl rfl ?_;intro b) | (refine QV tbN rfl ?_;intro b) | (apply jv tbN;(· exact rfl);(· exact rfl);(· exact rfl);(· decide);(· (repeat (first | exact Cat.nil | (apply Cat.cons;(· exact rfl);(· exact rfl);(· exact rfl)) | exact App.nil | apply App.cons)));intro b))) | refine qrN rfl rfl rfl rfl ?_ | refine QH rfl ?_ | refine QI rfl ?_ | refine qj2 rfl (fun _=>?_) (fun _=>?_) | refine qeJ rfl (fun _=>?_) (fun _=>?_) | refine YY rfl rfl (fun _=>?_) (fun _=>?_) | refine YZ rfl rfl (fun _=>?_) (fun _=>?_) | refine qbq rfl (fun _=>?_) (fun _=>?_) | refine qe2 rfl (fun _=>?_) (fun _=>?_) | refine JY rfl rfl (fun _=>?_) (fun _=>?_) | refine Y6 rfl rfl (fun _=>?_) (fun _=>?_)))
 exact qeR hM hw hV0 hR [(b,.cells #[] 175 (0,0))] (List.Sublist.refl _) (qDr rfl rfl) (hQ b)
theorem qF5 {V:qc} {bb off len cap:Nat} {news:List Value} {Q:Value→qc→Own→Prop} (hn:news.length=len*1) (h1:∀ u∈news,u.oneCell'=true) (hr:∀ (j:Nat) (u:Value),news[j]?=some u→rd V bb (off+j) u) (h0:0<len) (hl:len≤549755813888)
 (hQ:∀ v' Gr',Row 175 1 v' Gr' len news→Q v' V Gr'):yp Tryz.prog 190 #[.slice (some ⟨bb,off,none⟩) len cap] V [] Q:=by
 refine QX (args:=[_]) Tryz.func190 rfl Tryz.ntmps190 rfl ?_
 intro X w hM hb hw hV0 hR;dsimp only [qan,Nat.zero_add,Nat.reduceAdd]
 (repeat' (first | refine qcr ?_ | refine QJ ?_ | refine qcu ?_ | refine ZL ?_ | refine JR ?_ | refine ZI ?_ | refine qct ?_ | refine ZJ ?_ | refine jX ?_ | refine jG ?_ | refine yM rfl ?_ | refine ye ?_ | refine qcs ?_ | ((first | refine qaB rfl ?_ | refine qbf ?_ | refine qj1 rfl rfl rfl ?_);(first | (refine qga (e:=175) rfl rfl (by kernel_rfl) ?_) | refine ZM rfl ?_ | refine QK rfl ?_ | refine qcx rfl rfl ?_ | refine qcy rfl rfl ?_ | refine qcz rfl rfl ?_ | refine qcA rfl rfl ?_ | refine qcB rfl rfl ?_ | refine qcC rfl rfl ?_ | refine yN rfl rfl ?_ | refine qcF rfl ?_ | refine QM rfl rfl ?_ | refine QN rfl rfl ?_ | refine qbg rfl rfl (by omega) (by omega) ?_ | refine qbh rfl rfl (by omega) (by omega) ?_ | refine qbi rfl rfl (by omega) (by omega) ?_ | refine qaC rfl rfl ?_ | refine qaD rfl rfl ?_ | refine qaE rfl rfl ?_ | refine jo tbN rfl rfl ?_ | refine yP tbN rfl rfl rfl ?_ | refine qcv rfl rfl ?_ | refine qgq rfl rfl ?_ | refine qcw rfl rfl ?_ | refine QL rfl rfl ?_ | refine qcD rfl rfl (by decide) ?_ | refine qcE rfl rfl (by decide) ?_ | refine qcP rfl rfl ?_ | refine ZS rfl rfl ?_ | refine qbp rfl rfl (by kernel_rfl) ?_ | refine Y5 rfl rfl (by kernel_rfl) ?_ | refine yO tbN rfl rfl rfl ?_ | refine qcG rfl ?_ | refine QU tbN rfl rfl rfl ?_ | (apply YX tbN rfl rfl;(· (first | (refine At.own (?_);repeat (first | exact Has.here | refine Has.there ?_)) | exact At.seen (by assumption)));(· exact rfl)) | (apply JS tbN rfl rfl;(· (first | (refine At.own (?_);repeat (first | exact Has.here | refine Has.there ?_)) | exact At.seen (by assumption)));(· exact rfl)) | (apply JT tbN rfl rfl rfl rfl rfl;(· (repeat (first | exact Upd.here | apply Upd.there)));(· exact rfl)) | (apply JU tbN rfl rfl rfl rfl rfl;(· (repeat (first | exact Upd.here | apply Upd.there)));(· exact rfl)) | (apply QW tbN (by kernel_rfl) rfl (rfl:tbN.fo _ 0=_);(· (repeat (first | exact Fill.nil | (apply Fill.cons;(· exact rfl);(· exact rfl);(· exact rfl);(· exact rfl);(· exact rfl)))))) | (refine y9 rfl ?_;intro b) | (refine Yp rfl rfl ?_;intro b) | (refine QV tbN rfl ?_;intro b) | (apply jv tbN;(· exact rfl);(· exact rfl);(· exact rfl);(· decide);(· (repeat (first | exact Cat.nil | (apply Cat.cons;(· exact rfl);(· exact rfl);(· exact rfl)) | exact App.nil | apply App.cons)));intro b))) | refine qrN rfl rfl rfl rfl ?_ | refine QH rfl ?_ | refine QI rfl ?_ | refine qj2 rfl (fun _=>?_) (fun _=>?_) | refine qeJ rfl (fun _=>?_) (fun _=>?_) | refine YY rfl rfl (fun _=>?_) (fun _=>?_) | refine YZ rfl rfl (fun _=>?_) (fun _=>?_) | refine qbq rfl (fun _=>?_) (fun _=>?_) | refine qe2 rfl (fun _=>?_) (fun _=>?_) | refine JY rfl rfl (fun _=>?_) (fun _=>?_) | refine Y6 rfl rfl (fun _=>?_) (fun _=>?_)))
 refine qaB rfl (qaL (e:=175) (k:=1) (m:=0) (z:=[.int .u32 0]) (Gr:=[(b,.cells #[] 175 (0,0))]) (G1:=[]) (xs:=[]) (news:=news) tbN rfl rfl rfl (Nat.le_of_ble_eq_true (by kernel_rfl)) rfl rfl (fun w hw j u hj=>?_) hn h1 (Row.some (g:=b) (cur:=#[]) (Nat.le_refl 0) (by simp [maxLen]) rfl rfl) (List.Perm.refl _) h0 (by omega) fun v' Gr' hR'=>?_)
 · obtain ⟨arr,e,f0,q1,q2⟩:=hr j u hj
   rw [yo,yc (hw.view _ _ q1)];exact q2
 · (repeat' (first | refine qcr ?_ | refine QJ ?_ | refine qcu ?_ | refine ZL ?_ | refine JR ?_ | refine ZI ?_ | refine qct ?_ | refine ZJ ?_ | refine jX ?_ | refine jG ?_ | refine yM rfl ?_ | refine ye ?_ | refine qcs ?_ | ((first | refine qaB rfl ?_ | refine qbf ?_ | refine qj1 rfl rfl rfl ?_);(first | refine ZM rfl ?_ | refine QK rfl ?_ | refine qcx rfl rfl ?_ | refine qcy rfl rfl ?_ | refine qcz rfl rfl ?_ | refine qcA rfl rfl ?_ | refine qcB rfl rfl ?_ | refine qcC rfl rfl ?_ | refine yN rfl rfl ?_ | refine qcF rfl ?_ | refine QM rfl rfl ?_ | refine QN rfl rfl ?_ | refine qbg rfl rfl (by omega) (by omega) ?_ | refine qbh rfl rfl (by omega) (by omega) ?_ | refine qbi rfl rfl (by omega) (by omega) ?_ | refine qaC rfl rfl ?_ | refine qaD rfl rfl ?_ | refine qaE rfl rfl ?_ | refine jo tbN rfl rfl ?_ | refine yP tbN rfl rfl rfl ?_ | refine qcv rfl rfl ?_ | refine qgq rfl rfl ?_ | refine qcw rfl rfl ?_ | refine QL rfl rfl ?_ | refine qcD rfl rfl (by decide) ?_ | refine qcE rfl rfl (by decide) ?_ | refine qcP rfl rfl ?_ | refine ZS rfl rfl ?_ | refine qbp rfl rfl (by kernel_rfl) ?_ | refine Y5 rfl rfl (by kernel_rfl) ?_ | refine yO tbN rfl rfl rfl ?_ | refine qcG rfl ?_ | refine QU tbN rfl rfl rfl ?_ | (apply YX tbN rfl rfl;(· (first | (refine At.own (?_);repeat (first | exact Has.here | refine Has.there ?_)) | exact At.seen (by assumption)));(· exact rfl)) | (apply JS tbN rfl rfl;(· (first | (refine At.own (?_);repeat (first | exact Has.here | refine Has.there ?_)) | exact At.seen (by assumption)));(· exact rfl)) | (apply JT tbN rfl rfl rfl rfl rfl;(· (repeat (first | exact Upd.here | apply Upd.there)));(· exact rfl)) | (apply JU tbN rfl rfl rfl rfl rfl;(· (repeat (first | exact Upd.here | apply Upd.there)));(· exact rfl)) | (apply QW tbN (by kernel_rfl) rfl (rfl:tbN.fo _ 0=_);(· (repeat (first | exact Fill.nil | (apply Fill.cons;(· exact rfl);(· exact rfl);(· exact rfl);(· exact rfl);(· exact rfl)))))) | (refine y9 rfl ?_;intro b) | (refine Yp rfl rfl ?_;intro b) | (refine QV tbN rfl ?_;intro b) | (apply jv tbN;(· exact rfl);(· exact rfl);(· exact rfl);(· decide);(· (repeat (first | exact Cat.nil | (apply Cat.cons;(· exact rfl);(· exact rfl);(· exact rfl)) | exact App.nil | apply App.cons)));intro b))) | refine qrN rfl rfl rfl rfl ?_ | refine QH rfl ?_ | refine QI rfl ?_ | refine qj2 rfl (fun _=>?_) (fun _=>?_) | refine qeJ rfl (fun _=>?_) (fun _=>?_) | refine YY rfl rfl (fun _=>?_) (fun _=>?_) | refine YZ rfl rfl (fun _=>?_) (fun _=>?_) | refine qbq rfl (fun _=>?_) (fun _=>?_) | refine qe2 rfl (fun _=>?_) (fun _=>?_) | refine JY rfl rfl (fun _=>?_) (fun _=>?_) | refine Y6 rfl rfl (fun _=>?_) (fun _=>?_)))
   rw [List.append_nil]
   refine qeR hM hw hV0 hR Gr' (List.Sublist.refl _) (qDr rfl rfl) (hQ _ _ ?_)
   rw [Nat.zero_add,List.nil_append] at hR'
   exact hR'
end Fly
namespace Su
open Go Go.Proofs Fly
theorem qns (l:List T):sub l 0 l.length=some l:=Jt l
theorem qjx {P:Program} {f:Nat} {V:qc} {vs:List Value} {l:List T} {e w:Nat}
 (h:yp P f vs.toArray V [] fun v V' G'=>∃ ie,RepOB V' [ie] (.row false e w l) ie G'∧RepS V' [ie] (.osl 0 0 l.length) v):yp P f vs.toArray V [] fun v V' _=>∃ rvs,RepA V' [.sl w l] rvs∧v=JZ rvs:=by
 intro w0 hs hG hV hnd
 refine (h w0 hs hG hV hnd).mono ?_
 rintro ex w' ⟨v,V',G',rfl,hh,ie,m1,m2⟩
 have hsub:sub l 0 l.length=some l:=qns l
 have hz:toTs 64 ⟨[],[],[.row false e w l]⟩ [.osl 0 0 l.length]=some ([.sl w l],(St.mk [] [] [.row false e w l]).frow 0 w l):=by
  simp only [toTs,toT,List.getElem?_cons_zero,hsub,Option.bind_some]
 obtain ⟨V2,G2,g2,s2,r2,_⟩:=(Qh (I:=[ie]) (L:=[]) 64).2 ⟨[],[],[.row false e w l]⟩ _ [.osl 0 0 l.length] _ hz V' G' [v] (.cons m2 .nil) ⟨⟨G'++[],.cons m1 .nil,by rw [List.append_nil]⟩,fun d sv hd _=>by simp [St.look] at hd⟩ ⟨fun p hp=>(hh.free p (by simp [hp])).2,by have:=hh.nodup;simpa using this⟩
 exact ⟨_,V2,G2,rfl,g2.holds _ _ hh,[v],r2,rfl⟩
noncomputable def qv6:PrimD:=⟨List Int,fun xs=>((d1 (cQ 1 1)).dec xs).bind fun l=>bif qle l then some l else none,fun l=>[.sl 1 (l.map eW)],none,some (175,1),fun _=>none⟩
theorem qnt {V:qc} {v:Value} {l:List T} (hl:l.length≤549755813888) (h:Rep V (.sl 1 l) v) :
 yp Tryz.prog 190 #[v] V [] fun v' V' G'=>∃ ie,RepOB V' [ie] (.row false 175 1 l) ie G'∧RepS V' [ie] (.osl 0 0 l.length) v':=by
 cases h with | @sl _ _ vs a cap a1 a2 a3 a4 a5 a6 =>
 have hn:vs.length=l.length*1:=by rw [← a1.length,Qg a3]
 by_cases h0:l=[]
 · subst h0
   cases a with
   | none=>exact qF3 ⟨.vrow,.vrow,.oslv rfl⟩
   | some a=>exact qF4 fun b=>⟨.row b 1 0,.row (by simp) (by simp [maxLen]) (by simp) (by simpa using RepA.nil) (by simp) (by simp),by
    have:=RepS.osl (V:=V) (I:=[IE.row b 1 0]) (n:=0) (off:=0) (len:=0) (b:=b) (k:=1) (ct:=0) rfl (by omega) (by simp [maxLen])
    simpa using this⟩
 · have hpos:0<l.length:=List.length_pos_iff.2 h0
   rcases a6 with a6 | ⟨b,off,rfl,a6⟩
   · exact absurd a6 h0
   · refine qF5 hn (Q5 a1 a2) a6 hpos hl fun v' Gr' hR=>?_
     obtain ⟨b',ct,rfl,b1,b2,b3⟩:=qsD (V:=V) (I:=[.row 0 0 0]) (l:=l) hR hpos rfl a1 a2 a3
     refine ⟨.row b' 1 ct,b3.row_any,?_⟩
     have:=RepS.osl (V:=V) (I:=[IE.row b' 1 ct]) (n:=0) (off:=0) (len:=l.length) (b:=b') (k:=1) (ct:=ct) rfl (by omega) b2
     rw [Nat.zero_mul,Nat.sub_zero] at this
     exact this
theorem qlX (xs:List T) (y:List Int) (h:((d1 (cQ 1 1)).dec xs).bind (fun l=>bif qle l then some l else none)=some y) (V:qc) (vs:List Value) (hr:RepA V xs vs) :
 yp Tryz.prog 190 vs.toArray V [] fun v V' G'=>∃ ie,RepOB V' [ie] (.row false 175 1 (y.map eW)) ie G'∧RepS V' [ie] (.osl 0 0 (y.map eW).length) v:=by
 obtain ⟨l,h1,h2⟩:=osm h
 obtain ⟨h3,h4⟩:=qj h2
 have:=soi h4;subst this
 have hr2:=(d1 (cQ 1 1)).rep h1 hr
 cases hr2 with | cons k1 k2=>cases k2 with | nil =>
 cases k1 with | ql k1 =>
 exact qnt (l:=l.map eW) (by have h5:(l.map (view 1)).length=l.length:=List.length_map ..;rw [show (List.map eW l).length=l.length from h5];exact Nat.le_of_ble_eq_true h3) k1
theorem qv7:Ok1 Tryz.prog Su.tb qh.sound 190 qv6:=by
 refine ⟨by kernel_rfl,fun xs y h V vs _ hr=>qjx (qlX xs y h V vs hr),fun j hj xs y h V vs _ hr=>?_⟩
 have hj:some ((175,1):Nat×Nat)=some j:=hj
 simp only [Option.some.injEq] at hj;subst hj
 intro w0 a1 a2 a3 a4
 refine (qlX xs y h V vs hr w0 a1 a2 a3 a4).mono ?_
 rintro e w' ⟨v,V',G',rfl,hh,ie,m1,m2⟩
 refine ⟨v,V',G',rfl,hh,fun w l he hw=>?_⟩
 have he:[T.sl 1 (y.map eW)]=[.sl w l]:=he
 simp only [List.cons.injEq,T.sl.injEq,and_true] at he
 obtain ⟨rfl,rfl⟩:=he
 exact ⟨ie,m1,m2⟩
end Su
end
section
namespace Su
open Go Go.Proofs Fly
noncomputable def qpE:PrimD:=prim (dc (cQ 1 1) (d1 (cI .u32))) (dc (cQ 1 1) (d1 (cQ 1 1))) qbR
theorem qAN:Ok1 Tryz.prog tb qh.sound 191 qpE:=by
 refine ⟨by kernel_rfl,fun xs y h V vs _ hr=>?_,fun j hj=>nomatch hj⟩
 obtain ⟨p,h1,h2⟩:=osm (show ((dc (cQ 1 1) (d1 (cI .u32))).dec xs).bind qbR=some y from h)
 have hr2:=(dc (cQ 1 1) (d1 (cI .u32))).rep h1 hr
 have hg:=(dc (cQ 1 1) (d1 (cI .u32))).rng hr2
 obtain ⟨a,b⟩:=p
 obtain ⟨h3,h4⟩:=qj h2
 have:=soi h4;subst this
 rw [Bool.and_eq_true,decide_eq_true_eq] at h3
 obtain ⟨⟨ha,la⟩,hb⟩:=hg
 have hb:=qel.1 hb
 obtain ⟨h3a,h3b⟩:=h3
 have h3a:0<b:=h3a
 obtain ⟨B,rfl⟩:∃ B:Nat,b=(B:Int):=⟨b.toNat,by omega⟩
 cases hr2 with | cons k1 k2 =>
 cases k2 with | cons k2 k3 =>
 cases k3 with | nil =>
 cases k2 with | s k2 =>
 exact Go.Proofs.Sho.short_fing (Wd.of ha) (by omega) (by have:=hb.2;omega) (Nat.le_of_ble_eq_true h3b) k1
noncomputable def qpF:PrimD:=prim (d1 (cQ 1 1)) (d1 (cQ 1 1)) Qb
theorem qAO:Ok1 Tryz.prog tb qh.sound 190 qpF:=by
 refine ⟨by kernel_rfl,fun xs y h V vs hg hr=>?_,fun j hj=>nomatch hj⟩
 have hF:=qv7.2.1 xs y h V vs hg hr
 intro w a1 a2 a3 a4
 refine (hF w a1 a2 a3 a4).mono ?_
 rintro e w' ⟨v,V',G',rfl,hh,rvs,m1,rfl⟩
 refine ⟨_,V',G',rfl,hh,rvs,?_,rfl⟩
 have m1:RepA V' [.sl 1 (List.map (view 1) (y:List (U 1)))] rvs:=m1
 cases m1 with | cons k1 k2=>cases k2 with | nil=>exact .cons (.ql k1) .nil
noncomputable def qjy:qw:=qL [(190,qpF),(191,qpE)] qv4
theorem qhL:qo Tryz.prog tb qh.sound qjy:=qk qro (qe qAO (qe qAN qr))
end Su
end
section
namespace Su
open Go Go.Proofs Fly
set_option maxRecDepth 100000
theorem qF6 (fu:Nat) (a:(List Int)) (b:(List Int)):qu tb qjy (shN tb qjy fu 9) fu 147 ((dc (cQ 1 1) (d1 (cQ 1 1))).enc (a,b)) ((dc (cQ 1 1) (dc (cQ 1 1) (d1 (cI .i64))))).dec=Div fu a b:=by kernel_rfl
noncomputable def qC9:PrimD:=prim (dc (cQ 1 1) (d1 (cQ 1 1))) (dc (cQ 1 1) (dc (cQ 1 1) (d1 (cI .i64)))) (qbS)
theorem qH2:Ok1 Tryz.prog tb qh.sound 147 qC9:=qf qx qhL (by kernel_rfl) fun a y hg h=>by
 obtain ⟨n,hn⟩:=qEu a y hg h
 exact ⟨n,9,n,(qF6 n a.1 a.2).trans hn⟩
noncomputable def qjz:qw:=qL [(147,qC9)] qjy
theorem qhM:qo Tryz.prog tb qh.sound qjz:=qk qhL (qe qH2 qr)
end Su
end
section
namespace Su
open Go Go.Proofs Fly
set_option maxRecDepth 100000
theorem qF7 (fu:Nat) (a:(List Int)) (b:(List Int)):qu tb qjz (shN tb qjz fu 9) fu 146 ((dc (cQ 1 1) (d1 (cQ 1 1))).enc (a,b)) ((d1 (cQ 1 1))).dec=Gcd fu a b:=by kernel_rfl
noncomputable def qDa:PrimD:=prim (dc (cQ 1 1) (d1 (cQ 1 1))) (d1 (cQ 1 1)) (qlg)
theorem qH3:Ok1 Tryz.prog tb qh.sound 146 qDa:=qf qx qhM (by kernel_rfl) fun a y hg h=>by
 obtain ⟨n,hn⟩:=qEw a y hg h
 exact ⟨n,9,n,(qF7 n a.1 a.2).trans hn⟩
noncomputable def qjA:qw:=qL [(146,qDa)] qjz
theorem qhN:qo Tryz.prog tb qh.sound qjA:=qk qhM (qe qH3 qr)
end Su
end
section
namespace Su
open Go Go.Proofs Fly
set_option maxRecDepth 100000
theorem qF8 (fu:Nat)  (neg:Bool) (num:(List Int)) (den:(List Int)):qu tb qjA (shN tb qjA fu 9) fu 65 ((dc cB (dc (cQ 1 1) (d1 (cQ 1 1)))).enc (neg,num,den)) ((d1 cRt)).dec=Low neg num den:=by kernel_rfl
noncomputable def qDb:PrimD:=prim (dc cB (dc (cQ 1 1) (d1 (cQ 1 1)))) (d1 cRt) (Ju)
theorem qH4:Ok1 Tryz.prog tb qh.sound 65 qDb:=qf qx qhN (by kernel_rfl) fun a y hg h=>⟨0,9,0,(qF8 0 a.1 a.2.1 a.2.2).trans (qEz a y hg h)⟩
noncomputable def Qt:qw:=qL [(65,qDb)] qjA
theorem QT:qo Tryz.prog tb qh.sound Qt:=qk qhN (qe qH4 qr)
end Su
end
section
namespace Su
open Go Go.Proofs Fly
set_option maxRecDepth 100000
theorem qAP (fu:Nat)  (a:(Bool×((List Int)×(List Int)))):qu tb Qt (shN tb Qt fu 9) fu 66 ((d1 cRt).enc (a)) ((d1 cRt)).dec=RLow a:=by kernel_rfl
noncomputable def qv8:PrimD:=prim (d1 cRt) (d1 cRt) (JL)
theorem qF9:Ok1 Tryz.prog tb qh.sound 66 qv8:=qf qx QT (by kernel_rfl) fun a y hg h=>⟨0,9,0,(qAP 0 a).trans (qy6 a y hg h)⟩
theorem qAQ (fu:Nat)  (x:Int):qu tb Qt (shN tb Qt fu 9) fu 26 ((d1 (cI .i64)).enc (x)) ((d1 cRt)).dec=qEA x:=by kernel_rfl
noncomputable def qv9:PrimD:=prim (d1 (cI .i64)) (d1 cRt) (qtG)
theorem qGa:Ok1 Tryz.prog tb qh.sound 26 qv9:=qf qx QT (by kernel_rfl) fun a y hg h=>⟨0,9,0,(qAQ 0 a).trans (qy8 a y hg h)⟩
theorem qwa (fu:Nat)  (neg:Bool) (m:Int) (e:Int):qu tb Qt (shN tb Qt fu 9) fu 63 ((dc cB (dc (cI .u64) (d1 (cI .i64)))).enc (neg,m,e)) ((dc cRt (d1 (cI .i64)))).dec=qlh neg m e:=by kernel_rfl
noncomputable def qpG:PrimD:=prim (dc cB (dc (cI .u64) (d1 (cI .i64)))) (dc cRt (d1 (cI .i64))) (Z1)
theorem qAR:Ok1 Tryz.prog tb qh.sound 63 qpG:=qf qx QT (by kernel_rfl) fun a y hg h=>⟨0,9,0,(qwa 0 a.1 a.2.1 a.2.2).trans (qtJ a y hg h)⟩
theorem qwb (fu:Nat)  (a:(Bool×((List Int)×(List Int)))):qu tb Qt (shN tb Qt fu 9) fu 48 ((d1 cRt).enc (a)) ((d1 cRt)).dec=qCA a:=by kernel_rfl
noncomputable def qpH:PrimD:=prim (d1 cRt) (d1 cRt) (qbT)
theorem qAS:Ok1 Tryz.prog tb qh.sound 48 qpH:=qf qx QT (by kernel_rfl) fun a y hg h=>⟨0,9,0,(qwb 0 a).trans (qtF a y hg h)⟩
theorem qAT (fu:Nat)  (a:(Bool×((List Int)×(List Int)))):qu tb Qt (shN tb Qt fu 9) fu 17 ((d1 cRt).enc (a)) ((d1 cRt)).dec=RAbs a:=by kernel_rfl
noncomputable def qwc:PrimD:=prim (d1 cRt) (d1 cRt) (qcY)
theorem qGb:Ok1 Tryz.prog tb qh.sound 17 qwc:=qf qx QT (by kernel_rfl) fun a y hg h=>⟨0,9,0,(qAT 0 a).trans (qy7 a y hg h)⟩
noncomputable def ZD:qw:=qL [(66,qv8),(26,qv9),(63,qpG),(48,qpH),(17,qwc)] Qt
theorem qaf:qo Tryz.prog tb qh.sound ZD:=qk QT (qe qF9 (qe qGa (qe qAR (qe qAS (qe qGb qr)))))
end Su
end
section
namespace Su
open Go Go.Proofs Fly
set_option maxRecDepth 100000
theorem qAU (fu:Nat)  (a:(Bool×((List Int)×(List Int)))) (b:(Bool×((List Int)×(List Int)))):qu tb ZD (shN tb ZD fu 9) fu 46 ((dc cRt (d1 cRt)).enc (a,b)) ((d1 cRt)).dec=qEC a b:=by kernel_rfl
noncomputable def qwd:PrimD:=prim (dc cRt (d1 cRt)) (d1 cRt) (qtK)
theorem qGc:Ok1 Tryz.prog tb qh.sound 46 qwd:=qf qx qaf (by kernel_rfl) fun a y hg h=>⟨0,9,0,(qAU 0 a.1 a.2).trans (qza a y hg h)⟩
theorem qAV (fu:Nat)  (a:(Bool×((List Int)×(List Int)))) (b:(Bool×((List Int)×(List Int)))):qu tb ZD (shN tb ZD fu 9) fu 43 ((dc cRt (d1 cRt)).enc (a,b)) ((d1 cRt)).dec=qED a b:=by kernel_rfl
noncomputable def qwe:PrimD:=prim (dc cRt (d1 cRt)) (d1 cRt) (Zo)
theorem qGd:Ok1 Tryz.prog tb qh.sound 43 qwe:=qf qx qaf (by kernel_rfl) fun a y hg h=>⟨0,9,0,(qAV 0 a.1 a.2).trans (qzc a y hg h)⟩
theorem qAW (fu:Nat)  (a:(Bool×((List Int)×(List Int)))) (b:(Bool×((List Int)×(List Int)))):qu tb ZD (shN tb ZD fu 9) fu 18 ((dc cRt (d1 cRt)).enc (a,b)) ((d1 (cI .i64))).dec=qEE a b:=by kernel_rfl
noncomputable def qwf:PrimD:=prim (dc cRt (d1 cRt)) (d1 (cI .i64)) (qc0)
theorem qGe:Ok1 Tryz.prog tb qh.sound 18 qwf:=qf qx qaf (by kernel_rfl) fun a y hg h=>⟨0,9,0,(qAW 0 a.1 a.2).trans (qzd a y hg h)⟩
noncomputable def qdn:qw:=qL [(46,qwd),(43,qwe),(18,qwf)] ZD
theorem qdo:qo Tryz.prog tb qh.sound qdn:=qk qaf (qe qGc (qe qGd (qe qGe qr)))
end Su
end
section
namespace Su
open Go Go.Proofs Fly
set_option maxRecDepth 100000
theorem qAX (fu:Nat)  (a:(Bool×((List Int)×(List Int)))) (b:(Bool×((List Int)×(List Int)))):qu tb qdn (shN tb qdn fu 9) fu 16 ((dc cRt (d1 cRt)).enc (a,b)) ((d1 cRt)).dec=qEG a b:=by kernel_rfl
noncomputable def qwg:PrimD:=prim (dc cRt (d1 cRt)) (d1 cRt) (qc1)
theorem qGf:Ok1 Tryz.prog tb qh.sound 16 qwg:=qf qx qdo (by kernel_rfl) fun a y hg h=>⟨0,9,0,(qAX 0 a.1 a.2).trans (qze a y hg h)⟩
theorem qAY (fu:Nat)  (f:Int):qu tb qdn (shN tb qdn fu 9) fu 14 ((d1 (cI .u64)).enc (f)) ((dc cRt (d1 cB))).dec=qEH f:=by kernel_rfl
noncomputable def qwh:PrimD:=prim (d1 (cI .u64)) (dc cRt (d1 cB)) (YG)
theorem qwi:Ok1 Tryz.prog tb qh.sound 14 qwh:=qf qx qdo (by kernel_rfl) fun a y hg h=>⟨0,9,0,(qAY 0 a).trans (qzf a y hg h)⟩
noncomputable def qdp:qw:=qL [(16,qwg),(14,qwh)] qdn
theorem qdq:qo Tryz.prog tb qh.sound qdp:=qk qdo (qe qGf (qe qwi qr))
end Su
end
section
namespace Su
open Go Go.Proofs Fly
set_option maxRecDepth 100000
theorem qrr (fu:Nat)  (f:Int):qu tb qdp (shN tb qdp fu 9) fu 144 ((d1 (cI .u64)).enc (f)) ((dc cB (dc (cI .i64) (d1 (cI .u64))))).dec=qm3 f:=by kernel_rfl
noncomputable def qlY:PrimD:=prim (d1 (cI .u64)) (dc cB (dc (cI .i64) (d1 (cI .u64)))) (qlk)
theorem qwj:Ok1 Tryz.prog tb qh.sound 144 qlY:=qf qx qdq (by kernel_rfl) fun a y hg h=>⟨0,9,0,(qrr 0 a).trans (qqR a y hg h)⟩
theorem qrs (fu:Nat)  (f:Int):qu tb qdp (shN tb qdp fu 9) fu 64 ((d1 (cI .u64)).enc (f)) ((d1 (cI .u8))).dec=qm4 f:=by kernel_rfl
noncomputable def qlZ:PrimD:=prim (d1 (cI .u64)) (d1 (cI .u8)) (qll)
theorem qwk:Ok1 Tryz.prog tb qh.sound 64 qlZ:=qf qx qdq (by kernel_rfl) fun a y hg h=>⟨0,9,0,(qrs 0 a).trans (qqS a y hg h)⟩
noncomputable def ZE:qw:=qL [(144,qlY),(64,qlZ)] qdp
theorem qag:qo Tryz.prog tb qh.sound ZE:=qk qdq (qe qwj (qe qwk qr))
end Su
end
section
namespace Su
open Go Go.Proofs Fly
set_option maxRecDepth 100000
theorem qwl (fu:Nat)  (e:Int):qu tb ZE (shN tb ZE fu 9) fu 31 ((d1 (cI .u64)).enc (e)) ((d1 (cI .u64))).dec=qtR e:=by kernel_rfl
noncomputable def qpI:PrimD:=prim (d1 (cI .u64)) (d1 (cI .u64)) (qoz)
theorem qAZ:Ok1 Tryz.prog tb qh.sound 31 qpI:=qf qx qag (by kernel_rfl) fun a y hg h=>⟨0,9,0,(qwl 0 a).trans (qtT a y hg h)⟩
theorem qnu (fu:Nat)  (e:Int):qu tb ZE (shN tb ZE fu 9) fu 15 ((d1 (cI .u64)).enc (e)) ((d1 (cI .u64))).dec=qi2 e:=by kernel_rfl
noncomputable def qhO:PrimD:=prim (d1 (cI .u64)) (d1 (cI .u64)) (qhh)
theorem qrt:Ok1 Tryz.prog tb qh.sound 15 qhO:=qf qx qag (by kernel_rfl) fun a y hg h=>⟨0,9,0,(qnu 0 a).trans (qm5 a y hg h)⟩
theorem qA0 (fu:Nat)  (f:Int):qu tb ZE (shN tb ZE fu 9) fu 27 ((d1 (cI .u64)).enc (f)) ((d1 cB)).dec=qEJ f:=by kernel_rfl
noncomputable def qwm:PrimD:=prim (d1 (cI .u64)) (d1 cB) (qtS)
theorem qGg:Ok1 Tryz.prog tb qh.sound 27 qwm:=qf qx qag (by kernel_rfl) fun a y hg h=>⟨0,9,0,(qA0 0 a).trans (qzg a y hg h)⟩
noncomputable def qa9:qw:=qL [(31,qpI),(15,qhO),(27,qwm)] ZE
theorem qah:qo Tryz.prog tb qh.sound qa9:=qk qag (qe qAZ (qe qrt (qe qGg qr)))
end Su
end
section
namespace Su
open Go Go.Proofs Fly
set_option maxRecDepth 100000
theorem qA1 (fu:Nat) (l:(List Int)):qu tb qa9 (shN tb qa9 fu 9) fu 127 ((d1 (cQ 2 1)).enc (l)) ((d1 (cI .u64))).dec=qEK fu l:=by kernel_rfl
noncomputable def qwn:PrimD:=prim (d1 (cQ 2 1)) (d1 (cI .u64)) (qtU)
theorem qGh:Ok1 Tryz.prog tb qh.sound 127 qwn:=qf qx qah (by kernel_rfl) fun a y hg h=>by
 obtain ⟨n,hn⟩:=qzh a y hg h
 exact ⟨n,9,n,(qA1 n a).trans hn⟩
theorem qA2 (fu:Nat) (l:(List Int)):qu tb qa9 (shN tb qa9 fu 9) fu 162 ((d1 (cQ 2 1)).enc (l)) ((d1 (cI .u64))).dec=qEL fu l:=by kernel_rfl
noncomputable def qwo:PrimD:=prim (d1 (cQ 2 1)) (d1 (cI .u64)) (qtV)
theorem qGi:Ok1 Tryz.prog tb qh.sound 162 qwo:=qf qx qah (by kernel_rfl) fun a y hg h=>by
 obtain ⟨n,hn⟩:=qzi a y hg h
 exact ⟨n,9,n,(qA2 n a).trans hn⟩
noncomputable def qdr:qw:=qL [(127,qwn),(162,qwo)] qa9
theorem qds:qo Tryz.prog tb qh.sound qdr:=qk qah (qe qGh (qe qGi qr))
end Su
end
section
namespace Su
open Go Go.Proofs Fly
set_option maxRecDepth 100000
theorem qA3 (fu:Nat)  (f:Int):qu tb qdr (shN tb qdr fu 9) fu 107 ((d1 (cI .u64)).enc (f)) ((d1 cB)).dec=qEM f:=by kernel_rfl
noncomputable def qnv:PrimD:=prim (d1 (cI .u64)) (d1 cB) (qtX)
theorem qwp:Ok1 Tryz.prog tb qh.sound 107 qnv:=qf qx qds (by kernel_rfl) fun a y hg h=>⟨0,9,0,(qA3 0 a).trans (qzj a y hg h)⟩
theorem qwq (fu:Nat)  (f:Int):qu tb qdr (shN tb qdr fu 9) fu 106 ((d1 (cI .u64)).enc (f)) ((d1 cB)).dec=qtW f:=by kernel_rfl
noncomputable def qjB:PrimD:=prim (d1 (cI .u64)) (d1 cB) (qoC)
theorem qpJ:Ok1 Tryz.prog tb qh.sound 106 qjB:=qf qx qds (by kernel_rfl) fun a y hg h=>⟨0,9,0,(qwq 0 a).trans (qtY a y hg h)⟩
noncomputable def Qf:qw:=qL [(107,qnv),(106,qjB)] qdr
theorem Jm:qo Tryz.prog tb qh.sound Qf:=qk qds (qe qwp (qe qpJ qr))
end Su
end
