/-
  The law and its row.
-/
import Derived.Test.YtfckjjffdfkelaaGreatHSh1
import Derived.Test.YtfckjjffdfkelaaGreatNB05
import Derived.Test.YtfckjjffdfkelaaGreatNB09
import Derived.Test.YtfckjjffdfkelaaGreatSuTb
import Derived.Test.YtfckjjffdfkelaaGreatNB10
set_option maxRecDepth 10000
section
namespace Go.Proofs.Sho
open Go Go.RowKit Go.Shelf Go.Proofs Fly Su
attribute [local go_sem] Oper.semAt_some
abbrev HX (V:qc) (w:World) (V':qc) (W:World):Prop:=Holds ⟨fun _=>False,w,V,fun _ _ _=>False⟩ V' [] W
theorem HX.trans {V V1 V2:qc} {w W W2:World} {G:Fly.Own} (h:HX V w V1 W) (k:Holds ⟨fun _=>False,W,V1,fun _ _ _=>False⟩ V2 G W2):HX V w V2 W2 :=
 ⟨h.ext.trans k.ext,k.view,(fun _ hp=>(List.not_mem_nil hp).elim),(fun _ hp=>(List.not_mem_nil hp).elim),.nil,h.sub.trans k.sub,fun r h1 h2=>by
   by_cases h3:V1 r=none
   · rcases k.newer r h3 h2 with h4 | h4
     · exact .inl (Nat.le_trans h.ext.size h4)
     · exact h4.elim
   · exact h.newer r h1 h3⟩
theorem HX.drew {V V1:qc} {w W:World} (h:HX V w V1 W):HX V w V1 W.drew :=
 ⟨⟨h.ext.os,h.ext.tape,h.ext.output,h.ext.size,h.ext.block⟩,h.view,(fun _ hp=>(List.not_mem_nil hp).elim),(fun _ hp=>(List.not_mem_nil hp).elim),.nil,h.sub,h.newer⟩
theorem HX.add {V:qc} {w W:World} {B:Nat} {o:Obj} (hs:qe2 V w) (hb:Below w.heap.size w W) (hB:w.heap.size≤B) (ho:W.heap[B]?=some o):HX V w (addV V B o) W:=by
 have hlt:∀ r o,V r=some o→r<w.heap.size:=fun r o h=>(Array.getElem?_eq_some_iff.1 (hs r o h)).1
 have hn:V B=none:=by
  cases h:V B with
  | none=>rfl
  | some o=>have:=hlt _ _ h;omega
 refine ⟨⟨hb.os,hb.tape,hb.output,hb.size,fun k hk _=>hb.block k hk⟩,fun r u hr=>?_,(fun _ hp=>(List.not_mem_nil hp).elim),(fun _ hp=>(List.not_mem_nil hp).elim),.nil,Fly.Sub.addV hn,fun r h1 h2=>?_⟩
 · unfold addV at hr
   by_cases e:r=B
   · rw [if_pos e] at hr;subst e;rw [ho];exact hr
   · rw [if_neg e] at hr;exact (hb.block r (hlt _ _ hr)).trans (hs r u hr)
 · unfold addV at h2
   by_cases e:r=B
   · exact .inl (by show w.heap.size≤r;omega)
   · rw [if_neg e] at h2;exact absurd h1 h2
theorem gok4 {V:qc}:GOK Su.tb V:=fun _ _ h=>by cases h
theorem qAI (r:Nat) (h:r<18446744073709551616):New (r:Int)=some (ofN r):=by
 have e1:IntKind.u32.wrap (r:Int)=((r % 4294967296:Nat):Int):=by rw [Su.wrap_u32];omega
 have e2:Int.fdiv (r:Int) (2^32)=((r / 4294967296:Nat):Int):=by
  have:=qaY r 32;rwa [show (2:Nat)^32=4294967296 from rfl] at this
 have e3:IntKind.u32.wrap ((r / 4294967296:Nat):Int)=((r / 4294967296:Nat):Int):=Su.qmR (by omega) (by omega)
 unfold New
 rw [e1,e2,e3]
 simp only [qa,Int.toNat_natCast]
 congr 2;omega
theorem qnu {V:qc} {W:World} {v:Value} {a:List Int} (hs:qe2 V W) (hr:Rep V (.ql 1 1 a) v):Calls Tryz.prog 148 #[v] W fun e W'=>∃ v' V',e = .returned v'∧HX V W V' W'∧Rep V' (.ql 1 1 (ofN (qa a))) v':=by
 have h:∀ xs y,((d1 (cQ 1 1)).dec xs).bind qiP=some y→∀ V vs,GOK Su.tb V→RepA V xs vs→yA Tryz.prog 148 vs.toArray V [] fun v V' _=>∃ rvs,RepA V' ((d1 (cQ 1 1)).enc y) rvs∧v=J5 rvs:=qv6.2.1
 have h2:((d1 (cQ 1 1)).dec [T.ql 1 1 a]).bind qiP=some (ofN (qa a)):=by
  rw [show (d1 (cQ 1 1)).dec [T.ql 1 1 a]=some a from (d1 (cQ 1 1)).de a];rfl
 refine (h _ _ h2 V [v] gok4 (.cons hr .nil) W hs (fun _ hp=>(List.not_mem_nil hp).elim) (fun _ hp=>(List.not_mem_nil hp).elim) .nil).mono ?_
 rintro e W' ⟨v',V',G',rfl,hh,rvs,m1,rfl⟩
 cases m1 with | cons k1 k2=>cases k2 with | nil =>
 exact ⟨_,V',rfl,⟨⟨hh.ext.os,hh.ext.tape,hh.ext.output,hh.ext.size,fun k hk _=>hh.ext.block k hk (by simp [keys])⟩,hh.view,(fun _ hp=>(List.not_mem_nil hp).elim),(fun _ hp=>(List.not_mem_nil hp).elim),.nil,hh.sub,fun r h1 h2=>(hh.newer r h1 h2).imp id (fun hm=>by simp [keys] at hm)⟩,k1⟩
theorem qri {V:qc} {W:World} {r:Nat} (hl:r<18446744073709551616) (hs:qe2 V W):Calls Tryz.prog 78 #[.int .u64 (r:Int)] W fun e W'=>∃ v' V',e = .returned v'∧HX V W V' W'∧Rep V' (.ql 1 1 (ofN r)) v':=by
 have h:∀ xs y,((d1 (cI .u64)).dec xs).bind (fun a=>New a)=some y→∀ V vs,GOK Su.tb V→RepA V xs vs→yA Tryz.prog 78 vs.toArray V [] fun v V' _=>∃ rvs,RepA V' ((d1 (cQ 1 1)).enc y) rvs∧v=J5 rvs:=qC3.2.1
 have h2:((d1 (cI .u64)).dec [T.s (.int .u64 (r:Int))]).bind (fun a=>New a)=some (ofN r):=by
  rw [show (d1 (cI .u64)).dec [T.s (.int .u64 (r:Int))]=some (r:Int) from (d1 (cI .u64)).de (r:Int)]
  exact qAI r hl
 refine (h _ _ h2 V [.int .u64 (r:Int)] gok4 (.cons (.s (by show inR .u64 (r:Int)=true;exact j0.2 ⟨by omega,by omega⟩)) .nil) W hs (fun _ hp=>(List.not_mem_nil hp).elim) (fun _ hp=>(List.not_mem_nil hp).elim) .nil).mono ?_
 rintro e W' ⟨v',V',G',rfl,hh,rvs,m1,rfl⟩
 cases m1 with | cons k1 k2=>cases k2 with | nil =>
 exact ⟨_,V',rfl,⟨⟨hh.ext.os,hh.ext.tape,hh.ext.output,hh.ext.size,fun k hk _=>hh.ext.block k hk (by simp [keys])⟩,hh.view,(fun _ hp=>(List.not_mem_nil hp).elim),(fun _ hp=>(List.not_mem_nil hp).elim),.nil,hh.sub,fun r h1 h2=>(hh.newer r h1 h2).imp id (fun hm=>by simp [keys] at hm)⟩,k1⟩
def wI (qs:List Nat):List Int:=qs.map fun z=>((z:Nat):Int)
theorem qhH (qs:List Nat):(wI qs).length=qs.length:=List.length_map ..
theorem qFY (qs:List Nat):(List.map (α:=U 1) (view 1) (wI qs)).length=qs.length:=(List.length_map (α:=U 1) ..).trans (qhH qs)
theorem qcz:∀ qs:List Nat,(List.map (α:=U 1) (view 1) (wI qs)).flatMap T.cells=qs.map fun z=>T.s (vW z)
 | []=>rfl
 | x::l=>by
  show T.s (vW x)::(List.map (α:=U 1) (view 1) (wI l)).flatMap T.cells=_
  rw [qcz l];rfl
theorem qwa:∀ (qs:List Nat) (x:T),x∈List.map (α:=U 1) (view 1) (wI qs)→x.cells.length=1
 | [],x,h=>by cases h
 | y::l,x,h=>by
  rcases List.mem_cons.1 (show x∈view 1 ((y:Nat):Int)::List.map (α:=U 1) (view 1) (wI l) from h) with rfl | h
  · rfl
  · exact qwa l x h
theorem qrj {V:qc} {B off:Nat} {qs:List Nat} {len cap:Nat} (h:∀ (j:Nat) (c:Value),(qs.map vW)[j]?=some c→rd V B (off+j) c) (hqw:∀ z∈qs,z<4294967296) (hql:qs.length=len) (hlen:len≤cap) (hcap:cap≤maxLen) :
 Rep V (.ql 1 1 (wI qs)) (.slice (some ⟨B,off,none⟩) len cap):=by
 have hw:∀ l:List Nat,(∀ z∈l,z<4294967296)→RepA V (l.map fun z=>T.s (vW z)) (l.map vW):=by
  intro l
  induction l with
  | nil=>exact fun _=>.nil
  | cons x l ih =>
   intro hx
   have hx0:=hx x (List.mem_cons_self ..)
   exact .cons (.s (show inR .u32 (x:Int)=true from qey.2 ⟨by omega,by omega⟩)) (ih fun z hz=>hx z (List.mem_cons_of_mem _ hz))
 have hl:=qFY qs
 have h2:=Rep.sl (V:=V) (k:=1) (l:=List.map (α:=U 1) (view 1) (wI qs)) (vs:=qs.map vW) (a:=some ⟨B,off,none⟩) (cap:=cap) (by rw [qcz];exact hw qs hqw)
  (by rw [qcz];intro x hx;obtain ⟨z,_,rfl⟩:=List.mem_map.1 hx;rfl) (qwa qs) (by omega) hcap (.inr ⟨B,off,rfl,h⟩)
 rw [hl,hql] at h2
 exact .ql h2
set_option maxRecDepth 100000 in
set_option maxHeartbeats 4000000 in
theorem qAJ {V:qc} {w W:World} {B D b len cap rr:Nat} {sa:Option Addr} {qs:List Nat} {Q:Ending→World→Prop} {Kc:Act→World→Prop} (hs:qe2 V w) (hB:Below w.heap.size w W) (hBw:w.heap.size≤B) (hDB:B+5≤D)
 (g1:W.heap[B+1]?=some (Obj.cells (qs.map vW).toArray 175 (0,0))) (hql:qs.length=len) (hqw:∀ z∈qs,z<4294967296) (hlen:len≤549755813888) (g2:W.heap[B+2]?=some (Obj.cells #[.slice (some ⟨B+1,0,none⟩) len len] 38 (0,0)))
 (g3:W.heap[B+3]?=some (Obj.cells #[.int .u64 (rr:Int)] 44 (0,0))) (hrr:rr<18446744073709551616) (hD:W.heap[D]?=some (.deferred (some [])))
 (hK:∀ a w',Code.wpIn Fence.wide 3 Tryz.prog Code.ret (bodyPostM Fence.wide 3 Tryz.prog Tryz.f191 Q) a w'→Kc a w')
 (hQ:∀ v1 v2 V1 V2 W2,HX V w V1 W2→Rep V1 (.ql 1 1 (ofN (qa (wI qs)))) v1→Rep V1 (.ql 1 1 (ofN rr)) v2→W2.heap[D]?=some (.deferred (some []))→V2=V1→Q (.returned (.tuple #[v1,v2])) (W2.putObj D (.deferred none))) :
 Code.wpIn Fence.wide 3 Tryz.prog qvQ (Exit.then Kc (bodyPostM Fence.wide 3 Tryz.prog Tryz.f191 Q)) (qFJ B D b sa len cap) W:=by
 have hx0:HX V w (addV V (B+1) (Obj.cells (qs.map vW).toArray 175 (0,0))) W:=HX.add hs hB (by omega) g1
 have hrep:Rep (addV V (B+1) (Obj.cells (qs.map vW).toArray 175 (0,0))) (.ql 1 1 (wI qs)) (.slice (some ⟨B+1,0,none⟩) len len):=qrj (fun j c hj=>⟨_,_,_,by unfold addV;rw [if_pos rfl],by rw [List.getElem?_toArray,Nat.zero_add];exact hj⟩) hqw hql (Nat.le_refl _) (by simp [maxLen];omega)
 obtain ⟨V0,hV0⟩:∃ V0,addV V (B+1) (Obj.cells (qs.map vW).toArray 175 (0,0))=V0:=⟨_,rfl⟩
 rw [hV0] at hx0 hrep
 have c2:=ZH g2 (i:=0) rfl
 have c3:=ZH g3 (i:=0) rfl
 unfold qvQ qFJ
 have hmx:Tryz.prog.follows .mixedOrders=true:=by kernel_rfl
 refine Code.wpIn_mono (Q:=Exit.then Kc (fun _ _ _=>False)) (fun e a w h=>by cases e <;> first | exact h | exact h.elim) ?_
 gi_region_with_o (first
  | (refine ⟨trivial,?_⟩;gi_at_call 148;refine (callsIn_wide.2 (qnu (V:=V0) (W:=W.drew) hx0.view hrep)).mono ?_;rintro e w1 ⟨v1,V1,rfl,hx1,hr1⟩;have c3':=(hx1.ext.below.cell (p:=⟨B+3,0,none⟩) (Array.getElem?_eq_some_iff.1 g3).1).trans c3)
  | (refine ⟨trivial,?_⟩;gi_at_call 78;refine (callsIn_wide.2 (qri (V:=V1) (W:=w1) hrr hx1.view)).mono ?_;rintro e w2 ⟨v2,V2,rfl,hx2,hr2⟩))
 all_goals (
  refine hK _ _ ?_
  have hD1:w1.heap[D]?=some (.deferred (some [])):=(hx1.ext.block D (Array.getElem?_eq_some_iff.1 hD).1 (fun h=>h)).trans hD
  have hD2:w2.heap[D]?=some (.deferred (some [])):=(hx2.ext.block D (Array.getElem?_eq_some_iff.1 hD1).1 (fun h=>h)).trans hD1
  gi_wp2
  refine ⟨by simp,.inl ⟨_,_,rfl,run_takeDeferred hD2,?_⟩⟩
  refine ⟨_,results_tmp2 (t:=4) (u:=5) rfl _ _ _,hQ v1 v2 V2 V2 w2 ((hx0.drew.trans hx1).trans hx2) (Rep.mono hx2.sub hr1) hr2 hD2 rfl⟩)
theorem qH0 {b:Nat} {len:Nat} (pre:List (Wo len)):∀ z∈(sf b pre).2,z<4294967296:=by
 have:∀ (l:List (Wo len)) (s:Nat×List Nat),(∀ z∈s.2,z<4294967296)→∀ z∈(l.foldl (stp b) s).2,z<4294967296:=by
  intro l
  induction l with
  | nil=>exact fun s h=>h
  | cons x l ih =>
   refine fun s h=>ih _ fun z hz=>?_
   rcases List.mem_or_eq_of_mem_set hz with hz | rfl
   · exact h z hz
   · exact Nat.mod_lt _ (by omega)
 exact this pre _ fun z hz=>by rw [(List.mem_replicate.1 hz).2];omega
theorem qFZ (qs:List Nat) (j:Nat):nth (wI qs) j=((qs[j]?.getD 0:Nat):Int):=by
 unfold nth
 have:(wI qs)[j]?=(qs[j]?).map fun z=>((z:Nat):Int):=List.getElem?_map ..
 rw [this]
 cases qs[j]? <;> rfl
theorem qF0 (qs:List Nat) (j y:Nat):wI (qs.set j y)=List.set (wI qs) j ((y:Nat):Int):=List.map_set ..
theorem qAK (zs:List Nat) (m:Nat) (h:m<zs.length):qa (wI (zs.drop m))=zs[m]?.getD 0+4294967296*qa (wI (zs.drop (m+1))):=by
 rw [List.drop_eq_getElem_cons h,List.getElem?_eq_getElem h]
 show qa (((zs[m]:Nat):Int)::wI (zs.drop (m+1)))=_
 rw [qa,Int.toNat_natCast];rfl
theorem qpA {zs:List Nat} (hz:∀ z∈zs,z<4294967296) (h0:0<zs.length) {b:Nat} (hb:0<b):∀ k,k≤zs.length →
 (sf b (Y0 hz h0 k)).1=qa (wI (zs.drop (zs.length-k))) % b∧qa (wI (sf b (Y0 hz h0 k)).2)=qa (wI (zs.drop (zs.length-k))) / b*4294967296^(zs.length-k)∧∀ j,j<zs.length-k→(sf b (Y0 hz h0 k)).2[j]?.getD 0=0
 | 0,_=>by
  have e:sf b (Y0 hz h0 0)=(0,List.replicate zs.length 0):=rfl
  have ev:qa (wI ([]:List Nat))=0:=rfl
  have ez:wI (List.replicate zs.length 0)=List.replicate zs.length 0:=List.map_replicate ..
  rw [e,Nat.sub_zero,List.drop_length,ev]
  refine ⟨(Nat.zero_mod b).symm,?_,fun j hj=>?_⟩
  · show qa (wI (List.replicate zs.length 0))=_
    rw [ez,YD,Nat.zero_div,Nat.zero_mul]
  · show (List.replicate zs.length 0)[j]?.getD 0=0
    rw [List.getElem?_replicate];split <;> rfl
 | k+1,hk=>by
  obtain ⟨i1,i2,i3⟩:=qpA hz h0 hb k (by omega)
  obtain ⟨m,hm⟩:∃ m,m=zs.length-1-k:=⟨_,rfl⟩
  have e1:zs.length-k=m+1:=by omega
  have e2:zs.length-(k+1)=m:=by omega
  rw [e1] at i1 i2 i3
  rw [e2,qhA,qjo]
  have hml:m<zs.length:=by omega
  have hq:=i3 m (by omega)
  have hlen:=qnt b (Y0 hz h0 k)
  have hlt:=qvP hb (Y0 hz h0 k)
  generalize sf b (Y0 hz h0 k)=s at *
  obtain ⟨R,Q⟩:=s
  simp only at i1 i2 i3 hq hlen hlt
  have hx:=qcx hz m
  have hA:=qAK zs m hml
  simp only [← hm]
  show (R*4294967296+zs[m]?.getD 0) % b=_∧qa (wI (Q.set m ((R*4294967296+zs[m]?.getD 0) / b % 4294967296)))=_∧∀ j,j<m→(Q.set m ((R*4294967296+zs[m]?.getD 0) / b % 4294967296))[j]?.getD 0=0
  generalize zs[m]?.getD 0=x at *
  generalize hA0:qa (wI (zs.drop (m+1)))=A at *
  rw [hA]
  have hdiv:=Nat.div_add_mod A b
  have hr1:x+4294967296*A=b*(4294967296*(A / b))+(R*4294967296+x):=by
   rw [i1]
   generalize A / b=p at *
   generalize A % b=t at *
   rw [← hdiv];grind
  have hr1b:(R*4294967296+x) / b<4294967296:=by
   rw [Nat.div_lt_iff_lt_mul hb]
   have:=Nat.mul_le_mul_right 4294967296 (show R+1≤b by omega)
   rw [Nat.mul_comm 4294967296 b];omega
  rw [hr1]
  refine ⟨?_,?_,fun j hj=>?_⟩
  · rw [Nat.mul_add_mod]
  · rw [Nat.mod_eq_of_lt hr1b,Nat.mul_add_div hb,qF0]
    have hs:=Zp (wI Q) m (((R*4294967296+x) / b:Nat):Int) (by rw [qhH];omega)
    rw [qFZ,hq,Int.toNat_natCast,i2,Nat.pow_succ] at hs
    generalize (R*4294967296+x) / b=d at *
    generalize A / b=p at *
    generalize 4294967296^m=P at *
    have hs:qa (List.set (wI Q) m (d:Int))+P*0=p*(P*4294967296)+P*d:=hs
    rw [Nat.mul_zero,Nat.add_zero] at hs
    rw [hs];grind
  · rw [List.getElem?_set_ne (by omega)];exact i3 j (by omega)
theorem qF1 {zs:List Nat} (hz:∀ z∈zs,z<4294967296) {b:Nat} (hb:0<b) {ys:List (Wo zs.length)} (h:All hz ys):(sf b ys).1=qa (wI zs) % b∧qa (wI (sf b ys).2)=qa (wI zs) / b:=by
 rcases h with ⟨rfl,h0⟩ | ⟨hl,rfl⟩
 · have:zs=[]:=List.eq_nil_of_length_eq_zero h0
   subst this
   exact ⟨(Nat.zero_mod b).symm,(Nat.zero_div b).symm⟩
 · obtain ⟨h1,h2,_⟩:=qpA hz hl hb zs.length (Nat.le_refl _)
   rw [Nat.sub_self,List.drop_zero] at h1 h2
   rw [Nat.pow_zero,Nat.mul_one] at h2
   exact ⟨h1,h2⟩
theorem qpB {V V':qc}:∀ {l:List T} {vs:List Value},(∀ x∈l,∃ v,x=T.s v)→RepA V l vs→RepA V' l vs
 | [],vs,_,h=>by cases h;exact .nil
 | x::l,vs,h,hr=>by
  cases hr with | cons h1 h2 =>
  obtain ⟨v,rfl⟩:=h x (List.mem_cons_self ..)
  cases h1 with | s h1=>exact .cons (.s h1) (qpB (fun y hy=>h y (List.mem_cons_of_mem _ hy)) h2)
theorem qlW:∀ (l:List (U 1)) (x:T),x∈(l.map (view 1)).flatMap T.cells→∃ v,x=T.s v
 | [],x,h=>by cases h
 | y::l,x,h=>by
  rcases List.mem_cons.1 (show x∈T.s (.int .u32 y)::(l.map (view 1)).flatMap T.cells from h) with rfl | h
  · exact ⟨_,rfl⟩
  · exact qlW l x h
def qhI (V:qc) (D:Nat):qc:=fun r=>if r=D then none else V r
theorem qlX {V:qc} {D:Nat} {l:List (U 1)} {v:Value} (hD:∀ arr e fr,V D≠some (.cells arr e fr)) (h:Rep V (.ql 1 1 l) v):Rep (qhI V D) (.ql 1 1 l) v:=by
 cases h with | ql h =>
 cases h with | sl a1 a2 a3 a4 a5 a6 =>
 refine .ql (.sl (qpB (qlW l) a1) a2 a3 a4 a5 (a6.imp id ?_))
 rintro ⟨b,off,e,h⟩
 refine ⟨b,off,e,fun j c hj=>?_⟩
 obtain ⟨arr,e,fr,h1,h2⟩:=h j c hj
 refine ⟨arr,e,fr,?_,h2⟩
 unfold qhI
 rw [if_neg (fun e2=>by subst e2;exact hD _ _ _ h1)]
 exact h1
theorem qAL {a:List Int} (h:Wd a):wI (a.map Int.toNat)=a:=by
 induction a with
 | nil=>rfl
 | cons x l ih =>
  have hx:=h.head
  show ((x.toNat:Nat):Int)::wI (l.map Int.toNat)=_
  rw [ih h.tail];congr 1;omega
theorem short_fing {V:qc} {a:List Int} {b:Nat} {v:Value} (ha:Wd a) (hb0:0<b) (hb1:b<4294967296) (hlen:a.length≤549755813888) (hr:Rep V (.ql 1 1 a) v) :
 yA Tryz.prog 191 #[v,.int .u32 (b:Int)] V [] fun v V' _=>∃ rvs,RepA V' [.ql 1 1 (ofN (qa a / b)),.ql 1 1 (ofN (qa a % b))] rvs∧v=J5 rvs:=by
 intro w hs _ _ _
 obtain ⟨zs,hzs⟩:∃ zs,a.map Int.toNat=zs:=⟨_,rfl⟩
 have hzl:zs.length=a.length:=by rw [← hzs,List.length_map]
 have hz:∀ z∈zs,z<4294967296:=by
  intro z hz
  rw [← hzs] at hz
  obtain ⟨x,hx,rfl⟩:=List.mem_map.1 hz
  have:=ha x hx;omega
 have hwz:wI zs=a:=by rw [← hzs];exact qAL ha
 have hW:∃ sa cap,v = .slice sa zs.length cap∧qhC w.heap.size w (.slice sa zs.length cap) zs:=by
  cases hr with | ql hr =>
  cases hr with | @sl _ _ vs ad cap a1 a2 a3 a4 a5 a6 =>
  have hl:(List.map (α:=U 1) (view 1) a).length=zs.length:=by rw [hzl];exact List.length_map ..
  refine ⟨ad,cap,by rw [hl],?_⟩
  rcases a6 with a6 | ⟨b2,off,rfl,a6⟩
  · have:zs.length=0:=by rw [← hl,a6];rfl
    exact .inl ⟨List.eq_nil_of_length_eq_zero this,ad,cap,by rw [this]⟩
  · by_cases h0:zs.length=0
    · exact .inl ⟨List.eq_nil_of_length_eq_zero h0,_,cap,by rw [h0]⟩
    have hvs:vs=zs.map vW:=by
     have e:=qcz zs
     rw [hwz] at e
     rw [e] at a1
     clear e a6 hl hzs hzl hwz h0
     induction zs generalizing vs with
     | nil=>cases a1;rfl
     | cons x l ih =>
      cases a1 with | cons k1 k2 =>
      cases k1 with | s k1 =>
      rw [List.map_cons,ih (fun z hz2=>hz z (List.mem_cons_of_mem _ hz2)) k2]
    have hrd:∀ j,j<zs.length→rd V b2 (off+j) (vW (zs[j]?.getD 0)):=fun j hj=>a6 j _ (by rw [hvs,List.getElem?_map,List.getElem?_eq_getElem hj];rfl)
    refine .inr ⟨b2,off,cap,rfl,?_,fun j hj=>?_⟩
    · obtain ⟨arr,e,fr,h1,_⟩:=hrd 0 (by omega)
      exact (Array.getElem?_eq_some_iff.1 (hs _ _ h1)).1
    · obtain ⟨arr,e,fr,h1,h2⟩:=hrd j hj
      exact ZH (hs _ _ h1) h2
 obtain ⟨sa,cap,rfl,hI⟩:=hW
 refine callsIn_wide.1 (qvS Fence.wide 3 trivial trivial trivial rfl (Nat.le_refl _) sa cap b hb0 hb1 zs hz (by omega) w hI ?_)
 intro D ys W Kc hK hD hA hInv hB hDh
 have hlt:=qvP hb0 ys
 obtain ⟨m1,m2⟩:=qF1 hz hb0 hA
 rw [hwz] at m1 m2
 refine qAJ hs hB (Nat.le_refl _) hD hInv.h1 (qnt b ys) (qH0 ys) (by omega) hInv.h2 hInv.h3 (by omega) hDh hK ?_
 rintro v1 v2 V1 V2 W2 hx r1 r2 hD2 _
 rw [m2] at r1
 rw [m1] at r2
 have hnD:∀ arr e fr,V1 D≠some (.cells arr e fr):=fun arr e fr h=>by
  have:=hx.view D _ h
  rw [hD2] at this;cases this
 have hoth:∀ r,r≠D→(W2.putObj D (.deferred none)).heap[r]?=W2.heap[r]?:=fun r hr=>World.putObj_heap_other hr
 refine ⟨_,qhI V1 D,[],rfl,⟨⟨hx.ext.os,hx.ext.tape,hx.ext.output,by have:=hx.ext.size;simpa using this,fun k hk _=>(hoth k (by have:k<w.heap.size:=hk;omega)).trans (hx.ext.block k hk (fun h=>h))⟩,
  fun r o hr=>?_,(fun _ hp=>(List.not_mem_nil hp).elim),(fun _ hp=>(List.not_mem_nil hp).elim),.nil,fun r o hr=>?_,fun r h1 h2=>?_⟩,[v1,v2],.cons (qlX hnD r1) (.cons (qlX hnD r2) .nil),rfl⟩
 · unfold qhI at hr
   by_cases e:r=D
   · rw [if_pos e] at hr;cases hr
   · rw [if_neg e] at hr;exact (hoth r e).trans (hx.view r o hr)
 · have hlt2:r<w.heap.size:=(Array.getElem?_eq_some_iff.1 (hs r o hr)).1
   unfold qhI
   rw [if_neg (by omega)];exact hx.sub r o hr
 · unfold qhI at h2
   by_cases e:r=D
   · rw [if_pos e] at h2;exact absurd rfl h2
   · rw [if_neg e] at h2
     exact (hx.newer r h1 h2).imp id False.elim
end Go.Proofs.Sho
end
section
namespace Fly
open Go Go.Proofs Su
set_option maxRecDepth 10000
noncomputable def tbN:Tabs Tryz.prog:=Su.qi.sound.tb
section
variable {P:Program} {n:Nat} {X:Cx} {L:Lo} {V:qc} {G:Own} {Q:Value→qc→Own→Prop}
variable {ty:TypeId} {pos:String} {af:Array Edge} {gd:Option (Nat×Bool)} {ds:Option Tmp}
theorem qjt {t e:TypeId} {a:Option Addr} {len cap:Nat} (hu:P.underlying t=some (.slice e)) (w:World):(Op.equal t (.slice a len cap) (.slice none 0 0)).run P w = .ok a.isNone w:=by
 show (Op.equalIn (9999+1) t (.slice a len cap) (.slice none 0 0)).run P w=_
 unfold Op.equalIn
 rw [Sem.run_bind,Fly.run_underlying hu]
 cases a <;> rfl
theorem qgf {t u e:TypeId} {x y:Operand} {a:Option Addr} {len cap:Nat} (hx:ev L x=some (.slice a len cap)) (hy:ev L y=some (.slice none 0 0)) (hu:P.underlying t=some (.slice e)) (k:Q (.bool a.isNone) V G) :
 Opr P n X L V G ⟨ds,.binOp .eql t x y u,ty,pos,af,gd⟩ Q:=qmh hx hy rfl (fun w=>by simp [eqGuard]) (qjt hu) k
end
attribute [local irreducible] WC WE WR Opr St Go.Calls qxL qDr qjY Rel yA qG9 qDs Owe One qmc Go.CallsD
theorem qF2 {V:qc} {len cap:Nat} {Q:Value→qc→Own→Prop} (hQ:Q (.slice none 0 0) V []):yA Tryz.prog 190 #[.slice none len cap] V [] Q:=by
 refine QZ (args:=[_]) Tryz.func190 rfl Tryz.ntmps190 rfl ?_
 intro X w hM hb hw hV0 hR;dsimp only [qau,Nat.zero_add,Nat.reduceAdd]
 (repeat' (first | refine qcC ?_ | refine QM ?_ | refine qcF ?_ | refine ZS ?_ | refine JX ?_ | refine ZP ?_ | refine qcE ?_ | refine ZQ ?_ | refine jX ?_ | refine jL ?_ | refine yP rfl ?_ | refine yk ?_ | refine qcD ?_ | ((first | refine qaF rfl ?_ | refine qbm ?_ | refine qjS rfl rfl rfl ?_);(first | (refine qgf (e:=175) rfl rfl (by kernel_rfl) ?_) | refine ZT rfl ?_ | refine QN rfl ?_ | refine qcI rfl rfl ?_ | refine qcJ rfl rfl ?_ | refine qcK rfl rfl ?_ | refine qcL rfl rfl ?_ | refine qcM rfl rfl ?_ | refine qcN rfl rfl ?_ | refine yQ rfl rfl ?_ | refine qcQ rfl ?_ | refine QP rfl rfl ?_ | refine QQ rfl rfl ?_ | refine qbn rfl rfl (by omega) (by omega) ?_ | refine qbo rfl rfl (by omega) (by omega) ?_ | refine qbp rfl rfl (by omega) (by omega) ?_ | refine qaG rfl rfl ?_ | refine qaH rfl rfl ?_ | refine qaI rfl rfl ?_ | refine jt tbN rfl rfl ?_ | refine yS tbN rfl rfl rfl ?_ | refine qcG rfl rfl ?_ | refine qgu rfl rfl ?_ | refine qcH rfl rfl ?_ | refine QO rfl rfl ?_ | refine qcO rfl rfl (by decide) ?_ | refine qcP rfl rfl (by decide) ?_ | refine qc0 rfl rfl ?_ | refine ZZ rfl rfl ?_ | refine qbw rfl rfl (by kernel_rfl) ?_ | refine Zb rfl rfl (by kernel_rfl) ?_ | refine yR tbN rfl rfl rfl ?_ | refine qcR rfl ?_ | refine QW tbN rfl rfl rfl ?_ | (apply Y2 tbN rfl rfl;(· (first | (refine At.own (?_);repeat (first | exact Has.here | refine Has.there ?_)) | exact At.seen (by assumption)));(· exact rfl)) | (apply JY tbN rfl rfl;(· (first | (refine At.own (?_);repeat (first | exact Has.here | refine Has.there ?_)) | exact At.seen (by assumption)));(· exact rfl)) | (apply JZ tbN rfl rfl rfl rfl rfl;(· (repeat (first | exact Upd.here | apply Upd.there)));(· exact rfl)) | (apply J0 tbN rfl rfl rfl rfl rfl;(· (repeat (first | exact Upd.here | apply Upd.there)));(· exact rfl)) | (apply QY tbN (by kernel_rfl) rfl (rfl:tbN.fo _ 0=_);(· (repeat (first | exact Fill.nil | (apply Fill.cons;(· exact rfl);(· exact rfl);(· exact rfl);(· exact rfl);(· exact rfl)))))) | (refine Qb rfl ?_;intro b) | (refine Yr rfl rfl ?_;intro b) | (refine QX tbN rfl ?_;intro b) | (apply jz tbN;(· exact rfl);(· exact rfl);(· exact rfl);(· decide);(· (repeat (first | exact Cat.nil | (apply Cat.cons;(· exact rfl);(· exact rfl);(· exact rfl)) | exact App.nil | apply App.cons)));intro b))) | refine qrF rfl rfl rfl rfl ?_ | refine QK rfl ?_ | refine QL rfl ?_ | refine qjT rfl (fun _=>?_) (fun _=>?_) | refine qe3 rfl (fun _=>?_) (fun _=>?_) | refine Y3 rfl rfl (fun _=>?_) (fun _=>?_) | refine Y4 rfl rfl (fun _=>?_) (fun _=>?_) | refine qbx rfl (fun _=>?_) (fun _=>?_) | refine qfl rfl (fun _=>?_) (fun _=>?_) | refine J4 rfl rfl (fun _=>?_) (fun _=>?_) | refine Zc rfl rfl (fun _=>?_) (fun _=>?_)))
 exact qfb hM hw hV0 hR [] (List.Sublist.refl _) (qDo rfl rfl) hQ
theorem qF3 {V:qc} {a:Addr} {cap:Nat} {Q:Value→qc→Own→Prop} (hQ:∀ b,Q (.slice (some ⟨b,0,none⟩) 0 0) V [(b,.cells #[] 175 (0,0))]):yA Tryz.prog 190 #[.slice (some a) 0 cap] V [] Q:=by
 refine QZ (args:=[_]) Tryz.func190 rfl Tryz.ntmps190 rfl ?_
 intro X w hM hb hw hV0 hR;dsimp only [qau,Nat.zero_add,Nat.reduceAdd]
 (repeat' (first | refine qcC ?_ | refine QM ?_ | refine qcF ?_ | refine ZS ?_ | refine JX ?_ | refine ZP ?_ | refine qcE ?_ | refine ZQ ?_ | refine jX ?_ | refine jL ?_ | refine yP rfl ?_ | refine yk ?_ | refine qcD ?_ | ((first | refine qaF rfl ?_ | refine qbm ?_ | refine qjS rfl rfl rfl ?_);(first | (refine qgf (e:=175) rfl rfl (by kernel_rfl) ?_) | refine ZT rfl ?_ | refine QN rfl ?_ | refine qcI rfl rfl ?_ | refine qcJ rfl rfl ?_ | refine qcK rfl rfl ?_ | refine qcL rfl rfl ?_ | refine qcM rfl rfl ?_ | refine qcN rfl rfl ?_ | refine yQ rfl rfl ?_ | refine qcQ rfl ?_ | refine QP rfl rfl ?_ | refine QQ rfl rfl ?_ | refine qbn rfl rfl (by omega) (by omega) ?_ | refine qbo rfl rfl (by omega) (by omega) ?_ | refine qbp rfl rfl (by omega) (by omega) ?_ | refine qaG rfl rfl ?_ | refine qaH rfl rfl ?_ | refine qaI rfl rfl ?_ | refine jt tbN rfl rfl ?_ | refine yS tbN rfl rfl rfl ?_ | refine qcG rfl rfl ?_ | refine qgu rfl rfl ?_ | refine qcH rfl rfl ?_ | refine QO rfl rfl ?_ | refine qcO rfl rfl (by decide) ?_ | refine qcP rfl rfl (by decide) ?_ | refine qc0 rfl rfl ?_ | refine ZZ rfl rfl ?_ | refine qbw rfl rfl (by kernel_rfl) ?_ | refine Zb rfl rfl (by kernel_rfl) ?_ | refine yR tbN rfl rfl rfl ?_ | refine qcR rfl ?_ | refine QW tbN rfl rfl rfl ?_ | (apply Y2 tbN rfl rfl;(· (first | (refine At.own (?_);repeat (first | exact Has.here | refine Has.there ?_)) | exact At.seen (by assumption)));(· exact rfl)) | (apply JY tbN rfl rfl;(· (first | (refine At.own (?_);repeat (first | exact Has.here | refine Has.there ?_)) | exact At.seen (by assumption)));(· exact rfl)) | (apply JZ tbN rfl rfl rfl rfl rfl;(· (repeat (first | exact Upd.here | apply Upd.there)));(· exact rfl)) | (apply J0 tbN rfl rfl rfl rfl rfl;(· (repeat (first | exact Upd.here | apply Upd.there)));(· exact rfl)) | (apply QY tbN (by kernel_rfl) rfl (rfl:tbN.fo _ 0=_);(· (repeat (first | exact Fill.nil | (apply Fill.cons;(· exact rfl);(· exact rfl);(· exact rfl);(· exact rfl);(· exact rfl)))))) | (refine Qb rfl ?_;intro b) | (refine Yr rfl rfl ?_;intro b) | (refine QX tbN rfl ?_;intro b) | (apply jz tbN;(· exact rfl);(· exact rfl);(· exact rfl);(· decide);(· (repeat (first | exact Cat.nil | (apply Cat.cons;(· exact rfl);(· exact rfl);(· exact rfl)) | exact App.nil | apply App.cons)));intro b))) | refine qrF rfl rfl rfl rfl ?_ | refine QK rfl ?_ | refine QL rfl ?_ | refine qjT rfl (fun _=>?_) (fun _=>?_) | refine qe3 rfl (fun _=>?_) (fun _=>?_) | refine Y3 rfl rfl (fun _=>?_) (fun _=>?_) | refine Y4 rfl rfl (fun _=>?_) (fun _=>?_) | refine qbx rfl (fun _=>?_) (fun _=>?_) | refine qfl rfl (fun _=>?_) (fun _=>?_) | refine J4 rfl rfl (fun _=>?_) (fun _=>?_) | refine Zc rfl rfl (fun _=>?_) (fun _=>?_)))
 refine qaF rfl (qaO (e:=175) (k:=1) tbN rfl rfl rfl (Nat.le_refl 0) ?_)
 (repeat' (first | refine qcC ?_ | refine QM ?_ | refine qcF ?_ | refine ZS ?_ | refine JX ?_ | refine ZP ?_ | refine qcE ?_ | refine ZQ ?_ | refine jX ?_ | refine jL ?_ | refine yP rfl ?_ | refine yk ?_ | refine qcD ?_ | ((first | refine qaF rfl ?_ | refine qbm ?_ | refine qjS rfl rfl rfl ?_);(first | refine ZT rfl ?_ | refine QN rfl ?_ | refine qcI rfl rfl ?_ | refine qcJ rfl rfl ?_ | refine qcK rfl rfl ?_ | refine qcL rfl rfl ?_ | refine qcM rfl rfl ?_ | refine qcN rfl rfl ?_ | refine yQ rfl rfl ?_ | refine qcQ rfl ?_ | refine QP rfl rfl ?_ | refine QQ rfl rfl ?_ | refine qbn rfl rfl (by omega) (by omega) ?_ | refine qbo rfl rfl (by omega) (by omega) ?_ | refine qbp rfl rfl (by omega) (by omega) ?_ | refine qaG rfl rfl ?_ | refine qaH rfl rfl ?_ | refine qaI rfl rfl ?_ | refine jt tbN rfl rfl ?_ | refine yS tbN rfl rfl rfl ?_ | refine qcG rfl rfl ?_ | refine qgu rfl rfl ?_ | refine qcH rfl rfl ?_ | refine QO rfl rfl ?_ | refine qcO rfl rfl (by decide) ?_ | refine qcP rfl rfl (by decide) ?_ | refine qc0 rfl rfl ?_ | refine ZZ rfl rfl ?_ | refine qbw rfl rfl (by kernel_rfl) ?_ | refine Zb rfl rfl (by kernel_rfl) ?_ | refine yR tbN rfl rfl rfl ?_ | refine qcR rfl ?_ | refine QW tbN rfl rfl rfl ?_ | (apply Y2 tbN rfl rfl;(· (first | (refine At.own (?_);repeat (first | exact Has.here | refine Has.there ?_)) | exact At.seen (by assumption)));(· exact rfl)) | (apply JY tbN rfl rfl;(· (first | (refine At.own (?_);repeat (first | exact Has.here | refine Has.there ?_)) | exact At.seen (by assumption)));(· exact rfl)) | (apply JZ tbN rfl rfl rfl rfl rfl;(· (repeat (first | exact Upd.here | apply Upd.there)));(· exact rfl)) | (apply J0 tbN rfl rfl rfl rfl rfl;(· (repeat (first | exact Upd.here | apply Upd.there)));(· exact rfl)) | (apply QY tbN (by kernel_rfl) rfl (rfl:tbN.fo _ 0=_);(· (repeat (first | exact Fill.nil | (apply Fill.cons;(· exact rfl);(· exact rfl);(· exact rfl);(· exact rfl);(· exact rfl)))))) | (refine Qb rfl ?_;intro b) | (refine Yr rfl rfl ?_;intro b) | (refine QX tbN rfl ?_;intro b) | (apply jz tbN;(· exact rfl);(· exact rfl);(· exact rfl);(· decide);(· (repeat (first | exact Cat.nil | (apply Cat.cons;(· exact rfl);(· exact rfl);(· exact rfl)) | exact App.nil | apply App.cons)));intro b))) | refine qrF rfl rfl rfl rfl ?_ | refine QK rfl ?_ | refine QL rfl ?_ | refine qjT rfl (fun _=>?_) (fun _=>?_) | refine qe3 rfl (fun _=>?_) (fun _=>?_) | refine Y3 rfl rfl (fun _=>?_) (fun _=>?_) | refine Y4 rfl rfl (fun _=>?_) (fun _=>?_) | refine qbx rfl (fun _=>?_) (fun _=>?_) | refine qfl rfl (fun _=>?_) (fun _=>?_) | refine J4 rfl rfl (fun _=>?_) (fun _=>?_) | refine Zc rfl rfl (fun _=>?_) (fun _=>?_)))
 exact qfb hM hw hV0 hR [(b,.cells #[] 175 (0,0))] (List.Sublist.refl _) (qDo rfl rfl) (hQ b)
theorem qF4 {V:qc} {bb off len cap:Nat} {news:List Value} {Q:Value→qc→Own→Prop} (hn:news.length=len*1) (h1:∀ u∈news,u.oneCell'=true) (hr:∀ (j:Nat) (u:Value),news[j]?=some u→rd V bb (off+j) u) (h0:0<len) (hl:len≤549755813888)
 (hQ:∀ v' Gr',Row 175 1 v' Gr' len news→Q v' V Gr'):yA Tryz.prog 190 #[.slice (some ⟨bb,off,none⟩) len cap] V [] Q:=by
 refine QZ (args:=[_]) Tryz.func190 rfl Tryz.ntmps190 rfl ?_
 intro X w hM hb hw hV0 hR;dsimp only [qau,Nat.zero_add,Nat.reduceAdd]
 (repeat' (first | refine qcC ?_ | refine QM ?_ | refine qcF ?_ | refine ZS ?_ | refine JX ?_ | refine ZP ?_ | refine qcE ?_ | refine ZQ ?_ | refine jX ?_ | refine jL ?_ | refine yP rfl ?_ | refine yk ?_ | refine qcD ?_ | ((first | refine qaF rfl ?_ | refine qbm ?_ | refine qjS rfl rfl rfl ?_);(first | (refine qgf (e:=175) rfl rfl (by kernel_rfl) ?_) | refine ZT rfl ?_ | refine QN rfl ?_ | refine qcI rfl rfl ?_ | refine qcJ rfl rfl ?_ | refine qcK rfl rfl ?_ | refine qcL rfl rfl ?_ | refine qcM rfl rfl ?_ | refine qcN rfl rfl ?_ | refine yQ rfl rfl ?_ | refine qcQ rfl ?_ | refine QP rfl rfl ?_ | refine QQ rfl rfl ?_ | refine qbn rfl rfl (by omega) (by omega) ?_ | refine qbo rfl rfl (by omega) (by omega) ?_ | refine qbp rfl rfl (by omega) (by omega) ?_ | refine qaG rfl rfl ?_ | refine qaH rfl rfl ?_ | refine qaI rfl rfl ?_ | refine jt tbN rfl rfl ?_ | refine yS tbN rfl rfl rfl ?_ | refine qcG rfl rfl ?_ | refine qgu rfl rfl ?_ | refine qcH rfl rfl ?_ | refine QO rfl rfl ?_ | refine qcO rfl rfl (by decide) ?_ | refine qcP rfl rfl (by decide) ?_ | refine qc0 rfl rfl ?_ | refine ZZ rfl rfl ?_ | refine qbw rfl rfl (by kernel_rfl) ?_ | refine Zb rfl rfl (by kernel_rfl) ?_ | refine yR tbN rfl rfl rfl ?_ | refine qcR rfl ?_ | refine QW tbN rfl rfl rfl ?_ | (apply Y2 tbN rfl rfl;(· (first | (refine At.own (?_);repeat (first | exact Has.here | refine Has.there ?_)) | exact At.seen (by assumption)));(· exact rfl)) | (apply JY tbN rfl rfl;(· (first | (refine At.own (?_);repeat (first | exact Has.here | refine Has.there ?_)) | exact At.seen (by assumption)));(· exact rfl)) | (apply JZ tbN rfl rfl rfl rfl rfl;(· (repeat (first | exact Upd.here | apply Upd.there)));(· exact rfl)) | (apply J0 tbN rfl rfl rfl rfl rfl;(· (repeat (first | exact Upd.here | apply Upd.there)));(· exact rfl)) | (apply QY tbN (by kernel_rfl) rfl (rfl:tbN.fo _ 0=_);(· (repeat (first | exact Fill.nil | (apply Fill.cons;(· exact rfl);(· exact rfl);(· exact rfl);(· exact rfl);(· exact rfl)))))) | (refine Qb rfl ?_;intro b) | (refine Yr rfl rfl ?_;intro b) | (refine QX tbN rfl ?_;intro b) | (apply jz tbN;(· exact rfl);(· exact rfl);(· exact rfl);(· decide);(· (repeat (first | exact Cat.nil | (apply Cat.cons;(· exact rfl);(· exact rfl);(· exact rfl)) | exact App.nil | apply App.cons)));intro b))) | refine qrF rfl rfl rfl rfl ?_ | refine QK rfl ?_ | refine QL rfl ?_ | refine qjT rfl (fun _=>?_) (fun _=>?_) | refine qe3 rfl (fun _=>?_) (fun _=>?_) | refine Y3 rfl rfl (fun _=>?_) (fun _=>?_) | refine Y4 rfl rfl (fun _=>?_) (fun _=>?_) | refine qbx rfl (fun _=>?_) (fun _=>?_) | refine qfl rfl (fun _=>?_) (fun _=>?_) | refine J4 rfl rfl (fun _=>?_) (fun _=>?_) | refine Zc rfl rfl (fun _=>?_) (fun _=>?_)))
 refine qaF rfl (qaP (e:=175) (k:=1) (m:=0) (z:=[.int .u32 0]) (Gr:=[(b,.cells #[] 175 (0,0))]) (G1:=[]) (xs:=[]) (news:=news) tbN rfl rfl rfl (Nat.le_of_ble_eq_true (by kernel_rfl)) rfl rfl (fun w hw j u hj=>?_) hn h1 (Row.some (g:=b) (cur:=#[]) (Nat.le_refl 0) (by simp [maxLen]) rfl rfl) (List.Perm.refl _) h0 (by omega) fun v' Gr' hR'=>?_)
 · obtain ⟨arr,e,f0,q1,q2⟩:=hr j u hj
   rw [yz,yi (hw.view _ _ q1)];exact q2
 · (repeat' (first | refine qcC ?_ | refine QM ?_ | refine qcF ?_ | refine ZS ?_ | refine JX ?_ | refine ZP ?_ | refine qcE ?_ | refine ZQ ?_ | refine jX ?_ | refine jL ?_ | refine yP rfl ?_ | refine yk ?_ | refine qcD ?_ | ((first | refine qaF rfl ?_ | refine qbm ?_ | refine qjS rfl rfl rfl ?_);(first | refine ZT rfl ?_ | refine QN rfl ?_ | refine qcI rfl rfl ?_ | refine qcJ rfl rfl ?_ | refine qcK rfl rfl ?_ | refine qcL rfl rfl ?_ | refine qcM rfl rfl ?_ | refine qcN rfl rfl ?_ | refine yQ rfl rfl ?_ | refine qcQ rfl ?_ | refine QP rfl rfl ?_ | refine QQ rfl rfl ?_ | refine qbn rfl rfl (by omega) (by omega) ?_ | refine qbo rfl rfl (by omega) (by omega) ?_ | refine qbp rfl rfl (by omega) (by omega) ?_ | refine qaG rfl rfl ?_ | refine qaH rfl rfl ?_ | refine qaI rfl rfl ?_ | refine jt tbN rfl rfl ?_ | refine yS tbN rfl rfl rfl ?_ | refine qcG rfl rfl ?_ | refine qgu rfl rfl ?_ | refine qcH rfl rfl ?_ | refine QO rfl rfl ?_ | refine qcO rfl rfl (by decide) ?_ | refine qcP rfl rfl (by decide) ?_ | refine qc0 rfl rfl ?_ | refine ZZ rfl rfl ?_ | refine qbw rfl rfl (by kernel_rfl) ?_ | refine Zb rfl rfl (by kernel_rfl) ?_ | refine yR tbN rfl rfl rfl ?_ | refine qcR rfl ?_ | refine QW tbN rfl rfl rfl ?_ | (apply Y2 tbN rfl rfl;(· (first | (refine At.own (?_);repeat (first | exact Has.here | refine Has.there ?_)) | exact At.seen (by assumption)));(· exact rfl)) | (apply JY tbN rfl rfl;(· (first | (refine At.own (?_);repeat (first | exact Has.here | refine Has.there ?_)) | exact At.seen (by assumption)));(· exact rfl)) | (apply JZ tbN rfl rfl rfl rfl rfl;(· (repeat (first | exact Upd.here | apply Upd.there)));(· exact rfl)) | (apply J0 tbN rfl rfl rfl rfl rfl;(· (repeat (first | exact Upd.here | apply Upd.there)));(· exact rfl)) | (apply QY tbN (by kernel_rfl) rfl (rfl:tbN.fo _ 0=_);(· (repeat (first | exact Fill.nil | (apply Fill.cons;(· exact rfl);(· exact rfl);(· exact rfl);(· exact rfl);(· exact rfl)))))) | (refine Qb rfl ?_;intro b) | (refine Yr rfl rfl ?_;intro b) | (refine QX tbN rfl ?_;intro b) | (apply jz tbN;(· exact rfl);(· exact rfl);(· exact rfl);(· decide);(· (repeat (first | exact Cat.nil | (apply Cat.cons;(· exact rfl);(· exact rfl);(· exact rfl)) | exact App.nil | apply App.cons)));intro b))) | refine qrF rfl rfl rfl rfl ?_ | refine QK rfl ?_ | refine QL rfl ?_ | refine qjT rfl (fun _=>?_) (fun _=>?_) | refine qe3 rfl (fun _=>?_) (fun _=>?_) | refine Y3 rfl rfl (fun _=>?_) (fun _=>?_) | refine Y4 rfl rfl (fun _=>?_) (fun _=>?_) | refine qbx rfl (fun _=>?_) (fun _=>?_) | refine qfl rfl (fun _=>?_) (fun _=>?_) | refine J4 rfl rfl (fun _=>?_) (fun _=>?_) | refine Zc rfl rfl (fun _=>?_) (fun _=>?_)))
   rw [List.append_nil]
   refine qfb hM hw hV0 hR Gr' (List.Sublist.refl _) (qDo rfl rfl) (hQ _ _ ?_)
   rw [Nat.zero_add,List.nil_append] at hR'
   exact hR'
end Fly
namespace Su
open Go Go.Proofs Fly
theorem qnv (l:List T):sub l 0 l.length=some l:=Ju l
theorem qju {P:Program} {f:Nat} {V:qc} {vs:List Value} {l:List T} {e w:Nat}
 (h:yA P f vs.toArray V [] fun v V' G'=>∃ ie,RepOB V' [ie] (.row false e w l) ie G'∧RepS V' [ie] (.osl 0 0 l.length) v):yA P f vs.toArray V [] fun v V' _=>∃ rvs,RepA V' [.sl w l] rvs∧v=J5 rvs:=by
 intro w0 hs hG hV hnd
 refine (h w0 hs hG hV hnd).mono ?_
 rintro ex w' ⟨v,V',G',rfl,hh,ie,m1,m2⟩
 have hsub:sub l 0 l.length=some l:=qnv l
 have hz:toTs 64 ⟨[],[],[.row false e w l]⟩ [.osl 0 0 l.length]=some ([.sl w l],(St.mk [] [] [.row false e w l]).frow 0 w l):=by
  simp only [toTs,toT,List.getElem?_cons_zero,hsub,Option.bind_some]
 obtain ⟨V2,G2,g2,s2,r2,_⟩:=(Qg (I:=[ie]) (L:=[]) 64).2 ⟨[],[],[.row false e w l]⟩ _ [.osl 0 0 l.length] _ hz V' G' [v] (.cons m2 .nil) ⟨⟨G'++[],.cons m1 .nil,by rw [List.append_nil]⟩,fun d sv hd _=>by simp [St.look] at hd⟩ ⟨fun p hp=>(hh.free p (by simp [hp])).2,by have:=hh.nodup;simpa using this⟩
 exact ⟨_,V2,G2,rfl,g2.holds _ _ hh,[v],r2,rfl⟩
noncomputable def qwb:PrimD:=⟨List Int,fun xs=>((d1 (cQ 1 1)).dec xs).bind fun l=>bif qk6 l then some l else none,fun l=>[.sl 1 (l.map eW)],none,some (175,1),fun _=>none⟩
theorem qnw {V:qc} {v:Value} {l:List T} (hl:l.length≤549755813888) (h:Rep V (.sl 1 l) v) :
 yA Tryz.prog 190 #[v] V [] fun v' V' G'=>∃ ie,RepOB V' [ie] (.row false 175 1 l) ie G'∧RepS V' [ie] (.osl 0 0 l.length) v':=by
 cases h with | @sl _ _ vs a cap a1 a2 a3 a4 a5 a6 =>
 have hn:vs.length=l.length*1:=by rw [← a1.length,Qf a3]
 by_cases h0:l=[]
 · subst h0
   cases a with
   | none=>exact qF2 ⟨.vrow,.vrow,.oslv rfl⟩
   | some a=>exact qF3 fun b=>⟨.row b 1 0,.row (by simp) (by simp [maxLen]) (by simp) (by simpa using RepA.nil) (by simp) (by simp),by
    have:=RepS.osl (V:=V) (I:=[IE.row b 1 0]) (n:=0) (off:=0) (len:=0) (b:=b) (k:=1) (ct:=0) rfl (by omega) (by simp [maxLen])
    simpa using this⟩
 · have hpos:0<l.length:=List.length_pos_iff.2 h0
   rcases a6 with a6 | ⟨b,off,rfl,a6⟩
   · exact absurd a6 h0
   · refine qF4 hn (Q7 a1 a2) a6 hpos hl fun v' Gr' hR=>?_
     obtain ⟨b',ct,rfl,b1,b2,b3⟩:=qsu (V:=V) (I:=[.row 0 0 0]) (l:=l) hR hpos rfl a1 a2 a3
     refine ⟨.row b' 1 ct,b3.row_any,?_⟩
     have:=RepS.osl (V:=V) (I:=[IE.row b' 1 ct]) (n:=0) (off:=0) (len:=l.length) (b:=b') (k:=1) (ct:=ct) rfl (by omega) b2
     rw [Nat.zero_mul,Nat.sub_zero] at this
     exact this
theorem qlY (xs:List T) (y:List Int) (h:((d1 (cQ 1 1)).dec xs).bind (fun l=>bif qk6 l then some l else none)=some y) (V:qc) (vs:List Value) (hr:RepA V xs vs) :
 yA Tryz.prog 190 vs.toArray V [] fun v V' G'=>∃ ie,RepOB V' [ie] (.row false 175 1 (y.map eW)) ie G'∧RepS V' [ie] (.osl 0 0 (y.map eW).length) v:=by
 obtain ⟨l,h1,h2⟩:=osm h
 obtain ⟨h3,h4⟩:=qj h2
 have:=soi h4;subst this
 have hr2:=(d1 (cQ 1 1)).rep h1 hr
 cases hr2 with | cons k1 k2=>cases k2 with | nil =>
 cases k1 with | ql k1 =>
 exact qnw (l:=l.map eW) (by have h5:(l.map (view 1)).length=l.length:=List.length_map ..;rw [show (List.map eW l).length=l.length from h5];exact Nat.le_of_ble_eq_true h3) k1
theorem qwc:Ok1 Tryz.prog Su.tb qi.sound 190 qwb:=by
 refine ⟨by kernel_rfl,fun xs y h V vs _ hr=>qju (qlY xs y h V vs hr),fun j hj xs y h V vs _ hr=>?_⟩
 have hj:some ((175,1):Nat×Nat)=some j:=hj
 simp only [Option.some.injEq] at hj;subst hj
 intro w0 a1 a2 a3 a4
 refine (qlY xs y h V vs hr w0 a1 a2 a3 a4).mono ?_
 rintro e w' ⟨v,V',G',rfl,hh,ie,m1,m2⟩
 refine ⟨v,V',G',rfl,hh,fun w l he hw=>?_⟩
 have he:[T.sl 1 (y.map eW)]=[.sl w l]:=he
 simp only [List.cons.injEq,T.sl.injEq,and_true] at he
 obtain ⟨rfl,rfl⟩:=he
 exact ⟨ie,m1,m2⟩
end Su
end
section
namespace Su
open Go Go.Proofs Fly
noncomputable def qpC:PrimD:=prim (dc (cQ 1 1) (d1 (cI .u32))) (dc (cQ 1 1) (d1 (cQ 1 1))) qb2
theorem qAM:Ok1 Tryz.prog tb qi.sound 191 qpC:=by
 refine ⟨by kernel_rfl,fun xs y h V vs _ hr=>?_,fun j hj=>nomatch hj⟩
 obtain ⟨p,h1,h2⟩:=osm (show ((dc (cQ 1 1) (d1 (cI .u32))).dec xs).bind qb2=some y from h)
 have hr2:=(dc (cQ 1 1) (d1 (cI .u32))).rep h1 hr
 have hg:=(dc (cQ 1 1) (d1 (cI .u32))).rng hr2
 obtain ⟨a,b⟩:=p
 obtain ⟨h3,h4⟩:=qj h2
 have:=soi h4;subst this
 rw [Bool.and_eq_true,decide_eq_true_eq] at h3
 obtain ⟨⟨ha,la⟩,hb⟩:=hg
 have hb:=qey.1 hb
 obtain ⟨h3a,h3b⟩:=h3
 have h3a:0<b:=h3a
 obtain ⟨B,rfl⟩:∃ B:Nat,b=(B:Int):=⟨b.toNat,by omega⟩
 cases hr2 with | cons k1 k2 =>
 cases k2 with | cons k2 k3 =>
 cases k3 with | nil =>
 cases k2 with | s k2 =>
 exact Go.Proofs.Sho.short_fing (Wd.of ha) (by omega) (by have:=hb.2;omega) (Nat.le_of_ble_eq_true h3b) k1
noncomputable def qpD:PrimD:=prim (d1 (cQ 1 1)) (d1 (cQ 1 1)) Qc
theorem qAN:Ok1 Tryz.prog tb qi.sound 190 qpD:=by
 refine ⟨by kernel_rfl,fun xs y h V vs hg hr=>?_,fun j hj=>nomatch hj⟩
 have hF:=qwc.2.1 xs y h V vs hg hr
 intro w a1 a2 a3 a4
 refine (hF w a1 a2 a3 a4).mono ?_
 rintro e w' ⟨v,V',G',rfl,hh,rvs,m1,rfl⟩
 refine ⟨_,V',G',rfl,hh,rvs,?_,rfl⟩
 have m1:RepA V' [.sl 1 (List.map (view 1) (y:List (U 1)))] rvs:=m1
 cases m1 with | cons k1 k2=>cases k2 with | nil=>exact .cons (.ql k1) .nil
noncomputable def qjv:qu:=qR [(190,qpD),(191,qpC)] qv9
theorem qhJ:qo Tryz.prog tb qi.sound qjv:=qn qrh (qe qAN (qe qAM qr))
end Su
end
section
namespace Su
open Go Go.Proofs Fly
set_option maxRecDepth 100000
theorem qF5 (fu:Nat) (a:(List Int)) (b:(List Int)):qq tb qjv (shN tb qjv fu 9) fu 147 ((dc (cQ 1 1) (d1 (cQ 1 1))).enc (a,b)) ((dc (cQ 1 1) (dc (cQ 1 1) (d1 (cI .i64))))).dec=Div fu a b:=by kernel_rfl
noncomputable def qC9:PrimD:=prim (dc (cQ 1 1) (d1 (cQ 1 1))) (dc (cQ 1 1) (dc (cQ 1 1) (d1 (cI .i64)))) (qb3)
theorem qH1:Ok1 Tryz.prog tb qi.sound 147 qC9:=qh qt qhJ (by kernel_rfl) fun a y hg h=>by
 obtain ⟨n,hn⟩:=qEt a y hg h
 exact ⟨n,9,n,(qF5 n a.1 a.2).trans hn⟩
noncomputable def qjw:qu:=qR [(147,qC9)] qjv
theorem qhK:qo Tryz.prog tb qi.sound qjw:=qn qhJ (qe qH1 qr)
end Su
end
section
namespace Su
open Go Go.Proofs Fly
set_option maxRecDepth 100000
theorem qF6 (fu:Nat) (a:(List Int)) (b:(List Int)):qq tb qjw (shN tb qjw fu 9) fu 146 ((dc (cQ 1 1) (d1 (cQ 1 1))).enc (a,b)) ((d1 (cQ 1 1))).dec=Gcd fu a b:=by kernel_rfl
noncomputable def qDa:PrimD:=prim (dc (cQ 1 1) (d1 (cQ 1 1))) (d1 (cQ 1 1)) (qk8)
theorem qH2:Ok1 Tryz.prog tb qi.sound 146 qDa:=qh qt qhK (by kernel_rfl) fun a y hg h=>by
 obtain ⟨n,hn⟩:=qEv a y hg h
 exact ⟨n,9,n,(qF6 n a.1 a.2).trans hn⟩
noncomputable def qjx:qu:=qR [(146,qDa)] qjw
theorem qhL:qo Tryz.prog tb qi.sound qjx:=qn qhK (qe qH2 qr)
end Su
end
section
namespace Su
open Go Go.Proofs Fly
set_option maxRecDepth 100000
theorem qF7 (fu:Nat)  (neg:Bool) (num:(List Int)) (den:(List Int)):qq tb qjx (shN tb qjx fu 9) fu 65 ((dc cB (dc (cQ 1 1) (d1 (cQ 1 1)))).enc (neg,num,den)) ((d1 cRt)).dec=Low neg num den:=by kernel_rfl
noncomputable def qDb:PrimD:=prim (dc cB (dc (cQ 1 1) (d1 (cQ 1 1)))) (d1 cRt) (Jv)
theorem qH3:Ok1 Tryz.prog tb qi.sound 65 qDb:=qh qt qhL (by kernel_rfl) fun a y hg h=>⟨0,9,0,(qF7 0 a.1 a.2.1 a.2.2).trans (qEy a y hg h)⟩
noncomputable def Qz:qu:=qR [(65,qDb)] qjx
theorem QV:qo Tryz.prog tb qi.sound Qz:=qn qhL (qe qH3 qr)
end Su
end
section
namespace Su
open Go Go.Proofs Fly
set_option maxRecDepth 100000
theorem qAO (fu:Nat)  (a:(Bool×((List Int)×(List Int)))):qq tb Qz (shN tb Qz fu 9) fu 66 ((d1 cRt).enc (a)) ((d1 cRt)).dec=RLow a:=by kernel_rfl
noncomputable def qwd:PrimD:=prim (d1 cRt) (d1 cRt) (JO)
theorem qF8:Ok1 Tryz.prog tb qi.sound 66 qwd:=qh qt QV (by kernel_rfl) fun a y hg h=>⟨0,9,0,(qAO 0 a).trans (qy2 a y hg h)⟩
theorem qAP (fu:Nat)  (x:Int):qq tb Qz (shN tb Qz fu 9) fu 26 ((d1 (cI .i64)).enc (x)) ((d1 cRt)).dec=qEz x:=by kernel_rfl
noncomputable def qwe:PrimD:=prim (d1 (cI .i64)) (d1 cRt) (qtB)
theorem qF9:Ok1 Tryz.prog tb qi.sound 26 qwe:=qh qt QV (by kernel_rfl) fun a y hg h=>⟨0,9,0,(qAP 0 a).trans (qy4 a y hg h)⟩
theorem qwf (fu:Nat)  (neg:Bool) (m:Int) (e:Int):qq tb Qz (shN tb Qz fu 9) fu 63 ((dc cB (dc (cI .u64) (d1 (cI .i64)))).enc (neg,m,e)) ((dc cRt (d1 (cI .i64)))).dec=qk9 neg m e:=by kernel_rfl
noncomputable def qpE:PrimD:=prim (dc cB (dc (cI .u64) (d1 (cI .i64)))) (dc cRt (d1 (cI .i64))) (Z8)
theorem qAQ:Ok1 Tryz.prog tb qi.sound 63 qpE:=qh qt QV (by kernel_rfl) fun a y hg h=>⟨0,9,0,(qwf 0 a.1 a.2.1 a.2.2).trans (qtE a y hg h)⟩
theorem qwg (fu:Nat)  (a:(Bool×((List Int)×(List Int)))):qq tb Qz (shN tb Qz fu 9) fu 48 ((d1 cRt).enc (a)) ((d1 cRt)).dec=qCv a:=by kernel_rfl
noncomputable def qpF:PrimD:=prim (d1 cRt) (d1 cRt) (qb4)
theorem qAR:Ok1 Tryz.prog tb qi.sound 48 qpF:=qh qt QV (by kernel_rfl) fun a y hg h=>⟨0,9,0,(qwg 0 a).trans (qtA a y hg h)⟩
theorem qAS (fu:Nat)  (a:(Bool×((List Int)×(List Int)))):qq tb Qz (shN tb Qz fu 9) fu 17 ((d1 cRt).enc (a)) ((d1 cRt)).dec=RAbs a:=by kernel_rfl
noncomputable def qwh:PrimD:=prim (d1 cRt) (d1 cRt) (qda)
theorem qGa:Ok1 Tryz.prog tb qi.sound 17 qwh:=qh qt QV (by kernel_rfl) fun a y hg h=>⟨0,9,0,(qAS 0 a).trans (qy3 a y hg h)⟩
noncomputable def ZJ:qu:=qR [(66,qwd),(26,qwe),(63,qpE),(48,qpF),(17,qwh)] Qz
theorem qal:qo Tryz.prog tb qi.sound ZJ:=qn QV (qe qF8 (qe qF9 (qe qAQ (qe qAR (qe qGa qr)))))
end Su
end
section
namespace Su
open Go Go.Proofs Fly
set_option maxRecDepth 100000
theorem qAT (fu:Nat)  (a:(Bool×((List Int)×(List Int)))) (b:(Bool×((List Int)×(List Int)))):qq tb ZJ (shN tb ZJ fu 9) fu 46 ((dc cRt (d1 cRt)).enc (a,b)) ((d1 cRt)).dec=qEB a b:=by kernel_rfl
noncomputable def qwi:PrimD:=prim (dc cRt (d1 cRt)) (d1 cRt) (qtF)
theorem qGb:Ok1 Tryz.prog tb qi.sound 46 qwi:=qh qt qal (by kernel_rfl) fun a y hg h=>⟨0,9,0,(qAT 0 a.1 a.2).trans (qy6 a y hg h)⟩
theorem qAU (fu:Nat)  (a:(Bool×((List Int)×(List Int)))) (b:(Bool×((List Int)×(List Int)))):qq tb ZJ (shN tb ZJ fu 9) fu 43 ((dc cRt (d1 cRt)).enc (a,b)) ((d1 cRt)).dec=qEC a b:=by kernel_rfl
noncomputable def qwj:PrimD:=prim (dc cRt (d1 cRt)) (d1 cRt) (Zt)
theorem qGc:Ok1 Tryz.prog tb qi.sound 43 qwj:=qh qt qal (by kernel_rfl) fun a y hg h=>⟨0,9,0,(qAU 0 a.1 a.2).trans (qy8 a y hg h)⟩
theorem qAV (fu:Nat)  (a:(Bool×((List Int)×(List Int)))) (b:(Bool×((List Int)×(List Int)))):qq tb ZJ (shN tb ZJ fu 9) fu 18 ((dc cRt (d1 cRt)).enc (a,b)) ((d1 (cI .i64))).dec=qED a b:=by kernel_rfl
noncomputable def qwk:PrimD:=prim (dc cRt (d1 cRt)) (d1 (cI .i64)) (qdc)
theorem qGd:Ok1 Tryz.prog tb qi.sound 18 qwk:=qh qt qal (by kernel_rfl) fun a y hg h=>⟨0,9,0,(qAV 0 a.1 a.2).trans (qy9 a y hg h)⟩
noncomputable def qdB:qu:=qR [(46,qwi),(43,qwj),(18,qwk)] ZJ
theorem qdC:qo Tryz.prog tb qi.sound qdB:=qn qal (qe qGb (qe qGc (qe qGd qr)))
end Su
end
section
namespace Su
open Go Go.Proofs Fly
set_option maxRecDepth 100000
theorem qAW (fu:Nat)  (a:(Bool×((List Int)×(List Int)))) (b:(Bool×((List Int)×(List Int)))):qq tb qdB (shN tb qdB fu 9) fu 16 ((dc cRt (d1 cRt)).enc (a,b)) ((d1 cRt)).dec=qEF a b:=by kernel_rfl
noncomputable def qwl:PrimD:=prim (dc cRt (d1 cRt)) (d1 cRt) (qdd)
theorem qGe:Ok1 Tryz.prog tb qi.sound 16 qwl:=qh qt qdC (by kernel_rfl) fun a y hg h=>⟨0,9,0,(qAW 0 a.1 a.2).trans (qza a y hg h)⟩
theorem qAX (fu:Nat)  (f:Int):qq tb qdB (shN tb qdB fu 9) fu 14 ((d1 (cI .u64)).enc (f)) ((dc cRt (d1 cB))).dec=qEG f:=by kernel_rfl
noncomputable def qwm:PrimD:=prim (d1 (cI .u64)) (dc cRt (d1 cB)) (YH)
theorem qwn:Ok1 Tryz.prog tb qi.sound 14 qwm:=qh qt qdC (by kernel_rfl) fun a y hg h=>⟨0,9,0,(qAX 0 a).trans (qzb a y hg h)⟩
noncomputable def qdD:qu:=qR [(16,qwl),(14,qwm)] qdB
theorem qdE:qo Tryz.prog tb qi.sound qdD:=qn qdC (qe qGe (qe qwn qr))
end Su
end
section
namespace Su
open Go Go.Proofs Fly
set_option maxRecDepth 100000
theorem qrk (fu:Nat)  (f:Int):qq tb qdD (shN tb qdD fu 9) fu 144 ((d1 (cI .u64)).enc (f)) ((dc cB (dc (cI .i64) (d1 (cI .u64))))).dec=qm3 f:=by kernel_rfl
noncomputable def qlZ:PrimD:=prim (d1 (cI .u64)) (dc cB (dc (cI .i64) (d1 (cI .u64)))) (qlc)
theorem qwo:Ok1 Tryz.prog tb qi.sound 144 qlZ:=qh qt qdE (by kernel_rfl) fun a y hg h=>⟨0,9,0,(qrk 0 a).trans (qqL a y hg h)⟩
theorem qrl (fu:Nat)  (f:Int):qq tb qdD (shN tb qdD fu 9) fu 64 ((d1 (cI .u64)).enc (f)) ((d1 (cI .u8))).dec=qm4 f:=by kernel_rfl
noncomputable def ql0:PrimD:=prim (d1 (cI .u64)) (d1 (cI .u8)) (qld)
theorem qwp:Ok1 Tryz.prog tb qi.sound 64 ql0:=qh qt qdE (by kernel_rfl) fun a y hg h=>⟨0,9,0,(qrl 0 a).trans (qqM a y hg h)⟩
noncomputable def ZK:qu:=qR [(144,qlZ),(64,ql0)] qdD
theorem qam:qo Tryz.prog tb qi.sound ZK:=qn qdE (qe qwo (qe qwp qr))
end Su
end
section
namespace Su
open Go Go.Proofs Fly
set_option maxRecDepth 100000
theorem qwq (fu:Nat)  (e:Int):qq tb ZK (shN tb ZK fu 9) fu 31 ((d1 (cI .u64)).enc (e)) ((d1 (cI .u64))).dec=qtM e:=by kernel_rfl
noncomputable def qpG:PrimD:=prim (d1 (cI .u64)) (d1 (cI .u64)) (qoC)
theorem qAY:Ok1 Tryz.prog tb qi.sound 31 qpG:=qh qt qam (by kernel_rfl) fun a y hg h=>⟨0,9,0,(qwq 0 a).trans (qtO a y hg h)⟩
theorem qnx (fu:Nat)  (e:Int):qq tb ZK (shN tb ZK fu 9) fu 15 ((d1 (cI .u64)).enc (e)) ((d1 (cI .u64))).dec=qiX e:=by kernel_rfl
noncomputable def qhM:PrimD:=prim (d1 (cI .u64)) (d1 (cI .u64)) (qhm)
theorem qrm:Ok1 Tryz.prog tb qi.sound 15 qhM:=qh qt qam (by kernel_rfl) fun a y hg h=>⟨0,9,0,(qnx 0 a).trans (qm5 a y hg h)⟩
theorem qAZ (fu:Nat)  (f:Int):qq tb ZK (shN tb ZK fu 9) fu 27 ((d1 (cI .u64)).enc (f)) ((d1 cB)).dec=qEI f:=by kernel_rfl
noncomputable def qwr:PrimD:=prim (d1 (cI .u64)) (d1 cB) (qtN)
theorem qGf:Ok1 Tryz.prog tb qi.sound 27 qwr:=qh qt qam (by kernel_rfl) fun a y hg h=>⟨0,9,0,(qAZ 0 a).trans (qzc a y hg h)⟩
noncomputable def qbg:qu:=qR [(31,qpG),(15,qhM),(27,qwr)] ZK
theorem qan:qo Tryz.prog tb qi.sound qbg:=qn qam (qe qAY (qe qrm (qe qGf qr)))
end Su
end
section
namespace Su
open Go Go.Proofs Fly
set_option maxRecDepth 100000
theorem qA0 (fu:Nat) (l:(List Int)):qq tb qbg (shN tb qbg fu 9) fu 127 ((d1 (cQ 2 1)).enc (l)) ((d1 (cI .u64))).dec=qEJ fu l:=by kernel_rfl
noncomputable def qws:PrimD:=prim (d1 (cQ 2 1)) (d1 (cI .u64)) (qtP)
theorem qGg:Ok1 Tryz.prog tb qi.sound 127 qws:=qh qt qan (by kernel_rfl) fun a y hg h=>by
 obtain ⟨n,hn⟩:=qzd a y hg h
 exact ⟨n,9,n,(qA0 n a).trans hn⟩
theorem qA1 (fu:Nat) (l:(List Int)):qq tb qbg (shN tb qbg fu 9) fu 162 ((d1 (cQ 2 1)).enc (l)) ((d1 (cI .u64))).dec=qEK fu l:=by kernel_rfl
noncomputable def qwt:PrimD:=prim (d1 (cQ 2 1)) (d1 (cI .u64)) (qtQ)
theorem qGh:Ok1 Tryz.prog tb qi.sound 162 qwt:=qh qt qan (by kernel_rfl) fun a y hg h=>by
 obtain ⟨n,hn⟩:=qze a y hg h
 exact ⟨n,9,n,(qA1 n a).trans hn⟩
noncomputable def qdF:qu:=qR [(127,qws),(162,qwt)] qbg
theorem qdG:qo Tryz.prog tb qi.sound qdF:=qn qan (qe qGg (qe qGh qr))
end Su
end
section
namespace Su
open Go Go.Proofs Fly
set_option maxRecDepth 100000
theorem qA2 (fu:Nat)  (f:Int):qq tb qdF (shN tb qdF fu 9) fu 107 ((d1 (cI .u64)).enc (f)) ((d1 cB)).dec=qEL f:=by kernel_rfl
noncomputable def qwu:PrimD:=prim (d1 (cI .u64)) (d1 cB) (qtS)
theorem qGi:Ok1 Tryz.prog tb qi.sound 107 qwu:=qh qt qdG (by kernel_rfl) fun a y hg h=>⟨0,9,0,(qA2 0 a).trans (qzf a y hg h)⟩
theorem qwv (fu:Nat)  (f:Int):qq tb qdF (shN tb qdF fu 9) fu 106 ((d1 (cI .u64)).enc (f)) ((d1 cB)).dec=qtR f:=by kernel_rfl
noncomputable def qpH:PrimD:=prim (d1 (cI .u64)) (d1 cB) (qoF)
theorem qA3:Ok1 Tryz.prog tb qi.sound 106 qpH:=qh qt qdG (by kernel_rfl) fun a y hg h=>⟨0,9,0,(qwv 0 a).trans (qtT a y hg h)⟩
noncomputable def Qe:qu:=qR [(107,qwu),(106,qpH)] qdF
theorem Jo:qo Tryz.prog tb qi.sound Qe:=qn qdG (qe qGi (qe qA3 qr))
end Su
end
