/-
  The law and its row.
-/
import Derived.Test.YtfckjjffdfkelaaGreatHSh1
import Derived.Test.YtfckjjffdfkelaaGreatNB05
import Derived.Test.YtfckjjffdfkelaaGreatNB09
import Derived.Test.YtfckjjffdfkelaaGreatSuTb
import Derived.Test.YtfckjjffdfkelaaGreatNB10
import Derived.Test.YtfckjjffdfkelaaGreatNC07
set_option maxRecDepth 10000
section
namespace Go.Proofs.Sho
open Go Go.RowKit Go.Shelf Go.Proofs Fly Su
attribute [local go_sem] Oper.semAt_some
abbrev HX (V:View) (w:World) (V':View) (W:World):Prop:=Holds ⟨fun _=>False,w,V,fun _ _ _=>False⟩ V' [] W
theorem HX.trans {V V1 V2:View} {w W W2:World} {G:Fly.Own} (h:HX V w V1 W) (k:Holds ⟨fun _=>False,W,V1,fun _ _ _=>False⟩ V2 G W2):HX V w V2 W2 :=
 ⟨h.ext.trans k.ext,k.view,(fun _ hp=>(List.not_mem_nil hp).elim),(fun _ hp=>(List.not_mem_nil hp).elim),.nil,h.sub.trans k.sub,fun r h1 h2=>by
   by_cases h3:V1 r=none
   · rcases k.newer r h3 h2 with h4 | h4
     · exact .inl (Nat.le_trans h.ext.size h4)
     · exact h4.elim
   · exact h.newer r h1 h3⟩
theorem HX.drew {V V1:View} {w W:World} (h:HX V w V1 W):HX V w V1 W.drew :=
 ⟨⟨h.ext.os,h.ext.tape,h.ext.output,h.ext.size,h.ext.block⟩,h.view,(fun _ hp=>(List.not_mem_nil hp).elim),(fun _ hp=>(List.not_mem_nil hp).elim),.nil,h.sub,h.newer⟩
theorem HX.add {V:View} {w W:World} {B:Nat} {o:Obj} (hs:Seen V w) (hb:Below w.heap.size w W) (hB:w.heap.size≤B) (ho:W.heap[B]?=some o):HX V w (addV V B o) W:=by
 have hlt:∀ r o,V r=some o→r<w.heap.size:=fun r o h=>(Array.getElem?_eq_some_iff.1 (hs r o h)).1
 have hn:V B=none:=by
  cases h:V B with
  | none=>rfl
  | some o=>have:=hlt _ _ h;omega
 refine ⟨⟨hb.os,hb.tape,hb.output,hb.size,fun k hk _=>hb.block k hk⟩,fun r u hr=>?_,(fun _ hp=>(List.not_mem_nil hp).elim),(fun _ hp=>(List.not_mem_nil hp).elim),.nil,Fly.Sub.addV hn,fun r h1 h2=>?_⟩
 · unfold addV at hr
   by_cases e:r=B
   · rw [if_pos e] at hr;subst e;rw [ho];exact hr
   · rw [if_neg e] at hr;exact (hb.block r (hlt _ _ hr)).trans (hs r u hr)
 · unfold addV at h2
   by_cases e:r=B
   · exact .inl (by show w.heap.size≤r;omega)
   · rw [if_neg e] at h2;exact absurd h1 h2
theorem gok4 {V:View}:GOK Su.tb V:=fun _ _ h=>by cases h
theorem New_nat (r:Nat) (h:r<18446744073709551616):New (r:Int)=some (ofN r):=by
 have e1:IntKind.u32.wrap (r:Int)=((r % 4294967296:Nat):Int):=by rw [Su.wrap_u32];omega
 have e2:Int.fdiv (r:Int) (2^32)=((r / 4294967296:Nat):Int):=by
  have:=fd_nat r 32;rwa [show (2:Nat)^32=4294967296 from rfl] at this
 have e3:IntKind.u32.wrap ((r / 4294967296:Nat):Int)=((r / 4294967296:Nat):Int):=Su.wu32 (by omega) (by omega)
 unfold New
 rw [e1,e2,e3]
 simp only [valN,Int.toNat_natCast]
 congr 2;omega
theorem trim_calls {V:View} {W:World} {v:Value} {a:List Int} (hs:Seen V W) (hr:Rep V (.ql 1 1 a) v):Calls Tryz.prog 148 #[v] W fun e W'=>∃ v' V',e = .returned v'∧HX V W V' W'∧Rep V' (.ql 1 1 (ofN (valN a))) v':=by
 have h:∀ xs y,((d1 (cQ 1 1)).dec xs).bind Trim_s=some y→∀ V vs,GOK Su.tb V→RepA V xs vs→Fing Tryz.prog 148 vs.toArray V [] fun v V' _=>∃ rvs,RepA V' ((d1 (cQ 1 1)).enc y) rvs∧v=resV rvs:=Trim_c.2.1
 have h2:((d1 (cQ 1 1)).dec [T.ql 1 1 a]).bind Trim_s=some (ofN (valN a)):=by
  rw [show (d1 (cQ 1 1)).dec [T.ql 1 1 a]=some a from (d1 (cQ 1 1)).de a];rfl
 refine (h _ _ h2 V [v] gok4 (.cons hr .nil) W hs (fun _ hp=>(List.not_mem_nil hp).elim) (fun _ hp=>(List.not_mem_nil hp).elim) .nil).mono ?_
 rintro e W' ⟨v',V',G',rfl,hh,rvs,m1,rfl⟩
 cases m1 with | cons k1 k2=>cases k2 with | nil =>
 exact ⟨_,V',rfl,⟨⟨hh.ext.os,hh.ext.tape,hh.ext.output,hh.ext.size,fun k hk _=>hh.ext.block k hk (by simp [keys])⟩,hh.view,(fun _ hp=>(List.not_mem_nil hp).elim),(fun _ hp=>(List.not_mem_nil hp).elim),.nil,hh.sub,fun r h1 h2=>(hh.newer r h1 h2).imp id (fun hm=>by simp [keys] at hm)⟩,k1⟩
theorem new_calls {V:View} {W:World} {r:Nat} (hl:r<18446744073709551616) (hs:Seen V W):Calls Tryz.prog 78 #[.int .u64 (r:Int)] W fun e W'=>∃ v' V',e = .returned v'∧HX V W V' W'∧Rep V' (.ql 1 1 (ofN r)) v':=by
 have h:∀ xs y,((d1 (cI .u64)).dec xs).bind (fun a=>New a)=some y→∀ V vs,GOK Su.tb V→RepA V xs vs→Fing Tryz.prog 78 vs.toArray V [] fun v V' _=>∃ rvs,RepA V' ((d1 (cQ 1 1)).enc y) rvs∧v=resV rvs:=New_c.2.1
 have h2:((d1 (cI .u64)).dec [T.s (.int .u64 (r:Int))]).bind (fun a=>New a)=some (ofN r):=by
  rw [show (d1 (cI .u64)).dec [T.s (.int .u64 (r:Int))]=some (r:Int) from (d1 (cI .u64)).de (r:Int)]
  exact New_nat r hl
 refine (h _ _ h2 V [.int .u64 (r:Int)] gok4 (.cons (.s (by show inR .u64 (r:Int)=true;exact inR_u64.2 ⟨by omega,by omega⟩)) .nil) W hs (fun _ hp=>(List.not_mem_nil hp).elim) (fun _ hp=>(List.not_mem_nil hp).elim) .nil).mono ?_
 rintro e W' ⟨v',V',G',rfl,hh,rvs,m1,rfl⟩
 cases m1 with | cons k1 k2=>cases k2 with | nil =>
 exact ⟨_,V',rfl,⟨⟨hh.ext.os,hh.ext.tape,hh.ext.output,hh.ext.size,fun k hk _=>hh.ext.block k hk (by simp [keys])⟩,hh.view,(fun _ hp=>(List.not_mem_nil hp).elim),(fun _ hp=>(List.not_mem_nil hp).elim),.nil,hh.sub,fun r h1 h2=>(hh.newer r h1 h2).imp id (fun hm=>by simp [keys] at hm)⟩,k1⟩
def wI (qs:List Nat):List Int:=qs.map fun z=>((z:Nat):Int)
theorem wI_length (qs:List Nat):(wI qs).length=qs.length:=List.length_map ..
theorem wI_len (qs:List Nat):(List.map (α:=U 1) (view 1) (wI qs)).length=qs.length:=(List.length_map (α:=U 1) ..).trans (wI_length qs)
theorem wI_cells:∀ qs:List Nat,(List.map (α:=U 1) (view 1) (wI qs)).flatMap T.cells=qs.map fun z=>T.s (vW z)
 | []=>rfl
 | x::l=>by
  show T.s (vW x)::(List.map (α:=U 1) (view 1) (wI l)).flatMap T.cells=_
  rw [wI_cells l];rfl
theorem wI_one:∀ (qs:List Nat) (x:T),x∈List.map (α:=U 1) (view 1) (wI qs)→x.cells.length=1
 | [],x,h=>by cases h
 | y::l,x,h=>by
  rcases List.mem_cons.1 (show x∈view 1 ((y:Nat):Int)::List.map (α:=U 1) (view 1) (wI l) from h) with rfl | h
  · rfl
  · exact wI_one l x h
theorem rep_words {V:View} {B off:Nat} {qs:List Nat} {len cap:Nat} (h:∀ (j:Nat) (c:Value),(qs.map vW)[j]?=some c→rd V B (off+j) c) (hqw:∀ z∈qs,z<4294967296) (hql:qs.length=len) (hlen:len≤cap) (hcap:cap≤maxLen) :
 Rep V (.ql 1 1 (wI qs)) (.slice (some ⟨B,off,none⟩) len cap):=by
 have hw:∀ l:List Nat,(∀ z∈l,z<4294967296)→RepA V (l.map fun z=>T.s (vW z)) (l.map vW):=by
  intro l
  induction l with
  | nil=>exact fun _=>.nil
  | cons x l ih =>
   intro hx
   have hx0:=hx x (List.mem_cons_self ..)
   exact .cons (.s (show inR .u32 (x:Int)=true from inR_u32.2 ⟨by omega,by omega⟩)) (ih fun z hz=>hx z (List.mem_cons_of_mem _ hz))
 have hl:=wI_len qs
 have h2:=Rep.sl (V:=V) (k:=1) (l:=List.map (α:=U 1) (view 1) (wI qs)) (vs:=qs.map vW) (a:=some ⟨B,off,none⟩) (cap:=cap) (by rw [wI_cells];exact hw qs hqw)
  (by rw [wI_cells];intro x hx;obtain ⟨z,_,rfl⟩:=List.mem_map.1 hx;rfl) (wI_one qs) (by omega) hcap (.inr ⟨B,off,rfl,h⟩)
 rw [hl,hql] at h2
 exact .ql h2
set_option maxRecDepth 100000 in
set_option maxHeartbeats 4000000 in
theorem tail_in {V:View} {w W:World} {B D b len cap rr:Nat} {sa:Option Addr} {qs:List Nat} {Q:Ending→World→Prop} {Kc:Act→World→Prop} (hs:Seen V w) (hB:Below w.heap.size w W) (hBw:w.heap.size≤B) (hDB:B+5≤D)
 (g1:W.heap[B+1]?=some (Obj.cells (qs.map vW).toArray 175 (0,0))) (hql:qs.length=len) (hqw:∀ z∈qs,z<4294967296) (hlen:len≤549755813888) (g2:W.heap[B+2]?=some (Obj.cells #[.slice (some ⟨B+1,0,none⟩) len len] 38 (0,0)))
 (g3:W.heap[B+3]?=some (Obj.cells #[.int .u64 (rr:Int)] 44 (0,0))) (hrr:rr<18446744073709551616) (hD:W.heap[D]?=some (.deferred (some [])))
 (hK:∀ a w',Code.wpIn Fence.wide 3 Tryz.prog Code.ret (bodyPostM Fence.wide 3 Tryz.prog Tryz.f191 Q) a w'→Kc a w')
 (hQ:∀ v1 v2 V1 V2 W2,HX V w V1 W2→Rep V1 (.ql 1 1 (ofN (valN (wI qs)))) v1→Rep V1 (.ql 1 1 (ofN rr)) v2→W2.heap[D]?=some (.deferred (some []))→V2=V1→Q (.returned (.tuple #[v1,v2])) (W2.putObj D (.deferred none))) :
 Code.wpIn Fence.wide 3 Tryz.prog code9 (Exit.then Kc (bodyPostM Fence.wide 3 Tryz.prog Tryz.f191 Q)) (act9 B D b sa len cap) W:=by
 have hx0:HX V w (addV V (B+1) (Obj.cells (qs.map vW).toArray 175 (0,0))) W:=HX.add hs hB (by omega) g1
 have hrep:Rep (addV V (B+1) (Obj.cells (qs.map vW).toArray 175 (0,0))) (.ql 1 1 (wI qs)) (.slice (some ⟨B+1,0,none⟩) len len):=rep_words (fun j c hj=>⟨_,_,_,by unfold addV;rw [if_pos rfl],by rw [List.getElem?_toArray,Nat.zero_add];exact hj⟩) hqw hql (Nat.le_refl _) (by simp [maxLen];omega)
 obtain ⟨V0,hV0⟩:∃ V0,addV V (B+1) (Obj.cells (qs.map vW).toArray 175 (0,0))=V0:=⟨_,rfl⟩
 rw [hV0] at hx0 hrep
 have c2:=cellB g2 (i:=0) rfl
 have c3:=cellB g3 (i:=0) rfl
 unfold code9 act9
 have hmx:Tryz.prog.follows .mixedOrders=true:=by kernel_rfl
 refine Code.wpIn_mono (Q:=Exit.then Kc (fun _ _ _=>False)) (fun e a w h=>by cases e <;> first | exact h | exact h.elim) ?_
 gi_region_with_o (first
  | (refine ⟨trivial,?_⟩;gi_at_call 148;refine (callsIn_wide.2 (trim_calls (V:=V0) (W:=W.drew) hx0.view hrep)).mono ?_;rintro e w1 ⟨v1,V1,rfl,hx1,hr1⟩;have c3':=(hx1.ext.below.cell (p:=⟨B+3,0,none⟩) (Array.getElem?_eq_some_iff.1 g3).1).trans c3)
  | (refine ⟨trivial,?_⟩;gi_at_call 78;refine (callsIn_wide.2 (new_calls (V:=V1) (W:=w1) hrr hx1.view)).mono ?_;rintro e w2 ⟨v2,V2,rfl,hx2,hr2⟩))
 all_goals (
  refine hK _ _ ?_
  have hD1:w1.heap[D]?=some (.deferred (some [])):=(hx1.ext.block D (Array.getElem?_eq_some_iff.1 hD).1 (fun h=>h)).trans hD
  have hD2:w2.heap[D]?=some (.deferred (some [])):=(hx2.ext.block D (Array.getElem?_eq_some_iff.1 hD1).1 (fun h=>h)).trans hD1
  gi_wp2
  refine ⟨by simp,.inl ⟨_,_,rfl,run_takeDeferred hD2,?_⟩⟩
  refine ⟨_,results_tmp2 (t:=4) (u:=5) rfl _ _ _,hQ v1 v2 V2 V2 w2 ((hx0.drew.trans hx1).trans hx2) (Rep.mono hx2.sub hr1) hr2 hD2 rfl⟩)
theorem sf_wd {b:Nat} {len:Nat} (pre:List (Wo len)):∀ z∈(sf b pre).2,z<4294967296:=by
 have:∀ (l:List (Wo len)) (s:Nat×List Nat),(∀ z∈s.2,z<4294967296)→∀ z∈(l.foldl (stp b) s).2,z<4294967296:=by
  intro l
  induction l with
  | nil=>exact fun s h=>h
  | cons x l ih =>
   refine fun s h=>ih _ fun z hz=>?_
   rcases List.mem_or_eq_of_mem_set hz with hz | rfl
   · exact h z hz
   · exact Nat.mod_lt _ (by omega)
 exact this pre _ fun z hz=>by rw [(List.mem_replicate.1 hz).2];omega
theorem wI_nth (qs:List Nat) (j:Nat):nth (wI qs) j=((qs[j]?.getD 0:Nat):Int):=by
 unfold nth
 have:(wI qs)[j]?=(qs[j]?).map fun z=>((z:Nat):Int):=List.getElem?_map ..
 rw [this]
 cases qs[j]? <;> rfl
theorem wI_set (qs:List Nat) (j y:Nat):wI (qs.set j y)=List.set (wI qs) j ((y:Nat):Int):=List.map_set ..
theorem wI_drop (zs:List Nat) (m:Nat) (h:m<zs.length):valN (wI (zs.drop m))=zs[m]?.getD 0+4294967296*valN (wI (zs.drop (m+1))):=by
 rw [List.drop_eq_getElem_cons h,List.getElem?_eq_getElem h]
 show valN (((zs[m]:Nat):Int)::wI (zs.drop (m+1)))=_
 rw [valN,Int.toNat_natCast];rfl
theorem sf_back {zs:List Nat} (hz:∀ z∈zs,z<4294967296) (h0:0<zs.length) {b:Nat} (hb:0<b):∀ k,k≤zs.length →
 (sf b (back hz h0 k)).1=valN (wI (zs.drop (zs.length-k))) % b∧valN (wI (sf b (back hz h0 k)).2)=valN (wI (zs.drop (zs.length-k))) / b*4294967296^(zs.length-k)∧∀ j,j<zs.length-k→(sf b (back hz h0 k)).2[j]?.getD 0=0
 | 0,_=>by
  have e:sf b (back hz h0 0)=(0,List.replicate zs.length 0):=rfl
  have ev:valN (wI ([]:List Nat))=0:=rfl
  have ez:wI (List.replicate zs.length 0)=List.replicate zs.length 0:=List.map_replicate ..
  rw [e,Nat.sub_zero,List.drop_length,ev]
  refine ⟨(Nat.zero_mod b).symm,?_,fun j hj=>?_⟩
  · show valN (wI (List.replicate zs.length 0))=_
    rw [ez,valN_zeros,Nat.zero_div,Nat.zero_mul]
  · show (List.replicate zs.length 0)[j]?.getD 0=0
    rw [List.getElem?_replicate];split <;> rfl
 | k+1,hk=>by
  obtain ⟨i1,i2,i3⟩:=sf_back hz h0 hb k (by omega)
  obtain ⟨m,hm⟩:∃ m,m=zs.length-1-k:=⟨_,rfl⟩
  have e1:zs.length-k=m+1:=by omega
  have e2:zs.length-(k+1)=m:=by omega
  rw [e1] at i1 i2 i3
  rw [e2,back_succ,sf_snoc]
  have hml:m<zs.length:=by omega
  have hq:=i3 m (by omega)
  have hlen:=sf_len b (back hz h0 k)
  have hlt:=sf_lt hb (back hz h0 k)
  generalize sf b (back hz h0 k)=s at *
  obtain ⟨R,Q⟩:=s
  simp only at i1 i2 i3 hq hlen hlt
  have hx:=word_lt hz m
  have hA:=wI_drop zs m hml
  simp only [← hm]
  show (R*4294967296+zs[m]?.getD 0) % b=_∧valN (wI (Q.set m ((R*4294967296+zs[m]?.getD 0) / b % 4294967296)))=_∧∀ j,j<m→(Q.set m ((R*4294967296+zs[m]?.getD 0) / b % 4294967296))[j]?.getD 0=0
  generalize zs[m]?.getD 0=x at *
  generalize hA0:valN (wI (zs.drop (m+1)))=A at *
  rw [hA]
  have hdiv:=Nat.div_add_mod A b
  have hr1:x+4294967296*A=b*(4294967296*(A / b))+(R*4294967296+x):=by
   rw [i1]
   generalize A / b=p at *
   generalize A % b=t at *
   rw [← hdiv];grind
  have hr1b:(R*4294967296+x) / b<4294967296:=by
   rw [Nat.div_lt_iff_lt_mul hb]
   have:=Nat.mul_le_mul_right 4294967296 (show R+1≤b by omega)
   rw [Nat.mul_comm 4294967296 b];omega
  rw [hr1]
  refine ⟨?_,?_,fun j hj=>?_⟩
  · rw [Nat.mul_add_mod]
  · rw [Nat.mod_eq_of_lt hr1b,Nat.mul_add_div hb,wI_set]
    have hs:=valN_set (wI Q) m (((R*4294967296+x) / b:Nat):Int) (by rw [wI_length];omega)
    rw [wI_nth,hq,Int.toNat_natCast,i2,Nat.pow_succ] at hs
    generalize (R*4294967296+x) / b=d at *
    generalize A / b=p at *
    generalize 4294967296^m=P at *
    have hs:valN (List.set (wI Q) m (d:Int))+P*0=p*(P*4294967296)+P*d:=hs
    rw [Nat.mul_zero,Nat.add_zero] at hs
    rw [hs];grind
  · rw [List.getElem?_set_ne (by omega)];exact i3 j (by omega)
theorem sf_all {zs:List Nat} (hz:∀ z∈zs,z<4294967296) {b:Nat} (hb:0<b) {ys:List (Wo zs.length)} (h:All hz ys):(sf b ys).1=valN (wI zs) % b∧valN (wI (sf b ys).2)=valN (wI zs) / b:=by
 rcases h with ⟨rfl,h0⟩ | ⟨hl,rfl⟩
 · have:zs=[]:=List.eq_nil_of_length_eq_zero h0
   subst this
   exact ⟨(Nat.zero_mod b).symm,(Nat.zero_div b).symm⟩
 · obtain ⟨h1,h2,_⟩:=sf_back hz hl hb zs.length (Nat.le_refl _)
   rw [Nat.sub_self,List.drop_zero] at h1 h2
   rw [Nat.pow_zero,Nat.mul_one] at h2
   exact ⟨h1,h2⟩
theorem repA_sc {V V':View}:∀ {l:List T} {vs:List Value},(∀ x∈l,∃ v,x=T.s v)→RepA V l vs→RepA V' l vs
 | [],vs,_,h=>by cases h;exact .nil
 | x::l,vs,h,hr=>by
  cases hr with | cons h1 h2 =>
  obtain ⟨v,rfl⟩:=h x (List.mem_cons_self ..)
  cases h1 with | s h1=>exact .cons (.s h1) (repA_sc (fun y hy=>h y (List.mem_cons_of_mem _ hy)) h2)
theorem cells_sc:∀ (l:List (U 1)) (x:T),x∈(l.map (view 1)).flatMap T.cells→∃ v,x=T.s v
 | [],x,h=>by cases h
 | y::l,x,h=>by
  rcases List.mem_cons.1 (show x∈T.s (.int .u32 y)::(l.map (view 1)).flatMap T.cells from h) with rfl | h
  · exact ⟨_,rfl⟩
  · exact cells_sc l x h
def dropV (V:View) (D:Nat):View:=fun r=>if r=D then none else V r
theorem rep_drop {V:View} {D:Nat} {l:List (U 1)} {v:Value} (hD:∀ arr e fr,V D≠some (.cells arr e fr)) (h:Rep V (.ql 1 1 l) v):Rep (dropV V D) (.ql 1 1 l) v:=by
 cases h with | ql h =>
 cases h with | sl a1 a2 a3 a4 a5 a6 =>
 refine .ql (.sl (repA_sc (cells_sc l) a1) a2 a3 a4 a5 (a6.imp id ?_))
 rintro ⟨b,off,e,h⟩
 refine ⟨b,off,e,fun j c hj=>?_⟩
 obtain ⟨arr,e,fr,h1,h2⟩:=h j c hj
 refine ⟨arr,e,fr,?_,h2⟩
 unfold dropV
 rw [if_neg (fun e2=>by subst e2;exact hD _ _ _ h1)]
 exact h1
theorem wI_back {a:List Int} (h:Wd a):wI (a.map Int.toNat)=a:=by
 induction a with
 | nil=>rfl
 | cons x l ih =>
  have hx:=h.head
  show ((x.toNat:Nat):Int)::wI (l.map Int.toNat)=_
  rw [ih h.tail];congr 1;omega
theorem short_fing {V:View} {a:List Int} {b:Nat} {v:Value} (ha:Wd a) (hb0:0<b) (hb1:b<4294967296) (hlen:a.length≤549755813888) (hr:Rep V (.ql 1 1 a) v) :
 Fing Tryz.prog 191 #[v,.int .u32 (b:Int)] V [] fun v V' _=>∃ rvs,RepA V' [.ql 1 1 (ofN (valN a / b)),.ql 1 1 (ofN (valN a % b))] rvs∧v=resV rvs:=by
 intro w hs _ _ _
 obtain ⟨zs,hzs⟩:∃ zs,a.map Int.toNat=zs:=⟨_,rfl⟩
 have hzl:zs.length=a.length:=by rw [← hzs,List.length_map]
 have hz:∀ z∈zs,z<4294967296:=by
  intro z hz
  rw [← hzs] at hz
  obtain ⟨x,hx,rfl⟩:=List.mem_map.1 hz
  have:=ha x hx;omega
 have hwz:wI zs=a:=by rw [← hzs];exact wI_back ha
 have hW:∃ sa cap,v = .slice sa zs.length cap∧Words w.heap.size w (.slice sa zs.length cap) zs:=by
  cases hr with | ql hr =>
  cases hr with | @sl _ _ vs ad cap a1 a2 a3 a4 a5 a6 =>
  have hl:(List.map (α:=U 1) (view 1) a).length=zs.length:=by rw [hzl];exact List.length_map ..
  refine ⟨ad,cap,by rw [hl],?_⟩
  rcases a6 with a6 | ⟨b2,off,rfl,a6⟩
  · have:zs.length=0:=by rw [← hl,a6];rfl
    exact .inl ⟨List.eq_nil_of_length_eq_zero this,ad,cap,by rw [this]⟩
  · by_cases h0:zs.length=0
    · exact .inl ⟨List.eq_nil_of_length_eq_zero h0,_,cap,by rw [h0]⟩
    have hvs:vs=zs.map vW:=by
     have e:=wI_cells zs
     rw [hwz] at e
     rw [e] at a1
     clear e a6 hl hzs hzl hwz h0
     induction zs generalizing vs with
     | nil=>cases a1;rfl
     | cons x l ih =>
      cases a1 with | cons k1 k2 =>
      cases k1 with | s k1 =>
      rw [List.map_cons,ih (fun z hz2=>hz z (List.mem_cons_of_mem _ hz2)) k2]
    have hrd:∀ j,j<zs.length→rd V b2 (off+j) (vW (zs[j]?.getD 0)):=fun j hj=>a6 j _ (by rw [hvs,List.getElem?_map,List.getElem?_eq_getElem hj];rfl)
    refine .inr ⟨b2,off,cap,rfl,?_,fun j hj=>?_⟩
    · obtain ⟨arr,e,fr,h1,_⟩:=hrd 0 (by omega)
      exact (Array.getElem?_eq_some_iff.1 (hs _ _ h1)).1
    · obtain ⟨arr,e,fr,h1,h2⟩:=hrd j hj
      exact cellB (hs _ _ h1) h2
 obtain ⟨sa,cap,rfl,hI⟩:=hW
 refine callsIn_wide.1 (short_in Fence.wide 3 trivial trivial trivial rfl (Nat.le_refl _) sa cap b hb0 hb1 zs hz (by omega) w hI ?_)
 intro D ys W Kc hK hD hA hInv hB hDh
 have hlt:=sf_lt hb0 ys
 obtain ⟨m1,m2⟩:=sf_all hz hb0 hA
 rw [hwz] at m1 m2
 refine tail_in hs hB (Nat.le_refl _) hD hInv.h1 (sf_len b ys) (sf_wd ys) (by omega) hInv.h2 hInv.h3 (by omega) hDh hK ?_
 rintro v1 v2 V1 V2 W2 hx r1 r2 hD2 _
 rw [m2] at r1
 rw [m1] at r2
 have hnD:∀ arr e fr,V1 D≠some (.cells arr e fr):=fun arr e fr h=>by
  have:=hx.view D _ h
  rw [hD2] at this;cases this
 have hoth:∀ r,r≠D→(W2.putObj D (.deferred none)).heap[r]?=W2.heap[r]?:=fun r hr=>World.putObj_heap_other hr
 refine ⟨_,dropV V1 D,[],rfl,⟨⟨hx.ext.os,hx.ext.tape,hx.ext.output,by have:=hx.ext.size;simpa using this,fun k hk _=>(hoth k (by have:k<w.heap.size:=hk;omega)).trans (hx.ext.block k hk (fun h=>h))⟩,
  fun r o hr=>?_,(fun _ hp=>(List.not_mem_nil hp).elim),(fun _ hp=>(List.not_mem_nil hp).elim),.nil,fun r o hr=>?_,fun r h1 h2=>?_⟩,[v1,v2],.cons (rep_drop hnD r1) (.cons (rep_drop hnD r2) .nil),rfl⟩
 · unfold dropV at hr
   by_cases e:r=D
   · rw [if_pos e] at hr;cases hr
   · rw [if_neg e] at hr;exact (hoth r e).trans (hx.view r o hr)
 · have hlt2:r<w.heap.size:=(Array.getElem?_eq_some_iff.1 (hs r o hr)).1
   unfold dropV
   rw [if_neg (by omega)];exact hx.sub r o hr
 · unfold dropV at h2
   by_cases e:r=D
   · rw [if_pos e] at h2;exact absurd rfl h2
   · rw [if_neg e] at h2
     exact (hx.newer r h1 h2).imp id False.elim
end Go.Proofs.Sho
end
section
namespace Fly
open Go Go.Proofs Su
set_option maxRecDepth 10000
noncomputable def tbN:Tabs Tryz.prog:=Su.btsOK.sound.tb
section
variable {P:Program} {n:Nat} {X:Cx} {L:Lo} {V:View} {G:Own} {Q:Value→View→Own→Prop}
variable {ty:TypeId} {pos:String} {af:Array Edge} {gd:Option (Nat×Bool)} {ds:Option Tmp}
theorem equal_sliceN {t e:TypeId} {a:Option Addr} {len cap:Nat} (hu:P.underlying t=some (.slice e)) (w:World):(Op.equal t (.slice a len cap) (.slice none 0 0)).run P w = .ok a.isNone w:=by
 show (Op.equalIn (9999+1) t (.slice a len cap) (.slice none 0 0)).run P w=_
 unfold Op.equalIn
 rw [Sem.run_bind,Fly.run_underlying hu]
 cases a <;> rfl
theorem op_eqslN {t u e:TypeId} {x y:Operand} {a:Option Addr} {len cap:Nat} (hx:ev L x=some (.slice a len cap)) (hy:ev L y=some (.slice none 0 0)) (hu:P.underlying t=some (.slice e)) (k:Q (.bool a.isNone) V G) :
 Opr P n X L V G ⟨ds,.binOp .eql t x y u,ty,pos,af,gd⟩ Q:=op_eqg hx hy rfl (fun w=>by simp [eqGuard]) (equal_sliceN hu) k
end
attribute [local irreducible] WC WE WR Opr St Go.Calls Fine Pure PureV Rel Fing FingD FinL Owe One Does Go.CallsD
theorem c190nN {V:View} {len cap:Nat} {Q:Value→View→Own→Prop} (hQ:Q (.slice none 0 0) V []):Fing Tryz.prog 190 #[.slice none len cap] V [] Q:=by
 refine fing_enter (args:=[_]) Tryz.func190 rfl Tryz.ntmps190 rfl ?_
 intro X w hM hb hw hV0 hR;dsimp only [argL,Nat.zero_add,Nat.reduceAdd]
 (repeat' (first | refine wc_seq ?_ | refine wc_region ?_ | refine wr_nil ?_ | refine we_code ?_ | refine wc_block ?_ | refine wc_skip ?_ | refine we_blk ?_ | refine wc_exit ?_ | refine we_exit_code ?_ | refine we_exit_here ?_ | refine we_exit_on rfl ?_ | refine we_exit_lp ?_ | refine wc_ret ?_ | ((first | refine w_cons rfl ?_ | refine w_cons0 ?_ | refine w_yes rfl rfl rfl ?_);(first | (refine op_eqslN (e:=175) rfl rfl (by kernel_rfl) ?_) | refine op_move rfl ?_ | refine op_assign rfl ?_ | refine op_eql rfl rfl ?_ | refine op_neq rfl rfl ?_ | refine op_lss rfl rfl ?_ | refine op_leq rfl rfl ?_ | refine op_gtr rfl rfl ?_ | refine op_geq rfl rfl ?_ | refine op_extract rfl rfl ?_ | refine op_not rfl ?_ | refine op_pick_t rfl rfl ?_ | refine op_pick_f rfl rfl ?_ | refine op_addi rfl rfl (by omega) (by omega) ?_ | refine op_subi rfl rfl (by omega) (by omega) ?_ | refine op_muli rfl rfl (by omega) (by omega) ?_ | refine op_add rfl rfl ?_ | refine op_sub rfl rfl ?_ | refine op_mul rfl rfl ?_ | refine op_fieldAddr tbN rfl rfl ?_ | refine op_field1 tbN rfl rfl rfl ?_ | refine op_and rfl rfl ?_ | refine op_or rfl rfl ?_ | refine op_xor rfl rfl ?_ | refine op_andNot rfl rfl ?_ | refine op_shl rfl rfl (by decide) ?_ | refine op_shr rfl rfl (by decide) ?_ | refine op_eqs rfl rfl ?_ | refine op_neqs rfl rfl ?_ | refine op_eqbd rfl rfl (by kernel_rfl) ?_ | refine op_neqbd rfl rfl (by kernel_rfl) ?_ | refine op_convert tbN rfl rfl rfl ?_ | refine op_neg rfl ?_ | refine op_len tbN rfl rfl rfl ?_ | (apply op_load1 tbN rfl rfl;(· (first | (refine At.own (?_);repeat (first | exact Has.here | refine Has.there ?_)) | exact At.seen (by assumption)));(· exact rfl)) | (apply op_loadN tbN rfl rfl;(· (first | (refine At.own (?_);repeat (first | exact Has.here | refine Has.there ?_)) | exact At.seen (by assumption)));(· exact rfl)) | (apply op_store1 tbN rfl rfl rfl rfl rfl;(· (repeat (first | exact Upd.here | apply Upd.there)));(· exact rfl)) | (apply op_storeN tbN rfl rfl rfl rfl rfl;(· (repeat (first | exact Upd.here | apply Upd.there)));(· exact rfl)) | (apply op_build tbN (by kernel_rfl) rfl (rfl:tbN.fo _ 0=_);(· (repeat (first | exact Fill.nil | (apply Fill.cons;(· exact rfl);(· exact rfl);(· exact rfl);(· exact rfl);(· exact rfl)))))) | (refine op_boxN rfl ?_;intro b) | (refine op_box1 rfl rfl ?_;intro b) | (refine op_alloc tbN rfl ?_;intro b) | (apply op_buildSlice tbN;(· exact rfl);(· exact rfl);(· exact rfl);(· decide);(· (repeat (first | exact Cat.nil | (apply Cat.cons;(· exact rfl);(· exact rfl);(· exact rfl)) | exact App.nil | apply App.cons)));intro b))) | refine w_no rfl rfl rfl rfl ?_ | refine wc_cond_t rfl ?_ | refine wc_cond_f rfl ?_ | refine wc_if rfl (fun _=>?_) (fun _=>?_) | refine wc_ifn rfl (fun _=>?_) (fun _=>?_) | refine w_splitd rfl rfl (fun _=>?_) (fun _=>?_) | refine w_splitn rfl rfl (fun _=>?_) (fun _=>?_) | refine wc_ifnb rfl (fun _=>?_) (fun _=>?_) | refine wc_ifb rfl (fun _=>?_) (fun _=>?_) | refine w_splitnb rfl rfl (fun _=>?_) (fun _=>?_) | refine w_splitb rfl rfl (fun _=>?_) (fun _=>?_)))
 exact fing_ret hM hw hV0 hR [] (List.Sublist.refl _) (res1 rfl rfl) hQ
theorem c190eN {V:View} {a:Addr} {cap:Nat} {Q:Value→View→Own→Prop} (hQ:∀ b,Q (.slice (some ⟨b,0,none⟩) 0 0) V [(b,.cells #[] 175 (0,0))]):Fing Tryz.prog 190 #[.slice (some a) 0 cap] V [] Q:=by
 refine fing_enter (args:=[_]) Tryz.func190 rfl Tryz.ntmps190 rfl ?_
 intro X w hM hb hw hV0 hR;dsimp only [argL,Nat.zero_add,Nat.reduceAdd]
 (repeat' (first | refine wc_seq ?_ | refine wc_region ?_ | refine wr_nil ?_ | refine we_code ?_ | refine wc_block ?_ | refine wc_skip ?_ | refine we_blk ?_ | refine wc_exit ?_ | refine we_exit_code ?_ | refine we_exit_here ?_ | refine we_exit_on rfl ?_ | refine we_exit_lp ?_ | refine wc_ret ?_ | ((first | refine w_cons rfl ?_ | refine w_cons0 ?_ | refine w_yes rfl rfl rfl ?_);(first | (refine op_eqslN (e:=175) rfl rfl (by kernel_rfl) ?_) | refine op_move rfl ?_ | refine op_assign rfl ?_ | refine op_eql rfl rfl ?_ | refine op_neq rfl rfl ?_ | refine op_lss rfl rfl ?_ | refine op_leq rfl rfl ?_ | refine op_gtr rfl rfl ?_ | refine op_geq rfl rfl ?_ | refine op_extract rfl rfl ?_ | refine op_not rfl ?_ | refine op_pick_t rfl rfl ?_ | refine op_pick_f rfl rfl ?_ | refine op_addi rfl rfl (by omega) (by omega) ?_ | refine op_subi rfl rfl (by omega) (by omega) ?_ | refine op_muli rfl rfl (by omega) (by omega) ?_ | refine op_add rfl rfl ?_ | refine op_sub rfl rfl ?_ | refine op_mul rfl rfl ?_ | refine op_fieldAddr tbN rfl rfl ?_ | refine op_field1 tbN rfl rfl rfl ?_ | refine op_and rfl rfl ?_ | refine op_or rfl rfl ?_ | refine op_xor rfl rfl ?_ | refine op_andNot rfl rfl ?_ | refine op_shl rfl rfl (by decide) ?_ | refine op_shr rfl rfl (by decide) ?_ | refine op_eqs rfl rfl ?_ | refine op_neqs rfl rfl ?_ | refine op_eqbd rfl rfl (by kernel_rfl) ?_ | refine op_neqbd rfl rfl (by kernel_rfl) ?_ | refine op_convert tbN rfl rfl rfl ?_ | refine op_neg rfl ?_ | refine op_len tbN rfl rfl rfl ?_ | (apply op_load1 tbN rfl rfl;(· (first | (refine At.own (?_);repeat (first | exact Has.here | refine Has.there ?_)) | exact At.seen (by assumption)));(· exact rfl)) | (apply op_loadN tbN rfl rfl;(· (first | (refine At.own (?_);repeat (first | exact Has.here | refine Has.there ?_)) | exact At.seen (by assumption)));(· exact rfl)) | (apply op_store1 tbN rfl rfl rfl rfl rfl;(· (repeat (first | exact Upd.here | apply Upd.there)));(· exact rfl)) | (apply op_storeN tbN rfl rfl rfl rfl rfl;(· (repeat (first | exact Upd.here | apply Upd.there)));(· exact rfl)) | (apply op_build tbN (by kernel_rfl) rfl (rfl:tbN.fo _ 0=_);(· (repeat (first | exact Fill.nil | (apply Fill.cons;(· exact rfl);(· exact rfl);(· exact rfl);(· exact rfl);(· exact rfl)))))) | (refine op_boxN rfl ?_;intro b) | (refine op_box1 rfl rfl ?_;intro b) | (refine op_alloc tbN rfl ?_;intro b) | (apply op_buildSlice tbN;(· exact rfl);(· exact rfl);(· exact rfl);(· decide);(· (repeat (first | exact Cat.nil | (apply Cat.cons;(· exact rfl);(· exact rfl);(· exact rfl)) | exact App.nil | apply App.cons)));intro b))) | refine w_no rfl rfl rfl rfl ?_ | refine wc_cond_t rfl ?_ | refine wc_cond_f rfl ?_ | refine wc_if rfl (fun _=>?_) (fun _=>?_) | refine wc_ifn rfl (fun _=>?_) (fun _=>?_) | refine w_splitd rfl rfl (fun _=>?_) (fun _=>?_) | refine w_splitn rfl rfl (fun _=>?_) (fun _=>?_) | refine wc_ifnb rfl (fun _=>?_) (fun _=>?_) | refine wc_ifb rfl (fun _=>?_) (fun _=>?_) | refine w_splitnb rfl rfl (fun _=>?_) (fun _=>?_) | refine w_splitb rfl rfl (fun _=>?_) (fun _=>?_)))
 refine w_cons rfl (op_append0 (e:=175) (k:=1) tbN rfl rfl rfl (Nat.le_refl 0) ?_)
 (repeat' (first | refine wc_seq ?_ | refine wc_region ?_ | refine wr_nil ?_ | refine we_code ?_ | refine wc_block ?_ | refine wc_skip ?_ | refine we_blk ?_ | refine wc_exit ?_ | refine we_exit_code ?_ | refine we_exit_here ?_ | refine we_exit_on rfl ?_ | refine we_exit_lp ?_ | refine wc_ret ?_ | ((first | refine w_cons rfl ?_ | refine w_cons0 ?_ | refine w_yes rfl rfl rfl ?_);(first | refine op_move rfl ?_ | refine op_assign rfl ?_ | refine op_eql rfl rfl ?_ | refine op_neq rfl rfl ?_ | refine op_lss rfl rfl ?_ | refine op_leq rfl rfl ?_ | refine op_gtr rfl rfl ?_ | refine op_geq rfl rfl ?_ | refine op_extract rfl rfl ?_ | refine op_not rfl ?_ | refine op_pick_t rfl rfl ?_ | refine op_pick_f rfl rfl ?_ | refine op_addi rfl rfl (by omega) (by omega) ?_ | refine op_subi rfl rfl (by omega) (by omega) ?_ | refine op_muli rfl rfl (by omega) (by omega) ?_ | refine op_add rfl rfl ?_ | refine op_sub rfl rfl ?_ | refine op_mul rfl rfl ?_ | refine op_fieldAddr tbN rfl rfl ?_ | refine op_field1 tbN rfl rfl rfl ?_ | refine op_and rfl rfl ?_ | refine op_or rfl rfl ?_ | refine op_xor rfl rfl ?_ | refine op_andNot rfl rfl ?_ | refine op_shl rfl rfl (by decide) ?_ | refine op_shr rfl rfl (by decide) ?_ | refine op_eqs rfl rfl ?_ | refine op_neqs rfl rfl ?_ | refine op_eqbd rfl rfl (by kernel_rfl) ?_ | refine op_neqbd rfl rfl (by kernel_rfl) ?_ | refine op_convert tbN rfl rfl rfl ?_ | refine op_neg rfl ?_ | refine op_len tbN rfl rfl rfl ?_ | (apply op_load1 tbN rfl rfl;(· (first | (refine At.own (?_);repeat (first | exact Has.here | refine Has.there ?_)) | exact At.seen (by assumption)));(· exact rfl)) | (apply op_loadN tbN rfl rfl;(· (first | (refine At.own (?_);repeat (first | exact Has.here | refine Has.there ?_)) | exact At.seen (by assumption)));(· exact rfl)) | (apply op_store1 tbN rfl rfl rfl rfl rfl;(· (repeat (first | exact Upd.here | apply Upd.there)));(· exact rfl)) | (apply op_storeN tbN rfl rfl rfl rfl rfl;(· (repeat (first | exact Upd.here | apply Upd.there)));(· exact rfl)) | (apply op_build tbN (by kernel_rfl) rfl (rfl:tbN.fo _ 0=_);(· (repeat (first | exact Fill.nil | (apply Fill.cons;(· exact rfl);(· exact rfl);(· exact rfl);(· exact rfl);(· exact rfl)))))) | (refine op_boxN rfl ?_;intro b) | (refine op_box1 rfl rfl ?_;intro b) | (refine op_alloc tbN rfl ?_;intro b) | (apply op_buildSlice tbN;(· exact rfl);(· exact rfl);(· exact rfl);(· decide);(· (repeat (first | exact Cat.nil | (apply Cat.cons;(· exact rfl);(· exact rfl);(· exact rfl)) | exact App.nil | apply App.cons)));intro b))) | refine w_no rfl rfl rfl rfl ?_ | refine wc_cond_t rfl ?_ | refine wc_cond_f rfl ?_ | refine wc_if rfl (fun _=>?_) (fun _=>?_) | refine wc_ifn rfl (fun _=>?_) (fun _=>?_) | refine w_splitd rfl rfl (fun _=>?_) (fun _=>?_) | refine w_splitn rfl rfl (fun _=>?_) (fun _=>?_) | refine wc_ifnb rfl (fun _=>?_) (fun _=>?_) | refine wc_ifb rfl (fun _=>?_) (fun _=>?_) | refine w_splitnb rfl rfl (fun _=>?_) (fun _=>?_) | refine w_splitb rfl rfl (fun _=>?_) (fun _=>?_)))
 exact fing_ret hM hw hV0 hR [(b,.cells #[] 175 (0,0))] (List.Sublist.refl _) (res1 rfl rfl) (hQ b)
theorem c190sN {V:View} {bb off len cap:Nat} {news:List Value} {Q:Value→View→Own→Prop} (hn:news.length=len*1) (h1:∀ u∈news,u.oneCell'=true) (hr:∀ (j:Nat) (u:Value),news[j]?=some u→rd V bb (off+j) u) (h0:0<len) (hl:len≤549755813888)
 (hQ:∀ v' Gr',Row 175 1 v' Gr' len news→Q v' V Gr'):Fing Tryz.prog 190 #[.slice (some ⟨bb,off,none⟩) len cap] V [] Q:=by
 refine fing_enter (args:=[_]) Tryz.func190 rfl Tryz.ntmps190 rfl ?_
 intro X w hM hb hw hV0 hR;dsimp only [argL,Nat.zero_add,Nat.reduceAdd]
 (repeat' (first | refine wc_seq ?_ | refine wc_region ?_ | refine wr_nil ?_ | refine we_code ?_ | refine wc_block ?_ | refine wc_skip ?_ | refine we_blk ?_ | refine wc_exit ?_ | refine we_exit_code ?_ | refine we_exit_here ?_ | refine we_exit_on rfl ?_ | refine we_exit_lp ?_ | refine wc_ret ?_ | ((first | refine w_cons rfl ?_ | refine w_cons0 ?_ | refine w_yes rfl rfl rfl ?_);(first | (refine op_eqslN (e:=175) rfl rfl (by kernel_rfl) ?_) | refine op_move rfl ?_ | refine op_assign rfl ?_ | refine op_eql rfl rfl ?_ | refine op_neq rfl rfl ?_ | refine op_lss rfl rfl ?_ | refine op_leq rfl rfl ?_ | refine op_gtr rfl rfl ?_ | refine op_geq rfl rfl ?_ | refine op_extract rfl rfl ?_ | refine op_not rfl ?_ | refine op_pick_t rfl rfl ?_ | refine op_pick_f rfl rfl ?_ | refine op_addi rfl rfl (by omega) (by omega) ?_ | refine op_subi rfl rfl (by omega) (by omega) ?_ | refine op_muli rfl rfl (by omega) (by omega) ?_ | refine op_add rfl rfl ?_ | refine op_sub rfl rfl ?_ | refine op_mul rfl rfl ?_ | refine op_fieldAddr tbN rfl rfl ?_ | refine op_field1 tbN rfl rfl rfl ?_ | refine op_and rfl rfl ?_ | refine op_or rfl rfl ?_ | refine op_xor rfl rfl ?_ | refine op_andNot rfl rfl ?_ | refine op_shl rfl rfl (by decide) ?_ | refine op_shr rfl rfl (by decide) ?_ | refine op_eqs rfl rfl ?_ | refine op_neqs rfl rfl ?_ | refine op_eqbd rfl rfl (by kernel_rfl) ?_ | refine op_neqbd rfl rfl (by kernel_rfl) ?_ | refine op_convert tbN rfl rfl rfl ?_ | refine op_neg rfl ?_ | refine op_len tbN rfl rfl rfl ?_ | (apply op_load1 tbN rfl rfl;(· (first | (refine At.own (?_);repeat (first | exact Has.here | refine Has.there ?_)) | exact At.seen (by assumption)));(· exact rfl)) | (apply op_loadN tbN rfl rfl;(· (first | (refine At.own (?_);repeat (first | exact Has.here | refine Has.there ?_)) | exact At.seen (by assumption)));(· exact rfl)) | (apply op_store1 tbN rfl rfl rfl rfl rfl;(· (repeat (first | exact Upd.here | apply Upd.there)));(· exact rfl)) | (apply op_storeN tbN rfl rfl rfl rfl rfl;(· (repeat (first | exact Upd.here | apply Upd.there)));(· exact rfl)) | (apply op_build tbN (by kernel_rfl) rfl (rfl:tbN.fo _ 0=_);(· (repeat (first | exact Fill.nil | (apply Fill.cons;(· exact rfl);(· exact rfl);(· exact rfl);(· exact rfl);(· exact rfl)))))) | (refine op_boxN rfl ?_;intro b) | (refine op_box1 rfl rfl ?_;intro b) | (refine op_alloc tbN rfl ?_;intro b) | (apply op_buildSlice tbN;(· exact rfl);(· exact rfl);(· exact rfl);(· decide);(· (repeat (first | exact Cat.nil | (apply Cat.cons;(· exact rfl);(· exact rfl);(· exact rfl)) | exact App.nil | apply App.cons)));intro b))) | refine w_no rfl rfl rfl rfl ?_ | refine wc_cond_t rfl ?_ | refine wc_cond_f rfl ?_ | refine wc_if rfl (fun _=>?_) (fun _=>?_) | refine wc_ifn rfl (fun _=>?_) (fun _=>?_) | refine w_splitd rfl rfl (fun _=>?_) (fun _=>?_) | refine w_splitn rfl rfl (fun _=>?_) (fun _=>?_) | refine wc_ifnb rfl (fun _=>?_) (fun _=>?_) | refine wc_ifb rfl (fun _=>?_) (fun _=>?_) | refine w_splitnb rfl rfl (fun _=>?_) (fun _=>?_) | refine w_splitb rfl rfl (fun _=>?_) (fun _=>?_)))
 refine w_cons rfl (op_appendG (e:=175) (k:=1) (m:=0) (z:=[.int .u32 0]) (Gr:=[(b,.cells #[] 175 (0,0))]) (G1:=[]) (xs:=[]) (news:=news) tbN rfl rfl rfl (Nat.le_of_ble_eq_true (by kernel_rfl)) rfl rfl (fun w hw j u hj=>?_) hn h1 (Row.some (g:=b) (cur:=#[]) (Nat.le_refl 0) (by simp [maxLen]) rfl rfl) (List.Perm.refl _) h0 (by omega) fun v' Gr' hR'=>?_)
 · obtain ⟨arr,e,f0,q1,q2⟩:=hr j u hj
   rw [addr_add,cell_of (hw.view _ _ q1)];exact q2
 · (repeat' (first | refine wc_seq ?_ | refine wc_region ?_ | refine wr_nil ?_ | refine we_code ?_ | refine wc_block ?_ | refine wc_skip ?_ | refine we_blk ?_ | refine wc_exit ?_ | refine we_exit_code ?_ | refine we_exit_here ?_ | refine we_exit_on rfl ?_ | refine we_exit_lp ?_ | refine wc_ret ?_ | ((first | refine w_cons rfl ?_ | refine w_cons0 ?_ | refine w_yes rfl rfl rfl ?_);(first | refine op_move rfl ?_ | refine op_assign rfl ?_ | refine op_eql rfl rfl ?_ | refine op_neq rfl rfl ?_ | refine op_lss rfl rfl ?_ | refine op_leq rfl rfl ?_ | refine op_gtr rfl rfl ?_ | refine op_geq rfl rfl ?_ | refine op_extract rfl rfl ?_ | refine op_not rfl ?_ | refine op_pick_t rfl rfl ?_ | refine op_pick_f rfl rfl ?_ | refine op_addi rfl rfl (by omega) (by omega) ?_ | refine op_subi rfl rfl (by omega) (by omega) ?_ | refine op_muli rfl rfl (by omega) (by omega) ?_ | refine op_add rfl rfl ?_ | refine op_sub rfl rfl ?_ | refine op_mul rfl rfl ?_ | refine op_fieldAddr tbN rfl rfl ?_ | refine op_field1 tbN rfl rfl rfl ?_ | refine op_and rfl rfl ?_ | refine op_or rfl rfl ?_ | refine op_xor rfl rfl ?_ | refine op_andNot rfl rfl ?_ | refine op_shl rfl rfl (by decide) ?_ | refine op_shr rfl rfl (by decide) ?_ | refine op_eqs rfl rfl ?_ | refine op_neqs rfl rfl ?_ | refine op_eqbd rfl rfl (by kernel_rfl) ?_ | refine op_neqbd rfl rfl (by kernel_rfl) ?_ | refine op_convert tbN rfl rfl rfl ?_ | refine op_neg rfl ?_ | refine op_len tbN rfl rfl rfl ?_ | (apply op_load1 tbN rfl rfl;(· (first | (refine At.own (?_);repeat (first | exact Has.here | refine Has.there ?_)) | exact At.seen (by assumption)));(· exact rfl)) | (apply op_loadN tbN rfl rfl;(· (first | (refine At.own (?_);repeat (first | exact Has.here | refine Has.there ?_)) | exact At.seen (by assumption)));(· exact rfl)) | (apply op_store1 tbN rfl rfl rfl rfl rfl;(· (repeat (first | exact Upd.here | apply Upd.there)));(· exact rfl)) | (apply op_storeN tbN rfl rfl rfl rfl rfl;(· (repeat (first | exact Upd.here | apply Upd.there)));(· exact rfl)) | (apply op_build tbN (by kernel_rfl) rfl (rfl:tbN.fo _ 0=_);(· (repeat (first | exact Fill.nil | (apply Fill.cons;(· exact rfl);(· exact rfl);(· exact rfl);(· exact rfl);(· exact rfl)))))) | (refine op_boxN rfl ?_;intro b) | (refine op_box1 rfl rfl ?_;intro b) | (refine op_alloc tbN rfl ?_;intro b) | (apply op_buildSlice tbN;(· exact rfl);(· exact rfl);(· exact rfl);(· decide);(· (repeat (first | exact Cat.nil | (apply Cat.cons;(· exact rfl);(· exact rfl);(· exact rfl)) | exact App.nil | apply App.cons)));intro b))) | refine w_no rfl rfl rfl rfl ?_ | refine wc_cond_t rfl ?_ | refine wc_cond_f rfl ?_ | refine wc_if rfl (fun _=>?_) (fun _=>?_) | refine wc_ifn rfl (fun _=>?_) (fun _=>?_) | refine w_splitd rfl rfl (fun _=>?_) (fun _=>?_) | refine w_splitn rfl rfl (fun _=>?_) (fun _=>?_) | refine wc_ifnb rfl (fun _=>?_) (fun _=>?_) | refine wc_ifb rfl (fun _=>?_) (fun _=>?_) | refine w_splitnb rfl rfl (fun _=>?_) (fun _=>?_) | refine w_splitb rfl rfl (fun _=>?_) (fun _=>?_)))
   rw [List.append_nil]
   refine fing_ret hM hw hV0 hR Gr' (List.Sublist.refl _) (res1 rfl rfl) (hQ _ _ ?_)
   rw [Nat.zero_add,List.nil_append] at hR'
   exact hR'
end Fly
namespace Su
open Go Go.Proofs Fly
theorem sub_wholeN (l:List T):sub l 0 l.length=some l:=sub_all l
theorem fresh_plainN {P:Program} {f:Nat} {V:View} {vs:List Value} {l:List T} {e w:Nat}
 (h:Fing P f vs.toArray V [] fun v V' G'=>∃ ie,RepOB V' [ie] (.row false e w l) ie G'∧RepS V' [ie] (.osl 0 0 l.length) v):Fing P f vs.toArray V [] fun v V' _=>∃ rvs,RepA V' [.sl w l] rvs∧v=resV rvs:=by
 intro w0 hs hG hV hnd
 refine (h w0 hs hG hV hnd).mono ?_
 rintro ex w' ⟨v,V',G',rfl,hh,ie,m1,m2⟩
 have hsub:sub l 0 l.length=some l:=sub_wholeN l
 have hz:toTs 64 ⟨[],[],[.row false e w l]⟩ [.osl 0 0 l.length]=some ([.sl w l],(St.mk [] [] [.row false e w l]).frow 0 w l):=by
  simp only [toTs,toT,List.getElem?_cons_zero,hsub,Option.bind_some]
 obtain ⟨V2,G2,g2,s2,r2,_⟩:=(toT_both (I:=[ie]) (L:=[]) 64).2 ⟨[],[],[.row false e w l]⟩ _ [.osl 0 0 l.length] _ hz V' G' [v] (.cons m2 .nil) ⟨⟨G'++[],.cons m1 .nil,by rw [List.append_nil]⟩,fun d sv hd _=>by simp [St.look] at hd⟩ ⟨fun p hp=>(hh.free p (by simp [hp])).2,by have:=hh.nodup;simpa using this⟩
 exact ⟨_,V2,G2,rfl,g2.holds _ _ hh,[v],r2,rfl⟩
noncomputable def nClone_p:PrimD:=⟨List Int,fun xs=>((d1 (cQ 1 1)).dec xs).bind fun l=>bif lenN l then some l else none,fun l=>[.sl 1 (l.map eW)],none,some (175,1),fun _=>none⟩
theorem clone_lawN {V:View} {v:Value} {l:List T} (hl:l.length≤549755813888) (h:Rep V (.sl 1 l) v) :
 Fing Tryz.prog 190 #[v] V [] fun v' V' G'=>∃ ie,RepOB V' [ie] (.row false 175 1 l) ie G'∧RepS V' [ie] (.osl 0 0 l.length) v':=by
 cases h with | @sl _ _ vs a cap a1 a2 a3 a4 a5 a6 =>
 have hn:vs.length=l.length*1:=by rw [← a1.length,flat_len a3]
 by_cases h0:l=[]
 · subst h0
   cases a with
   | none=>exact c190nN ⟨.vrow,.vrow,.oslv rfl⟩
   | some a=>exact c190eN fun b=>⟨.row b 1 0,.row (by simp) (by simp [maxLen]) (by simp) (by simpa using RepA.nil) (by simp) (by simp),by
    have:=RepS.osl (V:=V) (I:=[IE.row b 1 0]) (n:=0) (off:=0) (len:=0) (b:=b) (k:=1) (ct:=0) rfl (by omega) (by simp [maxLen])
    simpa using this⟩
 · have hpos:0<l.length:=List.length_pos_iff.2 h0
   rcases a6 with a6 | ⟨b,off,rfl,a6⟩
   · exact absurd a6 h0
   · refine c190sN hn (repA_one a1 a2) a6 hpos hl fun v' Gr' hR=>?_
     obtain ⟨b',ct,rfl,b1,b2,b3⟩:=rowOf (V:=V) (I:=[.row 0 0 0]) (l:=l) hR hpos rfl a1 a2 a3
     refine ⟨.row b' 1 ct,b3.row_any,?_⟩
     have:=RepS.osl (V:=V) (I:=[IE.row b' 1 ct]) (n:=0) (off:=0) (len:=l.length) (b:=b') (k:=1) (ct:=ct) rfl (by omega) b2
     rw [Nat.zero_mul,Nat.sub_zero] at this
     exact this
theorem nClone_f (xs:List T) (y:List Int) (h:((d1 (cQ 1 1)).dec xs).bind (fun l=>bif lenN l then some l else none)=some y) (V:View) (vs:List Value) (hr:RepA V xs vs) :
 Fing Tryz.prog 190 vs.toArray V [] fun v V' G'=>∃ ie,RepOB V' [ie] (.row false 175 1 (y.map eW)) ie G'∧RepS V' [ie] (.osl 0 0 (y.map eW).length) v:=by
 obtain ⟨l,h1,h2⟩:=osm h
 obtain ⟨h3,h4⟩:=bif_some h2
 have:=soi h4;subst this
 have hr2:=(d1 (cQ 1 1)).rep h1 hr
 cases hr2 with | cons k1 k2=>cases k2 with | nil =>
 cases k1 with | ql k1 =>
 exact clone_lawN (l:=l.map eW) (by have h5:(l.map (view 1)).length=l.length:=List.length_map ..;rw [show (List.map eW l).length=l.length from h5];exact Nat.le_of_ble_eq_true h3) k1
theorem nClone_c:Ok1 Tryz.prog Su.tb btsOK.sound 190 nClone_p:=by
 refine ⟨by kernel_rfl,fun xs y h V vs _ hr=>fresh_plainN (nClone_f xs y h V vs hr),fun j hj xs y h V vs _ hr=>?_⟩
 have hj:some ((175,1):Nat×Nat)=some j:=hj
 simp only [Option.some.injEq] at hj;subst hj
 intro w0 a1 a2 a3 a4
 refine (nClone_f xs y h V vs hr w0 a1 a2 a3 a4).mono ?_
 rintro e w' ⟨v,V',G',rfl,hh,ie,m1,m2⟩
 refine ⟨v,V',G',rfl,hh,fun w l he hw=>?_⟩
 have he:[T.sl 1 (y.map eW)]=[.sl w l]:=he
 simp only [List.cons.injEq,T.sl.injEq,and_true] at he
 obtain ⟨rfl,rfl⟩:=he
 exact ⟨ie,m1,m2⟩
end Su
end
section
namespace Su
open Go Go.Proofs Fly
noncomputable def Short_p:PrimD:=prim (dc (cQ 1 1) (d1 (cI .u32))) (dc (cQ 1 1) (d1 (cQ 1 1))) Short_s
theorem Short_c:Ok1 Tryz.prog tb btsOK.sound 191 Short_p:=by
 refine ⟨by kernel_rfl,fun xs y h V vs _ hr=>?_,fun j hj=>nomatch hj⟩
 obtain ⟨p,h1,h2⟩:=osm (show ((dc (cQ 1 1) (d1 (cI .u32))).dec xs).bind Short_s=some y from h)
 have hr2:=(dc (cQ 1 1) (d1 (cI .u32))).rep h1 hr
 have hg:=(dc (cQ 1 1) (d1 (cI .u32))).rng hr2
 obtain ⟨a,b⟩:=p
 obtain ⟨h3,h4⟩:=bif_some h2
 have:=soi h4;subst this
 rw [Bool.and_eq_true,decide_eq_true_eq] at h3
 obtain ⟨⟨ha,la⟩,hb⟩:=hg
 have hb:=inR_u32.1 hb
 obtain ⟨h3a,h3b⟩:=h3
 have h3a:0<b:=h3a
 obtain ⟨B,rfl⟩:∃ B:Nat,b=(B:Int):=⟨b.toNat,by omega⟩
 cases hr2 with | cons k1 k2 =>
 cases k2 with | cons k2 k3 =>
 cases k3 with | nil =>
 cases k2 with | s k2 =>
 exact Go.Proofs.Sho.short_fing (Wd.of ha) (by omega) (by have:=hb.2;omega) (Nat.le_of_ble_eq_true h3b) k1
noncomputable def Clone_p:PrimD:=prim (d1 (cQ 1 1)) (d1 (cQ 1 1)) Clone_s
theorem Clone_c:Ok1 Tryz.prog tb btsOK.sound 190 Clone_p:=by
 refine ⟨by kernel_rfl,fun xs y h V vs hg hr=>?_,fun j hj=>nomatch hj⟩
 have hF:=nClone_c.2.1 xs y h V vs hg hr
 intro w a1 a2 a3 a4
 refine (hF w a1 a2 a3 a4).mono ?_
 rintro e w' ⟨v,V',G',rfl,hh,rvs,m1,rfl⟩
 refine ⟨_,V',G',rfl,hh,rvs,?_,rfl⟩
 have m1:RepA V' [.sl 1 (List.map (view 1) (y:List (U 1)))] rvs:=m1
 cases m1 with | cons k1 k2=>cases k2 with | nil=>exact .cons (.ql k1) .nil
noncomputable def pr_B08:Prims:=extL [(190,Clone_p),(191,Short_p)] pr_B07
theorem pr_B08_ok:PrimOK Tryz.prog tb btsOK.sound pr_B08:=extL_ok pr_B07_ok (ok_cons Clone_c (ok_cons Short_c ok_nil))
end Su
end
section
namespace Su
open Go Go.Proofs Fly
set_option maxRecDepth 100000
theorem Div_eq (fu:Nat) (a:(List Int)) (b:(List Int)):shFn tb pr_B08 (shN tb pr_B08 fu 9) fu 147 ((dc (cQ 1 1) (d1 (cQ 1 1))).enc (a,b)) ((dc (cQ 1 1) (dc (cQ 1 1) (d1 (cI .i64))))).dec=Div fu a b:=by kernel_rfl
noncomputable def Div_p:PrimD:=prim (dc (cQ 1 1) (d1 (cQ 1 1))) (dc (cQ 1 1) (dc (cQ 1 1) (d1 (cI .i64)))) (Div_s)
theorem Div_c:Ok1 Tryz.prog tb btsOK.sound 147 Div_p:=prim_ok k_ok pr_B08_ok (by kernel_rfl) fun a y hg h=>by
 obtain ⟨n,hn⟩:=Div_ok a y hg h
 exact ⟨n,9,n,(Div_eq n a.1 a.2).trans hn⟩
noncomputable def pr_B09:Prims:=extL [(147,Div_p)] pr_B08
theorem pr_B09_ok:PrimOK Tryz.prog tb btsOK.sound pr_B09:=extL_ok pr_B08_ok (ok_cons Div_c ok_nil)
end Su
end
section
namespace Su
open Go Go.Proofs Fly
set_option maxRecDepth 100000
theorem Gcd_eq (fu:Nat) (a:(List Int)) (b:(List Int)):shFn tb pr_B09 (shN tb pr_B09 fu 9) fu 146 ((dc (cQ 1 1) (d1 (cQ 1 1))).enc (a,b)) ((d1 (cQ 1 1))).dec=Gcd fu a b:=by kernel_rfl
noncomputable def Gcd_p:PrimD:=prim (dc (cQ 1 1) (d1 (cQ 1 1))) (d1 (cQ 1 1)) (Gcd_s)
theorem Gcd_c:Ok1 Tryz.prog tb btsOK.sound 146 Gcd_p:=prim_ok k_ok pr_B09_ok (by kernel_rfl) fun a y hg h=>by
 obtain ⟨n,hn⟩:=Gcd_ok a y hg h
 exact ⟨n,9,n,(Gcd_eq n a.1 a.2).trans hn⟩
noncomputable def pr_B10:Prims:=extL [(146,Gcd_p)] pr_B09
theorem pr_B10_ok:PrimOK Tryz.prog tb btsOK.sound pr_B10:=extL_ok pr_B09_ok (ok_cons Gcd_c ok_nil)
end Su
end
section
namespace Su
open Go Go.Proofs Fly
set_option maxRecDepth 100000
theorem Low_eq (fu:Nat)  (neg:Bool) (num:(List Int)) (den:(List Int)):shFn tb pr_B10 (shN tb pr_B10 fu 9) fu 65 ((dc cB (dc (cQ 1 1) (d1 (cQ 1 1)))).enc (neg,num,den)) ((d1 cRt)).dec=Low neg num den:=by kernel_rfl
noncomputable def Low_p:PrimD:=prim (dc cB (dc (cQ 1 1) (d1 (cQ 1 1)))) (d1 cRt) (Low_s)
theorem Low_c:Ok1 Tryz.prog tb btsOK.sound 65 Low_p:=prim_ok k_ok pr_B10_ok (by kernel_rfl) fun a y hg h=>⟨0,9,0,(Low_eq 0 a.1 a.2.1 a.2.2).trans (Low_ok a y hg h)⟩
noncomputable def pr_B11:Prims:=extL [(65,Low_p)] pr_B10
theorem pr_B11_ok:PrimOK Tryz.prog tb btsOK.sound pr_B11:=extL_ok pr_B10_ok (ok_cons Low_c ok_nil)
end Su
end
section
namespace Su
open Go Go.Proofs Fly
set_option maxRecDepth 100000
theorem RLow_eq (fu:Nat)  (a:(Bool×((List Int)×(List Int)))):shFn tb pr_B11 (shN tb pr_B11 fu 9) fu 66 ((d1 cRt).enc (a)) ((d1 cRt)).dec=RLow a:=by kernel_rfl
noncomputable def RLow_p:PrimD:=prim (d1 cRt) (d1 cRt) (RLow_s)
theorem RLow_c:Ok1 Tryz.prog tb btsOK.sound 66 RLow_p:=prim_ok k_ok pr_B11_ok (by kernel_rfl) fun a y hg h=>⟨0,9,0,(RLow_eq 0 a).trans (RLow_ok a y hg h)⟩
theorem RInt_eq (fu:Nat)  (x:Int):shFn tb pr_B11 (shN tb pr_B11 fu 9) fu 26 ((d1 (cI .i64)).enc (x)) ((d1 cRt)).dec=RInt x:=by kernel_rfl
noncomputable def RInt_p:PrimD:=prim (d1 (cI .i64)) (d1 cRt) (RInt_s)
theorem RInt_c:Ok1 Tryz.prog tb btsOK.sound 26 RInt_p:=prim_ok k_ok pr_B11_ok (by kernel_rfl) fun a y hg h=>⟨0,9,0,(RInt_eq 0 a).trans (RInt_ok a y hg h)⟩
theorem RDyad_eq (fu:Nat)  (neg:Bool) (m:Int) (e:Int):shFn tb pr_B11 (shN tb pr_B11 fu 9) fu 63 ((dc cB (dc (cI .u64) (d1 (cI .i64)))).enc (neg,m,e)) ((dc cRt (d1 (cI .i64)))).dec=RDyad neg m e:=by kernel_rfl
noncomputable def RDyad_p:PrimD:=prim (dc cB (dc (cI .u64) (d1 (cI .i64)))) (dc cRt (d1 (cI .i64))) (RDyad_s)
theorem RDyad_c:Ok1 Tryz.prog tb btsOK.sound 63 RDyad_p:=prim_ok k_ok pr_B11_ok (by kernel_rfl) fun a y hg h=>⟨0,9,0,(RDyad_eq 0 a.1 a.2.1 a.2.2).trans (RDyad_ok a y hg h)⟩
theorem RNeg1_eq (fu:Nat)  (a:(Bool×((List Int)×(List Int)))):shFn tb pr_B11 (shN tb pr_B11 fu 9) fu 48 ((d1 cRt).enc (a)) ((d1 cRt)).dec=RNeg1 a:=by kernel_rfl
noncomputable def RNeg1_p:PrimD:=prim (d1 cRt) (d1 cRt) (RNeg1_s)
theorem RNeg1_c:Ok1 Tryz.prog tb btsOK.sound 48 RNeg1_p:=prim_ok k_ok pr_B11_ok (by kernel_rfl) fun a y hg h=>⟨0,9,0,(RNeg1_eq 0 a).trans (RNeg1_ok a y hg h)⟩
theorem RAbs_eq (fu:Nat)  (a:(Bool×((List Int)×(List Int)))):shFn tb pr_B11 (shN tb pr_B11 fu 9) fu 17 ((d1 cRt).enc (a)) ((d1 cRt)).dec=RAbs a:=by kernel_rfl
noncomputable def RAbs_p:PrimD:=prim (d1 cRt) (d1 cRt) (RAbs_s)
theorem RAbs_c:Ok1 Tryz.prog tb btsOK.sound 17 RAbs_p:=prim_ok k_ok pr_B11_ok (by kernel_rfl) fun a y hg h=>⟨0,9,0,(RAbs_eq 0 a).trans (RAbs_ok a y hg h)⟩
noncomputable def pr_B12:Prims:=extL [(66,RLow_p),(26,RInt_p),(63,RDyad_p),(48,RNeg1_p),(17,RAbs_p)] pr_B11
theorem pr_B12_ok:PrimOK Tryz.prog tb btsOK.sound pr_B12:=extL_ok pr_B11_ok (ok_cons RLow_c (ok_cons RInt_c (ok_cons RDyad_c (ok_cons RNeg1_c (ok_cons RAbs_c ok_nil)))))
end Su
end
section
namespace Su
open Go Go.Proofs Fly
set_option maxRecDepth 100000
theorem RMul_eq (fu:Nat)  (a:(Bool×((List Int)×(List Int)))) (b:(Bool×((List Int)×(List Int)))):shFn tb pr_B12 (shN tb pr_B12 fu 9) fu 46 ((dc cRt (d1 cRt)).enc (a,b)) ((d1 cRt)).dec=RMul a b:=by kernel_rfl
noncomputable def RMul_p:PrimD:=prim (dc cRt (d1 cRt)) (d1 cRt) (RMul_s)
theorem RMul_c:Ok1 Tryz.prog tb btsOK.sound 46 RMul_p:=prim_ok k_ok pr_B12_ok (by kernel_rfl) fun a y hg h=>⟨0,9,0,(RMul_eq 0 a.1 a.2).trans (RMul_ok a y hg h)⟩
theorem RAdd_eq (fu:Nat)  (a:(Bool×((List Int)×(List Int)))) (b:(Bool×((List Int)×(List Int)))):shFn tb pr_B12 (shN tb pr_B12 fu 9) fu 43 ((dc cRt (d1 cRt)).enc (a,b)) ((d1 cRt)).dec=RAdd a b:=by kernel_rfl
noncomputable def RAdd_p:PrimD:=prim (dc cRt (d1 cRt)) (d1 cRt) (RAdd_s)
theorem RAdd_c:Ok1 Tryz.prog tb btsOK.sound 43 RAdd_p:=prim_ok k_ok pr_B12_ok (by kernel_rfl) fun a y hg h=>⟨0,9,0,(RAdd_eq 0 a.1 a.2).trans (RAdd_ok a y hg h)⟩
theorem RCmp_eq (fu:Nat)  (a:(Bool×((List Int)×(List Int)))) (b:(Bool×((List Int)×(List Int)))):shFn tb pr_B12 (shN tb pr_B12 fu 9) fu 18 ((dc cRt (d1 cRt)).enc (a,b)) ((d1 (cI .i64))).dec=RCmp a b:=by kernel_rfl
noncomputable def RCmp_p:PrimD:=prim (dc cRt (d1 cRt)) (d1 (cI .i64)) (RCmp_s)
theorem RCmp_c:Ok1 Tryz.prog tb btsOK.sound 18 RCmp_p:=prim_ok k_ok pr_B12_ok (by kernel_rfl) fun a y hg h=>⟨0,9,0,(RCmp_eq 0 a.1 a.2).trans (RCmp_ok a y hg h)⟩
noncomputable def pr_B13:Prims:=extL [(46,RMul_p),(43,RAdd_p),(18,RCmp_p)] pr_B12
theorem pr_B13_ok:PrimOK Tryz.prog tb btsOK.sound pr_B13:=extL_ok pr_B12_ok (ok_cons RMul_c (ok_cons RAdd_c (ok_cons RCmp_c ok_nil)))
end Su
end
section
namespace Su
open Go Go.Proofs Fly
set_option maxRecDepth 100000
theorem RSub_eq (fu:Nat)  (a:(Bool×((List Int)×(List Int)))) (b:(Bool×((List Int)×(List Int)))):shFn tb pr_B13 (shN tb pr_B13 fu 9) fu 16 ((dc cRt (d1 cRt)).enc (a,b)) ((d1 cRt)).dec=RSub a b:=by kernel_rfl
noncomputable def RSub_p:PrimD:=prim (dc cRt (d1 cRt)) (d1 cRt) (RSub_s)
theorem RSub_c:Ok1 Tryz.prog tb btsOK.sound 16 RSub_p:=prim_ok k_ok pr_B13_ok (by kernel_rfl) fun a y hg h=>⟨0,9,0,(RSub_eq 0 a.1 a.2).trans (RSub_ok a y hg h)⟩
theorem PVal_eq (fu:Nat)  (f:Int):shFn tb pr_B13 (shN tb pr_B13 fu 9) fu 14 ((d1 (cI .u64)).enc (f)) ((dc cRt (d1 cB))).dec=PVal f:=by kernel_rfl
noncomputable def PVal_p:PrimD:=prim (d1 (cI .u64)) (dc cRt (d1 cB)) (PVal_s)
theorem PVal_c:Ok1 Tryz.prog tb btsOK.sound 14 PVal_p:=prim_ok k_ok pr_B13_ok (by kernel_rfl) fun a y hg h=>⟨0,9,0,(PVal_eq 0 a).trans (PVal_ok a y hg h)⟩
noncomputable def pr_B14:Prims:=extL [(16,RSub_p),(14,PVal_p)] pr_B13
theorem pr_B14_ok:PrimOK Tryz.prog tb btsOK.sound pr_B14:=extL_ok pr_B13_ok (ok_cons RSub_c (ok_cons PVal_c ok_nil))
end Su
end
section
namespace Su
open Go Go.Proofs Fly
set_option maxRecDepth 100000
theorem pMax_eq (fu:Nat) (l:(List Int)):shFn tb pr_B14 (shN tb pr_B14 fu 9) fu 127 ((d1 (cQ 2 1)).enc (l)) ((d1 (cI .u64))).dec=pMax fu l:=by kernel_rfl
noncomputable def pMax_p:PrimD:=prim (d1 (cQ 2 1)) (d1 (cI .u64)) (pMax_s)
theorem pMax_c:Ok1 Tryz.prog tb btsOK.sound 127 pMax_p:=prim_ok k_ok pr_B14_ok (by kernel_rfl) fun a y hg h=>by
 obtain ⟨n,hn⟩:=pMax_ok a y hg h
 exact ⟨n,9,n,(pMax_eq n a).trans hn⟩
theorem pMin_eq (fu:Nat) (l:(List Int)):shFn tb pr_B14 (shN tb pr_B14 fu 9) fu 162 ((d1 (cQ 2 1)).enc (l)) ((d1 (cI .u64))).dec=pMin fu l:=by kernel_rfl
noncomputable def pMin_p:PrimD:=prim (d1 (cQ 2 1)) (d1 (cI .u64)) (pMin_s)
theorem pMin_c:Ok1 Tryz.prog tb btsOK.sound 162 pMin_p:=prim_ok k_ok pr_B14_ok (by kernel_rfl) fun a y hg h=>by
 obtain ⟨n,hn⟩:=pMin_ok a y hg h
 exact ⟨n,9,n,(pMin_eq n a).trans hn⟩
noncomputable def pr_C06:Prims:=extL [(127,pMax_p),(162,pMin_p)] pr_B14
theorem pr_C06_ok:PrimOK Tryz.prog tb btsOK.sound pr_C06:=extL_ok pr_B14_ok (ok_cons pMax_c (ok_cons pMin_c ok_nil))
end Su
end
section
namespace Su
open Go Go.Proofs Fly
set_option maxRecDepth 100000
theorem aFin_eq (fu:Nat)  (f:Int):shFn tb pr_C06 (shN tb pr_C06 fu 9) fu 107 ((d1 (cI .u64)).enc (f)) ((d1 cB)).dec=aFin f:=by kernel_rfl
noncomputable def aFin_p:PrimD:=prim (d1 (cI .u64)) (d1 cB) (aFin_s)
theorem aFin_c:Ok1 Tryz.prog tb btsOK.sound 107 aFin_p:=prim_ok k_ok pr_C06_ok (by kernel_rfl) fun a y hg h=>⟨0,9,0,(aFin_eq 0 a).trans (aFin_ok a y hg h)⟩
theorem aZero_eq (fu:Nat)  (f:Int):shFn tb pr_C06 (shN tb pr_C06 fu 9) fu 106 ((d1 (cI .u64)).enc (f)) ((d1 cB)).dec=aZero f:=by kernel_rfl
noncomputable def aZero_p:PrimD:=prim (d1 (cI .u64)) (d1 cB) (aZero_s)
theorem aZero_c:Ok1 Tryz.prog tb btsOK.sound 106 aZero_p:=prim_ok k_ok pr_C06_ok (by kernel_rfl) fun a y hg h=>⟨0,9,0,(aZero_eq 0 a).trans (aZero_ok a y hg h)⟩
noncomputable def pr_C14z:Prims:=extL [(107,aFin_p),(106,aZero_p)] pr_C06
theorem pr_C14z_ok:PrimOK Tryz.prog tb btsOK.sound pr_C14z:=extL_ok pr_C06_ok (ok_cons aFin_c (ok_cons aZero_c ok_nil))
end Su
end
section
namespace Su
open Go Go.Proofs Fly
set_option maxRecDepth 100000
theorem Len64_eq (fu:Nat)  (x:Int):shFn tb pr_C14z (shN tb pr_C14z fu 9) fu 219 ((d1 (cI .u64)).enc (x)) ((d1 (cI .i64))).dec=Len64 x:=by kernel_rfl
noncomputable def Len64_p:PrimD:=prim (d1 (cI .u64)) (d1 (cI .i64)) (Len64_s)
theorem Len64_c:Ok1 Tryz.prog tb btsOK.sound 219 Len64_p:=prim_ok k_ok pr_C14z_ok (by kernel_rfl) fun a y hg h=>⟨0,9,0,(Len64_eq 0 a).trans (Len64_ok a y hg h)⟩
theorem wMul_eq (fu:Nat)  (a:Int) (b:Int):shFn tb pr_C14z (shN tb pr_C14z fu 9) fu 209 ((dc (cI .u64) (d1 (cI .u64))).enc (a,b)) ((d1 cW)).dec=wMul a b:=by kernel_rfl
noncomputable def wMul_p:PrimD:=prim (dc (cI .u64) (d1 (cI .u64))) (d1 cW) (wMul_s)
theorem wMul_c:Ok1 Tryz.prog tb btsOK.sound 209 wMul_p:=prim_ok k_ok pr_C14z_ok (by kernel_rfl) fun a y hg h=>⟨0,9,0,(wMul_eq 0 a.1 a.2).trans (wMul_ok a y hg h)⟩
theorem wAdd_eq (fu:Nat)  (a:(Int×Int)) (b:(Int×Int)):shFn tb pr_C14z (shN tb pr_C14z fu 9) fu 223 ((dc cW (d1 cW)).enc (a,b)) ((dc cW (d1 (cI .u64)))).dec=wAdd a b:=by kernel_rfl
noncomputable def wAdd_p:PrimD:=prim (dc cW (d1 cW)) (dc cW (d1 (cI .u64))) (wAdd_s)
theorem wAdd_c:Ok1 Tryz.prog tb btsOK.sound 223 wAdd_p:=prim_ok k_ok pr_C14z_ok (by kernel_rfl) fun a y hg h=>⟨0,9,0,(wAdd_eq 0 a.1 a.2).trans (wAdd_ok a y hg h)⟩
theorem wSub_eq (fu:Nat)  (a:(Int×Int)) (b:(Int×Int)):shFn tb pr_C14z (shN tb pr_C14z fu 9) fu 224 ((dc cW (d1 cW)).enc (a,b)) ((dc cW (d1 (cI .u64)))).dec=wSub a b:=by kernel_rfl
noncomputable def wSub_p:PrimD:=prim (dc cW (d1 cW)) (dc cW (d1 (cI .u64))) (wSub_s)
theorem wSub_c:Ok1 Tryz.prog tb btsOK.sound 224 wSub_p:=prim_ok k_ok pr_C14z_ok (by kernel_rfl) fun a y hg h=>⟨0,9,0,(wSub_eq 0 a.1 a.2).trans (wSub_ok a y hg h)⟩
noncomputable def pr_C07:Prims:=extL [(219,Len64_p),(209,wMul_p),(223,wAdd_p),(224,wSub_p)] pr_C14z
theorem pr_C07_ok:PrimOK Tryz.prog tb btsOK.sound pr_C07:=extL_ok pr_C14z_ok (ok_cons Len64_c (ok_cons wMul_c (ok_cons wAdd_c (ok_cons wSub_c ok_nil))))
end Su
end
