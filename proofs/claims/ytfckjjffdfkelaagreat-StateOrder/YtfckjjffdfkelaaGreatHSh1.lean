/-
  The law and its row.
-/
import Derived.RangeFuncNested
import Derived.RangeFuncBound
import Derived.RangeFuncCalls
import Derived.RangeFuncLeaves
import Derived.RangeFuncWrites
import Derived.Shelf.Abstract
import Derived.Shelf.RegionOpen
import Derived.WalkKit
import Derived.OwnWalkIn
import Derived.TacticsInMore
import Derived.LoopNIn
import Derived.LoopIn
import Derived.Test.YtfckjjffdfkelaaGreatProg
import Derived.Test.YtfckjjffdfkelaaGreatFlyM
import Derived.Test.YtfckjjffdfkelaaGreatNC01
import Derived.Test.YtfckjjffdfkelaaGreatSuTb
import Derived.Test.YtfckjjffdfkelaaGreatNB05
set_option maxRecDepth 10000
section
namespace Go.Proofs.Sho
open Go Go.RowKit Go.Shelf Go.Proofs
attribute [local go_sem] Oper.semAt_some
abbrev Wo (len:Nat):={ x:Nat×Nat // x.1<len∧x.2<4294967296 }
def enW {len:Nat} (x:Wo len):Array Value:=#[.int .i64 (x.1.1:Int),.int .u32 (x.1.2:Int)]
theorem qcn {zs:List Nat} (hz:∀ z∈zs,z<4294967296) (j:Nat):zs[j]?.getD 0<4294967296:=by
 cases h:zs[j]? with
 | none=>simp
 | some z=>simpa using hz z (List.mem_of_getElem? h)
def Kb (n₀ B:Nat) (W W':World):Prop:=Below n₀ W W'∧W'.heap[B]?=W.heap[B]?
theorem Kb.trans {n₀ B:Nat} {X Y Z:World} (h:Kb n₀ B X Y) (k:Kb n₀ B Y Z):Kb n₀ B X Z:=⟨h.1.trans k.1,k.2.trans h.2⟩
theorem Kb.refl (n₀ B:Nat) (W:World):Kb n₀ B W W:=⟨Below.refl _ _,rfl⟩
def back {zs:List Nat} (hz:∀ z∈zs,z<4294967296) (h0:0<zs.length) (k:Nat):List (Wo zs.length) :=
 (List.range k).map fun j=>⟨(zs.length-1-j,zs[zs.length-1-j]?.getD 0),by simp only [];omega,qcn hz _⟩
theorem qhC {zs:List Nat} (hz:∀ z∈zs,z<4294967296) (h0:0<zs.length) (k:Nat) :
 back hz h0 (k+1)=back hz h0 k++[⟨(zs.length-1-k,zs[zs.length-1-k]?.getD 0),by simp only [];omega,qcn hz _⟩]:=by
 simp [back,List.range_succ]
theorem qvH {zs:List Nat} (hz:∀ z∈zs,z<4294967296) (h0:0<zs.length) (k:Nat):(back hz h0 k).length=k:=by simp [back]
theorem qhD {zs:List Nat} (hz:∀ z∈zs,z<4294967296) (h0:0<zs.length) {m:Nat} (hm:m<zs.length) :
 back hz h0 (zs.length-m)=back hz h0 (zs.length-(m+1))++[⟨(m,zs[m]?.getD 0),hm,qcn hz _⟩]:=by
 have h1:zs.length-m=zs.length-(m+1)+1:=by omega
 rw [h1,qhC]
 congr 2
 have h2:zs.length-1-(zs.length-(m+1))=m:=by omega
 exact Subtype.ext (by simp only [h2])
set_option maxRecDepth 100000 in
set_option maxHeartbeats 2000000 in
theorem qvI (F:Fence) (n:Nat) (h7:F.fn 234) (hro:F.round=none) (hn:1≤n) (l Bs n₀ b off cap:Nat) (zs:List Nat) (hz:∀ z∈zs,z<4294967296) (hl:0<zs.length) (hreach:zs.length≤549755813888) (hb:b<n₀) (J Jx:List (Wo zs.length)→World→Prop)
 (hY:∀ pre x W,J pre W→pre.length<zs.length→YieldAt F (n-1) Tryz.prog l (enW x) W fun e W' =>
   (e = .returned (.bool true)∧J (pre++[x]) W'∧Kb n₀ Bs W W')∨(e = .returned (.bool false)∧Jx (pre++[x]) W'))
 (W:World) (hBs:W.cell? ⟨Bs,0,none⟩=some (.slice (some ⟨b,off,none⟩) zs.length cap)) (hc:∀ j,j<zs.length→W.cell? ⟨b,off+j,none⟩=some (.int .u32 ((zs[j]?.getD 0:Nat):Int))) (h0:J [] W) :
 CallsIn F n Tryz.prog 234 #[.func (.yield l) #[] #[],.pointer (some ⟨Bs,0,none⟩)] W fun e W'=>(∃ v,e = .returned v) ∧
  ((∃ ys,ys=back hz hl zs.length∧J ys W')∨(∃ pre,(∃ k,k≤zs.length∧pre=back hz hl k)∧Jx pre W')):=by
 refine callsIn_of_wp Tryz.func234 rfl h7 ?_ hro
 simp only [Tryz.ntmps234,List.size_toArray,List.length_cons,List.length_nil,Nat.reduceAdd,Nat.reduceSub,Array.replicate_succ,Array.replicate_zero,List.push_toArray,List.append_toArray,List.nil_append,List.cons_append]
 gi_wp2
 gi_loopw [3] (fun i wr=>∃ m:Nat,m≤zs.length∧i = .int .i64 ((m:Int)-1)∧J (back hz hl (zs.length-m)) wr∧Kb n₀ Bs W wr)
  (fun i _=>(intOf i+1).toNat)
 case atStart =>
  refine ⟨zs.length,Nat.le_refl _,?_,?_,Kb.refl _ _ _⟩
  · rfl
  · rw [Nat.sub_self];exact h0
 case round =>
  obtain ⟨m,hm,rfl,hJs,hnx⟩:=hrel
  have hBs':wr.cell? ⟨Bs,0,none⟩=some (.slice (some ⟨b,off,none⟩) zs.length cap):=(World.cell?_of_block (a:=⟨Bs,0,none⟩) hnx.2).trans hBs
  cases m with
  | zero =>
   have e0:(((0:Nat):Int)-1) = -1:=rfl
   rw [e0]
   gi_wp2
   go_end0
   exact ⟨⟨_,rfl⟩,.inl ⟨_,rfl,hJs⟩⟩
  | succ m =>
   have e0:(((m+1:Nat):Int)-1)=(m:Int):=by omega
   rw [e0]
   have hcx:wr.cell? ⟨b,off+m,none⟩=some (.int .u32 ((zs[m]?.getD 0:Nat):Int)):=(hnx.1.cell (p:=⟨b,off+m,none⟩) hb).trans (hc m (by omega))
   obtain ⟨fn,tmps,assign,body,hy,hR⟩:=hY _ ⟨(m,zs[m]?.getD 0),by simp only [];omega,qcn hz _⟩ wr hJs (by rw [qvH];omega)
   dsimp only [enW] at hy
   gi_wp2
   refine hR.mono ?_
   rintro e W3 (⟨rfl,hJ3,hk3⟩ | ⟨rfl,hJx3⟩)
   · gi_wp2
     go_roundw
     case rel =>
      exact ⟨m,by omega,rfl,by rw [qhD hz hl (by omega)];exact hJ3,hnx.trans hk3⟩
     case measure=>simp only [intOf];omega
   · gi_wp2
     refine bodyPost_ret (results_none rfl _ _ _) rfl ?_
     exact ⟨⟨_,rfl⟩,.inr ⟨_,⟨zs.length-m,by omega,(qhD hz hl (by omega)).symm⟩,hJx3⟩⟩
theorem qlP (F:Fence) (n:Nat) (h7:F.fn 234) (hro:F.round=none) (l Bs:Nat) (sa:Option Addr) (cap:Nat) (K:World→Prop) (W:World) (hBs:W.cell? ⟨Bs,0,none⟩=some (.slice sa 0 cap)) (h0:K W) :
 CallsIn F n Tryz.prog 234 #[.func (.yield l) #[] #[],.pointer (some ⟨Bs,0,none⟩)] W fun e W'=>(∃ v,e = .returned v)∧K W':=by
 refine callsIn_of_wp Tryz.func234 rfl h7 ?_ hro
 simp only [Tryz.ntmps234,List.size_toArray,List.length_cons,List.length_nil,Nat.reduceAdd,Nat.reduceSub,Array.replicate_succ,Array.replicate_zero,List.push_toArray,List.append_toArray,List.nil_append,List.cons_append]
 gi_wp2
 gi_loopw [3] (fun i wr=>i = .int .i64 (-1)∧K wr) (fun _ _=>0)
 case atStart=>exact ⟨rfl,h0⟩
 case round =>
  obtain ⟨rfl,hJs⟩:=hrel
  gi_wp2
  go_end0
  exact ⟨⟨_,rfl⟩,hJs⟩
set_option maxHeartbeats 1000000 in
theorem qlQ (F:Fence) (n:Nat) (h5:F.fn 220) (hro:F.round=none) (a:Option Addr) (len cap:Nat) (w:World) :
 CallsIn F n Tryz.prog 220 #[.slice a len cap] w fun e w'=>e = .returned (.func (.func 234) #[] #[.pointer (some ⟨w.heap.size,0,none⟩)])∧w'=w.alloc (.cells #[.slice a len cap] 39):=by
 refine callsIn_of_wp Tryz.func220 rfl h5 ?_ hro
 simp only [Tryz.ntmps220,List.size_toArray,List.length_cons,List.length_nil,Nat.reduceAdd,Nat.reduceSub,Array.replicate_succ,Array.replicate_zero,List.push_toArray,List.append_toArray,List.nil_append,List.cons_append]
 gi_wp2
 go_ret
 exact ⟨rfl,rfl⟩
def qhE (n₀:Nat) (W:World) (sv:Value) (zs:List Nat):Prop :=
 (zs=[]∧∃ a cap,sv = .slice a 0 cap)∨∃ b off cap,sv = .slice (some ⟨b,off,none⟩) zs.length cap∧b<n₀∧∀ j,j<zs.length→W.cell? ⟨b,off+j,none⟩=some (.int .u32 ((zs[j]?.getD 0:Nat):Int))
theorem qhE.below {n₀:Nat} {A B:World} (h:Below n₀ A B) {sv:Value} {zs:List Nat}:qhE n₀ A sv zs→qhE n₀ B sv zs
 | .inl e=>.inl e
 | .inr ⟨b,off,cap,e,hb,hc⟩=>.inr ⟨b,off,cap,e,hb,fun j hj=>(h.cell (p:=⟨b,off+j,none⟩) hb).trans (hc j hj)⟩
def All {zs:List Nat} (hz:∀ z∈zs,z<4294967296) (ys:List (Wo zs.length)):Prop:=ys=[]∧zs.length=0∨∃ hl:0<zs.length,ys=back hz hl zs.length
theorem qnp (F:Fence) (n:Nat) (h7:F.fn 234) (hro:F.round=none) (hn:1≤n) (Bs n₀:Nat) (sv:Value) (zs:List Nat) (hz:∀ z∈zs,z<4294967296) (hreach:zs.length≤549755813888) (w:World) (hBs:Bs<w.heap.size) (hn₀:n₀≤w.heap.size)
 (hc:w.cell? ⟨Bs,0,none⟩=some sv) (hI:qhE n₀ w sv zs) :
 SeqStopsK F n Tryz.prog 234 #[.pointer (some ⟨Bs,0,none⟩)] (fun x:Wo zs.length=>enW x) (Kb n₀ Bs) (All hz) (fun _=>True) zs.length w:=fun l J Jx W hW _ _ hY h0=>by
 have hc':=(hW.cell (p:=⟨Bs,0,none⟩) hBs).trans hc
 rcases hI.below (hW.mono hn₀) with ⟨h1,a,cap,rfl⟩ | ⟨b,off,cap,rfl,hb,hcs⟩
 · exact (qlP F n h7 hro l Bs a cap (J []) W hc' h0).mono fun e W' ⟨he,hj⟩=>⟨he,.inl ⟨_,.inl ⟨rfl,by rw [h1];rfl⟩,hj⟩⟩
 · by_cases hl:0<zs.length
   · refine (qvI F n h7 hro hn l Bs n₀ b off cap zs hz hl hreach hb J Jx hY W hc' hcs h0).mono ?_
     rintro e W' ⟨he,⟨ys,rfl,hj⟩ | ⟨pre,_,hj⟩⟩
     · exact ⟨he,.inl ⟨_,.inr ⟨hl,rfl⟩,hj⟩⟩
     · exact ⟨he,.inr ⟨_,trivial,hj⟩⟩
   · have h2:zs.length=0:=by omega
     rw [h2] at hc'
     exact (qlP F n h7 hro l Bs _ cap (J []) W hc' h0).mono fun e W' ⟨he,hj⟩=>⟨he,.inl ⟨_,.inl ⟨rfl,h2⟩,hj⟩⟩
end Go.Proofs.Sho
end
section
namespace Go.Proofs.Sho
open Go Go.RowKit Go.Shelf Go.Proofs
attribute [local go_sem] Oper.semAt_some
theorem qHQ (n:Nat):madeCells (Value.int .u32 0).cells n=Array.replicate n (.int .u32 0):=by
 apply Array.ext
 · simp [size_madeCells]
 · intro i h1 h2
   simp [madeCells,Value.cells,Nat.mod_one]
theorem qAx:(Tryz.prog.info? 175).map (fun i=>(i.zero,i.size,i.bytes))=some (some (.int .u32 0),1,4):=by kernel_rfl
theorem qHR (n:Nat) (hn:n≤549755813888) (w:World) :
 (Instr.makeSlice 38 (.int .i64 (n:Int)) (.int .i64 (n:Int))).run Tryz.prog w = .ok (.slice (some ⟨w.heap.size,0,none⟩) n n) (w.alloc (.cells (Array.replicate n (.int .u32 0)) 175)):=by
 obtain ⟨i,hi,h1,h2,h3⟩:=info_parts qAx
 have h:=run_make (P:=Tryz.prog) w 38 175 i (.int .u32 0) (by kernel_rfl) hi h1 .i64 .i64 (n:Int) (n:Int) (by omega) (Int.le_refl _) (by rw [h3];omega) (by omega)
 rw [Int.toNat_natCast,h2,Nat.mul_one,qHQ] at h
 exact h
theorem qay {W:World} {B:Nat} {o:Obj} (h:W.heap[B]?=some o) (o':Obj):(W.alloc o').heap[B]?=some o:=((World.grownBy_alloc W o' none).block B (Array.getElem?_eq_some_iff.1 h).1 (by simp)).trans h
theorem qvJ (W:World) (k:Nat) (hk:W.heap.size=k) (o:Obj):(W.alloc o).heap[k]?=some o:=by subst hk;exact World.alloc_heap_new W o
theorem qd7 {W:World} {a:Addr} {v:Value} {B:Nat} (h:a.block≠B):(W.setCell a v).heap[B]?=W.heap[B]?:=by
 show (W.heap.modify a.block _)[B]?=_
 rw [Array.getElem?_modify,if_neg h]
theorem qFJ {W:World} {B i:Nat} {v:Value} {c:Array Value} {t:TypeId} {fr:Nat×Nat} (h:W.heap[B]?=some (.cells c t fr)):(W.setCell ⟨B,i,none⟩ v).heap[B]?=some (.cells (c.setIfInBounds i v) t fr):=by
 show (W.heap.modify B _)[B]?=_
 rw [Array.getElem?_modify,if_pos rfl,h];rfl
theorem ZB {W:World} {B i:Nat} {c:Array Value} {t:TypeId} {fr:Nat×Nat} {v:Value} (h:W.heap[B]?=some (.cells c t fr)) (hi:c[i]?=some v):W.cell? ⟨B,i,none⟩=some v:=by
 simp [World.cell?,h,hi]
theorem qpx {W:World} {B i:Nat} {c:Array Value} {t:TypeId} (h:W.heap[B]?=some (.cells c t (0,0))):W.frozen? ⟨B,i,none⟩=false:=by
 simp [World.frozen?,h]
theorem qpy {W W':World} {row:Option Nat} {B:Nat} {c:Array Value} {t:TypeId} {fr:Nat×Nat} (h:W.heap[B]?=some (.cells c t fr)) (hg:W.grownBy W' row) (hr:∀ r,row=some r→∃ o:Obj,W.heap[r]?=some o∧o.isCells=false):W'.heap[B]?=some (.cells c t fr) :=
 (hg.block B (Array.getElem?_eq_some_iff.1 h).1 (fun e=>by
   obtain ⟨o,ho,hc⟩:=hr B e.symm
   rw [h] at ho;cases ho;cases hc)).trans h
theorem qco {n:Int} (h0:0≤n) (h1:n<18446744073709551616):IntKind.u64.wrap n=n:=by rw [IntKind.wrap_u64];omega
theorem qf9 (n:Int):IntKind.u32.wrap n=n % 4294967296:=IntKind.wrap_u32 n
theorem qAy {x y r:Nat} (hr:x<2^r):x ||| y*2^r=x+y*2^r:=by
 have:=Nat.two_pow_add_eq_or_of_lt hr y
 rw [Nat.mul_comm,Nat.or_comm,← this];omega
theorem qHS {R v:Nat} (hR:R<4294967296) (hv:v<4294967296):bits BinOp.or IntKind.u64 ((R:Int)*4294967296) (v:Int)=((R*4294967296+v:Nat):Int):=by
 have h:=Fly.qeO (a:=R*4294967296) (b:=v) (by omega) (by omega)
 rw [Nat.or_comm,qAy (x:=v) (y:=R) (r:=32) (by simpa using hv),Nat.add_comm v] at h
 rw [← h,Int.natCast_mul];rfl
def stp (b:Nat) {len:Nat} (s:Nat×List Nat) (x:Wo len):Nat×List Nat:=((s.1*4294967296+x.1.2) % b,s.2.set x.1.1 ((s.1*4294967296+x.1.2) / b % 4294967296))
def sf (b:Nat) {len:Nat} (pre:List (Wo len)):Nat×List Nat:=pre.foldl (stp b) (0,List.replicate len 0)
theorem qjr (b:Nat) {len:Nat} (pre:List (Wo len)) (x:Wo len):sf b (pre++[x])=stp b (sf b pre) x:=by simp [sf]
theorem qvK {b:Nat} (hb:0<b) {len:Nat} (pre:List (Wo len)):(sf b pre).1<b:=by
 have:∀ (l:List (Wo len)) (s:Nat×List Nat),s.1<b→(l.foldl (stp b) s).1<b:=by
  intro l
  induction l with
  | nil=>exact fun s h=>h
  | cons x l ih=>exact fun s _=>ih _ (Nat.mod_lt _ hb)
 exact this pre _ hb
theorem qnq (b:Nat) {len:Nat} (pre:List (Wo len)):(sf b pre).2.length=len:=by
 have:∀ (l:List (Wo len)) (s:Nat×List Nat),s.2.length=len→(l.foldl (stp b) s).2.length=len:=by
  intro l
  induction l with
  | nil=>exact fun s h=>h
  | cons x l ih=>exact fun s h=>ih _ (by simp [stp,h])
 exact this pre _ (by simp)
def Hid (p:Prop):Prop:=p
def vW (n:Nat):Value:=.int .u32 (n:Int)
structure Inv (B b:Nat) {len:Nat} (pre:List (Wo len)) (W:World):Prop where
 h0:W.heap[B]?=some (Obj.cells #[.int .u32 (b:Int)] 175 (0,0))
 h1:W.heap[B+1]?=some (Obj.cells ((sf b pre).2.map vW).toArray 175 (0,0))
 h2:W.heap[B+2]?=some (Obj.cells #[.slice (some ⟨B+1,0,none⟩) len len] 38 (0,0))
 h3:W.heap[B+3]?=some (Obj.cells #[.int .u64 ((sf b pre).1:Int)] 44 (0,0))
theorem Inv.own (B b:Nat) (len:Nat):Own (fun (pre:List (Wo len)) W=>Inv B b pre W) :=
 fun _ _ _ _ hs hg hr=>⟨qpy hs.h0 hg hr,qpy hs.h1 hg hr,qpy hs.h2 hg hr,qpy hs.h3 hg hr⟩
def qvL:Code :=
 Code.region 9
  #[{ dst:=some 34,op:=Op.load 38 (Operand.tmp 6),type:=38,pos:="nat.go:158",after:=#[],
      guard:=none },
    { dst:=some 35,
      op:=Op.call { callee:=Callee.value (Operand.func 148),args:=#[Operand.tmp 34],argTypes:=#[38] },
      type:=39,pos:="nat.go:158",after:=#[{ on:=0,ground:=Ground.data }],guard:=none },
    { dst:=some 36,op:=Op.load 44 (Operand.tmp 7),type:=44,pos:="nat.go:158",after:=#[],
      guard:=none },
    { dst:=some 37,
      op:=Op.call { callee:=Callee.value (Operand.func 78),args:=#[Operand.tmp 36],argTypes:=#[44] },
      type:=39,pos:="nat.go:158",
      after:=#[{ on:=2,ground:=Ground.data },{ on:=1,ground:=Ground.chain }],guard:=none },
    { dst:=some 4,op:=Op.assign (Operand.tmp 35),type:=39,pos:="nat.go:158",
      after :=
       #[{ on:=1,ground:=Ground.data },{ on:=3,ground:=Ground.chain },
         { on:=0,ground:=Ground.phase },{ on:=1,ground:=Ground.phase },
         { on:=2,ground:=Ground.textOnly Departure.lateStores },
         { on:=3,ground:=Ground.textOnly Departure.lateStoresUnsure }],
      guard:=none },
    { dst:=some 5,op:=Op.assign (Operand.tmp 37),type:=39,pos:="nat.go:158",
      after :=
       #[{ on:=3,ground:=Ground.data },{ on:=4,ground:=Ground.chain },
         { on:=0,ground:=Ground.phase },{ on:=1,ground:=Ground.phase },
         { on:=2,ground:=Ground.phase },{ on:=3,ground:=Ground.phase },
         { on:=4,ground:=Ground.phase }],
      guard:=none }]
  true
def qFK (B D b:Nat) (sa:Option Addr) (len cap:Nat):Act :=
 { tmps:=#[.slice sa len cap,.int .u32 (b:Int),undef,.pointer (some ⟨B,0,none⟩),.slice none 0 0,.slice none 0 0,.pointer (some ⟨B+2,0,none⟩),.pointer (some ⟨B+3,0,none⟩),undef,undef,
    .slice sa len cap,.int .i64 (len:Int),.slice (some ⟨B+1,0,none⟩) len len,.slice sa len cap,.func (.func 234) #[] #[.pointer (some ⟨B+4,0,none⟩)],
    undef,undef,undef,undef,undef,undef,undef,undef,undef,undef,undef,undef,undef,undef,undef,undef,undef,undef,undef,undef,undef,undef,undef],defers:=[{ target:=.collected D,args:=#[] }] }
theorem qvM {b len i v m d r1:Nat} {pre:List (Wo len)} {w W W0 W1:World} {hi:i<len} {hv:v<4294967296} (hW1:W.setCell { block:=w.heap.size+3,off:=0 } (Value.int IntKind.u64 (r1:Int))=W1)
 (_h3:W.heap[w.heap.size+3]?=some (Obj.cells #[.int .u64 ((sf b pre).1:Int)] 44 (0,0)))
 (g0:W1.heap[w.heap.size]?=some (Obj.cells #[.int .u32 (b:Int)] 175 (0,0))) (g1:W1.heap[w.heap.size+1]?=some (Obj.cells ((sf b pre).2.map vW).toArray 175 (0,0)))
 (g2:W1.heap[w.heap.size+2]?=some (Obj.cells #[.slice (some ⟨w.heap.size+1,0,none⟩) len len] 38 (0,0))) (g3:W1.heap[w.heap.size+3]?=some (Obj.cells #[.int .u64 (r1:Int)] 44 (0,0)))
 (hst:Hid (stp b (sf b pre) (⟨(i,v),hi,hv⟩:Wo len)=(m,(sf b pre).2.set i d))) (hB:Below w.heap.size w W) (_hsz:W0.heap.size=w.heap.size+5) :
 KeepsFrom W0.heap.size W ((W1.setCell ⟨w.heap.size+1,i,none⟩ (.int .u32 (d:Int))).setCell ⟨w.heap.size+3,0,none⟩ (.int .u64 (m:Int))).drew ∧
  Kb w.heap.size (w.heap.size+4) W ((W1.setCell ⟨w.heap.size+1,i,none⟩ (.int .u32 (d:Int))).setCell ⟨w.heap.size+3,0,none⟩ (.int .u64 (m:Int))).drew ∧
  (Inv w.heap.size b (pre++[(⟨(i,v),hi,hv⟩:Wo len)]) ((W1.setCell ⟨w.heap.size+1,i,none⟩ (.int .u32 (d:Int))).setCell ⟨w.heap.size+3,0,none⟩ (.int .u64 (m:Int))).drew ∧
    Below w.heap.size w ((W1.setCell ⟨w.heap.size+1,i,none⟩ (.int .u32 (d:Int))).setCell ⟨w.heap.size+3,0,none⟩ (.int .u64 (m:Int))).drew):=by
 have hst:stp b (sf b pre) (⟨(i,v),hi,hv⟩:Wo len)=(m,(sf b pre).2.set i d):=hst
 have hbl:Below w.heap.size W ((W1.setCell ⟨w.heap.size+1,i,none⟩ (.int .u32 (d:Int))).setCell ⟨w.heap.size+3,0,none⟩ (.int .u64 (m:Int))).drew:=by
  rw [← hW1]
  exact ((((Below.refl _ W).setCell (p:=⟨w.heap.size+3,0,none⟩) (by simp) _).setCell (p:=⟨w.heap.size+1,i,none⟩) (by simp) _).setCell (p:=⟨w.heap.size+3,0,none⟩) (by simp) _).drew
 refine ⟨?_,⟨hbl,?_⟩,⟨?_,?_,?_,?_⟩,hB.trans hbl⟩
 · rw [← hW1]
   exact ((((KeepsOthers.setCell _ _ _).trans (KeepsOthers.setCell _ _ _)).trans (KeepsOthers.setCell _ _ _)).trans (KeepsOthers.drew _)).from _
 · show ((W1.setCell _ _).setCell _ _).heap[w.heap.size+4]?=_
   rw [qd7 (by simp),qd7 (by simp),← hW1,qd7 (by simp)]
 · show ((W1.setCell _ _).setCell _ _).heap[w.heap.size]?=_
   rw [qd7 (by simp),qd7 (by simp)];exact g0
 · show ((W1.setCell _ _).setCell _ _).heap[w.heap.size+1]?=_
   rw [qd7 (by simp),qFJ g1,qjr,hst]
   simp [List.map_set,vW]
 · show ((W1.setCell _ _).setCell _ _).heap[w.heap.size+2]?=_
   rw [qd7 (by simp),qd7 (by simp)];exact g2
 · show ((W1.setCell _ _).setCell _ _).heap[w.heap.size+3]?=_
   rw [qFJ ((qd7 (by simp)).trans g3),qjr,hst];rfl
set_option maxRecDepth 100000 in
set_option maxHeartbeats 4000000 in
theorem qvN (F:Fence) (n:Nat) (h3:F.fn 191) (h5:F.fn 220) (h7:F.fn 234) (hro:F.round=none) (hn:3≤n) (sa:Option Addr) (cap:Nat) (b:Nat) (hb0:0<b) (hb1:b<4294967296) (zs:List Nat) (hz:∀ z∈zs,z<4294967296) (hreach:zs.length≤549755813888) (w:World)
 (hI:qhE w.heap.size w (.slice sa zs.length cap) zs) {Q:Ending→World→Prop}
 (hdone:∀ (D:Nat) (ys:List (Wo zs.length)) (W:World) (Kc:Act→World→Prop),(∀ a w',Code.wpIn F n Tryz.prog Code.ret (bodyPostM F n Tryz.prog Tryz.f191 Q) a w'→Kc a w')→w.heap.size+5≤D→All hz ys→Inv w.heap.size b ys W→Below w.heap.size w W →
   W.heap[D]?=some (.deferred (some []))→Code.wpIn F n Tryz.prog qvL (Exit.then Kc (bodyPostM F n Tryz.prog Tryz.f191 Q)) (qFK w.heap.size D b sa zs.length cap) W) :
 CallsIn F n Tryz.prog 191 #[.slice sa zs.length cap,.int .u32 (b:Int)] w Q:=by
 have h1:1≤n:=by omega
 refine callsIn_of_wp_marks Tryz.func191 rfl h3 ?_ hro
 simp only [Tryz.ntmps191,List.size_toArray,List.length_cons,List.length_nil,Nat.reduceAdd,Nat.reduceSub,Array.replicate_succ,Array.replicate_zero,List.push_toArray,List.append_toArray,List.nil_append,List.cons_append]
 have hmk:=qHR zs.length hreach
 gi_wp2_with (gi_at_call 220;refine (qlQ F (n-1) h5 hro _ _ _ _).mono ?_;rintro e w' ⟨rfl,rfl⟩)
 obtain ⟨W0,hW0⟩:∃ W0,((((w.alloc (Obj.cells #[Value.int IntKind.u32 (b:Int)] 175)).alloc (Obj.cells (Array.replicate zs.length (Value.int IntKind.u32 0)) 175)).alloc
  (Obj.cells #[Value.slice (some { block:=w.heap.size+1,off:=0 }) zs.length zs.length] 38)).alloc (Obj.cells #[Value.int IntKind.u64 0] 44)).alloc (Obj.cells #[Value.slice sa zs.length cap] 39)=W0:=⟨_,rfl⟩
 rw [hW0]
 have hB0:Below w.heap.size w W0:=by rw [← hW0];exact (((((Below.refl _ w).alloc (Nat.le_refl _) _).alloc (by simp) _).alloc (by simp;omega) _).alloc (by simp;omega) _).alloc (by simp;omega) _
 have hsz:W0.heap.size=w.heap.size+5:=by rw [← hW0];simp only [World.size_alloc]
 have hJ0:Inv w.heap.size b ([]:List (Wo zs.length)) W0:=by
  rw [← hW0]
  refine ⟨qay (qay (qay (qay (qvJ _ _ rfl _) _) _) _) _,?_,qay (qay (qvJ _ _ (by simp only [World.size_alloc]) _) _) _,qay (qvJ _ _ (by simp only [World.size_alloc]) _) _⟩
  have e:((sf b ([]:List (Wo zs.length))).2.map vW).toArray=Array.replicate zs.length (Value.int IntKind.u32 0):=by
   show ((List.replicate zs.length 0).map vW).toArray=_
   rw [List.map_replicate];exact List.toArray_replicate ..
  rw [e]
  exact qay (qay (qay (qvJ _ _ (by simp only [World.size_alloc]) _) _) _) _
 have hbx:W0.cell? ⟨w.heap.size+4,0,none⟩=some (.slice sa zs.length cap):=by
  rw [← hW0];exact ZB (qvJ _ _ (by simp only [World.size_alloc]) _) rfl
 refine wpIn_rangeFunc_ownG hro h1 (gf:=234) (lb:=#[.pointer (some ⟨w.heap.size+4,0,none⟩)]) rfl h7 (enters_of Tryz.func234 (by kernel_rfl) rfl)
  (qnp F (n-1) h7 hro (by omega) (w.heap.size+4) w.heap.size _ zs hz hreach W0 (by omega) (by omega) hbx (hI.below hB0)) Kb.trans
  (fun W l o o' hl ho hc _=>⟨belowK_b (w:=w) (Nat.le_refl _) W l o o' (by omega) ho hc (by assumption),World.putObj_heap_other (by omega)⟩) (Below.refl _ _) (fun _=>rfl)
  (fun pre W=>Inv w.heap.size b pre W∧Below w.heap.size w W)
  (fun _ _ _=>False)
  (OwnFrom.and ((Inv.own w.heap.size b zs.length).from _) (ownFrom_below (Nat.le_refl _) (by omega)))
  (fun _ _ _ _ _ hs _ _=>hs)
  ⟨hJ0,hB0⟩
  (fun x=>{ tmps:=#[.slice sa zs.length cap,.int .u32 (b:Int),undef,.pointer (some ⟨w.heap.size,0,none⟩),.slice none 0 0,.slice none 0 0,.pointer (some ⟨w.heap.size+2,0,none⟩),.pointer (some ⟨w.heap.size+3,0,none⟩),.int .i64 (x.1.1:Int),.int .u32 (x.1.2:Int),
    .slice sa zs.length cap,.int .i64 (zs.length:Int),.slice (some ⟨w.heap.size+1,0,none⟩) zs.length zs.length,.slice sa zs.length cap,.func (.func 234) #[] #[.pointer (some ⟨w.heap.size+4,0,none⟩)],.int .i64 (x.1.1:Int),.int .u32 (x.1.2:Int),
    undef,undef,undef,undef,undef,undef,undef,undef,undef,undef,undef,undef,undef,undef,undef,undef,undef,undef,undef,undef,undef],defers:=[] }) ?assign ?body ?done ?stop
 case assign =>
  intro l x W K hK
  dsimp only [enW]
  gi_wp2
  exact hK
 case body =>
  rintro l pre ⟨⟨i,v⟩,hi,hv⟩ W ⟨hS,hB⟩ _
  dsimp only at hi hv
  have c0:=ZB hS.h0 (i:=0) rfl
  have c2:=ZB hS.h2 (i:=0) rfl
  have c3:=ZB hS.h3 (i:=0) rfl
  have f3:=qpx (i:=0) hS.h3
  have f1:=qpx (i:=i) hS.h1
  have hr:=qvK hb0 pre
  have hmx:Tryz.prog.follows .mixedOrders=true:=by kernel_rfl
  have hor:bits BinOp.or IntKind.u64 (((sf b pre).1:Int)*4294967296) (v:Int)=(((sf b pre).1*4294967296+v:Nat):Int):=qHS (by omega) hv
  gi_wp2
  obtain ⟨r1,hr1⟩:∃ r1:Nat,(sf b pre).1*4294967296+v=r1:=⟨_,rfl⟩
  have hr2:((sf b pre).1:Int)*4294967296+(v:Int)=(r1:Int):=by rw [← hr1];simp
  have hr3:r1<18446744073709551616:=by omega
  rw [hr2]
  clear hor hr2
  obtain ⟨W1,hW1⟩:∃ W1,W.setCell { block:=w.heap.size+3,off:=0 } (Value.int IntKind.u64 (r1:Int))=W1:=⟨_,rfl⟩
  rw [hW1]
  have g0:W1.heap[w.heap.size]?=some (Obj.cells #[.int .u32 (b:Int)] 175 (0,0)):=by rw [← hW1,qd7 (by simp)];exact hS.h0
  have g1:W1.heap[w.heap.size+1]?=some (Obj.cells ((sf b pre).2.map vW).toArray 175 (0,0)):=by rw [← hW1,qd7 (by simp)];exact hS.h1
  have g2:W1.heap[w.heap.size+2]?=some (Obj.cells #[.slice (some ⟨w.heap.size+1,0,none⟩) zs.length zs.length] 38 (0,0)):=by rw [← hW1,qd7 (by simp)];exact hS.h2
  have g3:W1.heap[w.heap.size+3]?=some (Obj.cells #[.int .u64 (r1:Int)] 44 (0,0)):=by rw [← hW1];exact qFJ hS.h3
  have c0':=ZB g0 (i:=0) rfl
  have c2':=ZB g2 (i:=0) rfl
  have c3':=ZB g3 (i:=0) rfl
  have f3':=qpx (i:=0) g3
  have f1':=qpx (i:=i) g1
  have hb2 : ¬ ((b:Int)=0):=by omega
  have hb3 : ¬ (b=0):=by omega
  have hsl:=qnq b pre
  obtain ⟨Qi,hQi⟩:∃ Qi,(sf b pre).2[i]?=some Qi:=⟨_,List.getElem?_eq_getElem (by omega)⟩
  have c1':W1.cell? ⟨w.heap.size+1,i,none⟩=some (.int .u32 (Qi:Int)):=ZB g1 (by rw [List.getElem?_toArray,List.getElem?_map,hQi];rfl)
  have hwb:IntKind.u64.wrap (b:Int)=(b:Int):=qco (by omega) (by omega)
  obtain ⟨q,hq⟩:∃ q,r1 / b=q:=⟨_,rfl⟩
  have hql:q≤r1:=by rw [← hq];exact Nat.div_le_self _ _
  have hq1:IntKind.u64.wrap ((r1:Int) / (b:Int))=(q:Int):=by rw [← hq,← Int.natCast_ediv];exact qco (by omega) (by omega)
  obtain ⟨d,hd⟩:∃ d,q % 4294967296=d:=⟨_,rfl⟩
  have hd1:IntKind.u32.wrap (q:Int)=(d:Int):=by rw [qf9,← hd];omega
  obtain ⟨m,hm⟩:∃ m,r1 % b=m:=⟨_,rfl⟩
  have hm1:(r1:Int) % (b:Int)=(m:Int):=by rw [← hm,Int.natCast_emod]
  have hm2:(r1:Int).tmod (b:Int)=(m:Int):=by rw [Int.tmod_eq_emod_of_nonneg (by omega)];exact hm1
  have hst:Hid (stp b (sf b pre) (⟨(i,v),hi,hv⟩:Wo zs.length)=(m,(sf b pre).2.set i d)):=by
   show (((sf b pre).1*4294967296+v) % b,(sf b pre).2.set i (((sf b pre).1*4294967296+v) / b % 4294967296))=_
   rw [hr1,hm,hq,hd]
  clear hq hd hm
  gi_region_o
  all_goals gi_wp2
  all_goals exact qvM (hi:=hi) (hv:=hv) hW1 hS.h3 g0 g1 g2 g3 hst hB hsz
 case done =>
  rintro D ys W hD hA ⟨hS,hB⟩ hK
  gi_wp2
  exact hdone D ys W _ (by assumption) (by omega) hA hS hB hK
 case stop =>
  rintro D c pre W _ _ h _
  exact h.elim
end Go.Proofs.Sho
end
section
namespace Su
open Go Go.Proofs Fly
set_option maxRecDepth 100000
theorem qrj (fu:Nat)  (f:Int):qu tb qqH (shN tb qqH fu 9) fu 142 ((d1 (cI .u64)).enc (f)) ((dc cB (dc (cI .i64) (d1 (cI .u64))))).dec=qmU f:=by kernel_rfl
noncomputable def qlR:PrimD:=prim (d1 (cI .u64)) (dc cB (dc (cI .i64) (d1 (cI .u64)))) (qkZ)
theorem qvO:Ok1 Tryz.prog tb qh.sound 142 qlR:=qf qx qiJ (by kernel_rfl) fun a y hg h=>⟨0,9,0,(qrj 0 a).trans (qqJ a y hg h)⟩
theorem qvP (fu:Nat)  (neg:Bool) (exp:Int) (frac:Int):qu tb qqH (shN tb qqH fu 9) fu 197 ((dc cB (dc (cI .i64) (d1 (cI .u64)))).enc (neg,exp,frac)) ((dc (cI .u64) (d1 (cI .i64)))).dec=qtf neg exp frac:=by kernel_rfl
noncomputable def qpz:PrimD:=prim (dc cB (dc (cI .i64) (d1 (cI .u64)))) (dc (cI .u64) (d1 (cI .i64))) (Yz)
theorem qAz:Ok1 Tryz.prog tb qh.sound 197 qpz:=qf qx qiJ (by kernel_rfl) fun a y hg h=>⟨0,9,0,(qvP 0 a.1 a.2.1 a.2.2).trans (qtg a y hg h)⟩
noncomputable def JP:qw:=qL [(142,qlR),(197,qpz)] qqH
theorem Yk:qo Tryz.prog tb qh.sound JP:=qk qiJ (qe qvO (qe qAz qr))
end Su
end
section
namespace Su
open Go Go.Proofs Fly
set_option maxRecDepth 100000
theorem qrk (fu:Nat)  (f:Int):qu tb JP (shN tb JP fu 9) fu 61 ((d1 (cI .u64)).enc (f)) ((d1 (cI .u8))).dec=qmV f:=by kernel_rfl
noncomputable def qlS:PrimD:=prim (d1 (cI .u64)) (d1 (cI .u8)) (qk0)
theorem qvQ:Ok1 Tryz.prog tb qh.sound 61 qlS:=qf qx Yk (by kernel_rfl) fun a y hg h=>⟨0,9,0,(qrk 0 a).trans (qqK a y hg h)⟩
theorem qAA (fu:Nat)  (f:Int):qu tb JP (shN tb JP fu 9) fu 83 ((d1 (cI .u64)).enc (f)) ((d1 (cI .i64))).dec=qEc f:=by kernel_rfl
noncomputable def qvR:PrimD:=prim (d1 (cI .u64)) (d1 (cI .i64)) (qti)
theorem qFL:Ok1 Tryz.prog tb qh.sound 83 qvR:=qf qx Yk (by kernel_rfl) fun a y hg h=>⟨0,9,0,(qAA 0 a).trans (qyP a y hg h)⟩
theorem qAB (fu:Nat)  (neg:Bool):qu tb JP (shN tb JP fu 9) fu 157 ((d1 cB).enc (neg)) ((d1 (cI .u64))).dec=pInf neg:=by kernel_rfl
noncomputable def qvS:PrimD:=prim (d1 cB) (d1 (cI .u64)) (qtj)
theorem qFM:Ok1 Tryz.prog tb qh.sound 157 qvS:=qf qx Yk (by kernel_rfl) fun a y hg h=>⟨0,9,0,(qAB 0 a).trans (qyQ a y hg h)⟩
theorem qrl (fu:Nat) :qu tb JP (shN tb JP fu 9) fu 203 (d0.enc ()) ((d1 (cI .u64))).dec=qth :=by kernel_rfl
noncomputable def qlT:PrimD:=prim d0 (d1 (cI .u64)) (fun _=>qth)
theorem qvT:Ok1 Tryz.prog tb qh.sound 203 qlT:=qf qx Yk (by kernel_rfl) fun a y hg h=>⟨0,9,0,(qrl 0 ).trans h⟩
noncomputable def qdh:qw:=qL [(61,qlS),(83,qvR),(157,qvS),(203,qlT)] JP
theorem qdi:qo Tryz.prog tb qh.sound qdh:=qk Yk (qe qvQ (qe qFL (qe qFM (qe qvT qr))))
end Su
end
section
namespace Su
open Go Go.Proofs Fly
set_option maxRecDepth 100000
theorem qrm (fu:Nat)  (f:Int):qu tb qdh (shN tb qdh fu 9) fu 62 ((d1 (cI .u64)).enc (f)) ((dc (cI .u64) (d1 (cI .i64)))).dec=qmW f:=by kernel_rfl
noncomputable def qlU:PrimD:=prim (d1 (cI .u64)) (dc (cI .u64) (d1 (cI .i64))) (qk1)
theorem qvU:Ok1 Tryz.prog tb qh.sound 62 qlU:=qf qx qdi (by kernel_rfl) fun a y hg h=>⟨0,9,0,(qrm 0 a).trans (qqL a y hg h)⟩
theorem qAC (fu:Nat)  (f:Int):qu tb qdh (shN tb qdh fu 9) fu 82 ((d1 (cI .u64)).enc (f)) ((d1 cB)).dec=qEd f:=by kernel_rfl
noncomputable def qvV:PrimD:=prim (d1 (cI .u64)) (d1 cB) (qtk)
theorem qFN:Ok1 Tryz.prog tb qh.sound 82 qvV:=qf qx qdi (by kernel_rfl) fun a y hg h=>⟨0,9,0,(qAC 0 a).trans (qyR a y hg h)⟩
noncomputable def ZC:qw:=qL [(62,qlU),(82,qvV)] qdh
theorem qae:qo Tryz.prog tb qh.sound ZC:=qk qdi (qe qvU (qe qFN qr))
end Su
end
section
namespace Su
open Go Go.Proofs Fly
set_option maxRecDepth 100000
theorem qAD (fu:Nat)  (a:Int) (b:Int):qu tb ZC (shN tb ZC fu 9) fu 30 ((dc (cI .u64) (d1 (cI .u64))).enc (a,b)) ((dc (cI .i64) (d1 cB))).dec=qEe a b:=by kernel_rfl
noncomputable def qvW:PrimD:=prim (dc (cI .u64) (d1 (cI .u64))) (dc (cI .i64) (d1 cB)) (qtl)
theorem qFO:Ok1 Tryz.prog tb qh.sound 30 qvW:=qf qx qae (by kernel_rfl) fun a y hg h=>⟨0,9,0,(qAD 0 a.1 a.2).trans (qyS a y hg h)⟩
theorem qAE (fu:Nat)  (f:Int):qu tb ZC (shN tb ZC fu 9) fu 125 ((d1 (cI .u64)).enc (f)) ((d1 (cI .u64))).dec=qEf f:=by kernel_rfl
noncomputable def qvX:PrimD:=prim (d1 (cI .u64)) (d1 (cI .u64)) (qtm)
theorem qFP:Ok1 Tryz.prog tb qh.sound 125 qvX:=qf qx qae (by kernel_rfl) fun a y hg h=>⟨0,9,0,(qAE 0 a).trans (qyT a y hg h)⟩
theorem qAF (fu:Nat)  (f:Int):qu tb ZC (shN tb ZC fu 9) fu 122 ((d1 (cI .u64)).enc (f)) ((d1 (cI .u64))).dec=qEg f:=by kernel_rfl
noncomputable def qvY:PrimD:=prim (d1 (cI .u64)) (d1 (cI .u64)) (qtn)
theorem qFQ:Ok1 Tryz.prog tb qh.sound 122 qvY:=qf qx qae (by kernel_rfl) fun a y hg h=>⟨0,9,0,(qAF 0 a).trans (qyU a y hg h)⟩
noncomputable def qjs:qw:=qL [(30,qvW),(125,qvX),(122,qvY)] ZC
theorem qhF:qo Tryz.prog tb qh.sound qjs:=qk qae (qe qFO (qe qFP (qe qFQ qr)))
end Su
end
section
namespace Su
open Go Go.Proofs Fly
set_option maxRecDepth 100000
theorem qvZ (fu:Nat)  (a:Int) (b:Int):qu tb qjs (shN tb qjs fu 9) fu 131 ((dc (cI .u64) (d1 (cI .u64))).enc (a,b)) ((d1 cB)).dec=qto a b:=by kernel_rfl
noncomputable def qpA:PrimD:=prim (dc (cI .u64) (d1 (cI .u64))) (d1 cB) (qoh)
theorem qAG:Ok1 Tryz.prog tb qh.sound 131 qpA:=qf qx qhF (by kernel_rfl) fun a y hg h=>⟨0,9,0,(qvZ 0 a.1 a.2).trans (qtp a y hg h)⟩
noncomputable def qjt:qw:=qL [(131,qpA)] qjs
theorem qhG:qo Tryz.prog tb qh.sound qjt:=qk qhF (qe qAG qr)
end Su
end
section
namespace Su
open Go Go.Proofs Fly
set_option maxRecDepth 100000
theorem qHT (fu:Nat)  (a:(List Int)) (i:Int):qu tb qjt (shN tb qjt fu 9) fu 149 ((dc (cQ 1 1) (d1 (cI .i64))).enc (a,i)) ((d1 (cI .u64))).dec=At a i:=by kernel_rfl
noncomputable def At_p:PrimD:=prim (dc (cQ 1 1) (d1 (cI .i64))) (d1 (cI .u64)) (fun a=>At a.1 a.2)
theorem At_c:Ok1 Tryz.prog tb qh.sound 149 At_p:=qf qx qhG (by kernel_rfl) fun a y hg h=>⟨0,9,0,(qHT 0 a.1 a.2).trans h⟩
noncomputable def qju:qw:=qL [(149,At_p)] qjt
theorem qhH:qo Tryz.prog tb qh.sound qju:=qk qhG (qe At_c qr)
end Su
end
section
namespace Su
open Go Go.Proofs Fly
set_option maxRecDepth 100000
theorem qAH (fu:Nat) (a:(List Int)):qu tb qju (shN tb qju fu 9) fu 148 ((d1 (cQ 1 1)).enc (a)) ((d1 (cQ 1 1))).dec=qEh fu a:=by kernel_rfl
noncomputable def qv0:PrimD:=prim (d1 (cQ 1 1)) (d1 (cQ 1 1)) (qiU)
theorem qv1:Ok1 Tryz.prog tb qh.sound 148 qv0:=qf qx qhH (by kernel_rfl) fun a y hg h=>by
 obtain ⟨n,hn⟩:=qyV a y hg h
 exact ⟨n,9,n,(qAH n a).trans hn⟩
noncomputable def JQ:qw:=qL [(148,qv0)] qju
theorem Yl:qo Tryz.prog tb qh.sound JQ:=qk qhH (qe qv1 qr)
end Su
end
section
namespace Su
open Go Go.Proofs Fly
set_option maxRecDepth 100000
theorem qFR (fu:Nat) (a:(List Int)) (b:(List Int)):qu tb JQ (shN tb JQ fu 9) fu 118 ((dc (cQ 1 1) (d1 (cQ 1 1))).enc (a,b)) ((d1 (cQ 1 1))).dec=Add fu a b:=by kernel_rfl
noncomputable def qC0:PrimD:=prim (dc (cQ 1 1) (d1 (cQ 1 1))) (d1 (cQ 1 1)) (qk6)
theorem qHU:Ok1 Tryz.prog tb qh.sound 118 qC0:=qf qx Yl (by kernel_rfl) fun a y hg h=>by
 obtain ⟨n,hn⟩:=qEi a y hg h
 exact ⟨n,9,n,(qFR n a.1 a.2).trans hn⟩
theorem qFS (fu:Nat) (a:(List Int)) (b:(List Int)):qu tb JQ (shN tb JQ fu 9) fu 68 ((dc (cQ 1 1) (d1 (cQ 1 1))).enc (a,b)) ((d1 (cI .i64))).dec=Cmp fu a b:=by kernel_rfl
noncomputable def qC1:PrimD:=prim (dc (cQ 1 1) (d1 (cQ 1 1))) (d1 (cI .i64)) (qCw)
theorem qHV:Ok1 Tryz.prog tb qh.sound 68 qC1:=qf qx Yl (by kernel_rfl) fun a y hg h=>by
 obtain ⟨n,hn⟩:=qEj a y hg h
 exact ⟨n,9,n,(qFS n a.1 a.2).trans hn⟩
theorem qFT (fu:Nat)  (x:Int):qu tb JQ (shN tb JQ fu 9) fu 78 ((d1 (cI .u64)).enc (x)) ((d1 (cQ 1 1))).dec=New x:=by kernel_rfl
noncomputable def qC2:PrimD:=prim (d1 (cI .u64)) (d1 (cQ 1 1)) (fun a=>New a)
theorem qC3:Ok1 Tryz.prog tb qh.sound 78 qC2:=qf qx Yl (by kernel_rfl) fun a y hg h=>⟨0,9,0,(qFT 0 a).trans h⟩
theorem qv2 (fu:Nat)  (x:Int):qu tb JQ (shN tb JQ fu 9) fu 189 ((d1 (cI .u32)).enc (x)) ((d1 (cI .i64))).dec=qg9 x:=by kernel_rfl
noncomputable def qpB:PrimD:=prim (d1 (cI .u32)) (d1 (cI .i64)) (fun a=>qg9 a)
theorem qAI:Ok1 Tryz.prog tb qh.sound 189 qpB:=qf qx Yl (by kernel_rfl) fun a y hg h=>⟨0,9,0,(qv2 0 a).trans h⟩
noncomputable def qdj:qw:=qL [(118,qC0),(68,qC1),(78,qC2),(189,qpB)] JQ
theorem qdk:qo Tryz.prog tb qh.sound qdj:=qk Yl (qe qHU (qe qHV (qe qC3 (qe qAI qr))))
end Su
end
section
namespace Su
open Go Go.Proofs Fly
set_option maxRecDepth 100000
theorem qFU (fu:Nat)  (a:(List Int)):qu tb qdj (shN tb qdj fu 9) fu 145 ((d1 (cQ 1 1)).enc (a)) ((d1 (cI .i64))).dec=Len a:=by kernel_rfl
noncomputable def qC4:PrimD:=prim (d1 (cQ 1 1)) (d1 (cI .i64)) (fun a=>Len a)
theorem qHW:Ok1 Tryz.prog tb qh.sound 145 qC4:=qf qx qdk (by kernel_rfl) fun a y hg h=>⟨0,9,0,(qFU 0 a).trans h⟩
theorem qFV (fu:Nat) (a:(List Int)) (b:(List Int)):qu tb qdj (shN tb qdj fu 9) fu 67 ((dc (cQ 1 1) (d1 (cQ 1 1))).enc (a,b)) ((d1 (cQ 1 1))).dec=Mul fu a b:=by kernel_rfl
noncomputable def qC5:PrimD:=prim (dc (cQ 1 1) (d1 (cQ 1 1))) (d1 (cQ 1 1)) (Zl)
theorem qHX:Ok1 Tryz.prog tb qh.sound 67 qC5:=qf qx qdk (by kernel_rfl) fun a y hg h=>by
 obtain ⟨n,hn⟩:=qEk a y hg h
 exact ⟨n,9,n,(qFV n a.1 a.2).trans hn⟩
noncomputable def qv3:qw:=qL [(145,qC4),(67,qC5)] qdj
theorem qrn:qo Tryz.prog tb qh.sound qv3:=qk qdk (qe qHW (qe qHX qr))
end Su
end
section
namespace Su
open Go Go.Proofs Fly
set_option maxRecDepth 100000
noncomputable def qdl:qw:=qL [] qv3
theorem qdm:qo Tryz.prog tb qh.sound qdl:=qk qrn qr
end Su
end
section
namespace Su
open Go Go.Proofs Fly
set_option maxRecDepth 100000
theorem qFW (fu:Nat) (a:(List Int)) (sh:Int):qu tb qdl (shN tb qdl fu 9) fu 195 ((dc (cQ 1 1) (d1 (cI .i64))).enc (a,sh)) ((d1 (cQ 1 1))).dec=Shr fu a sh:=by kernel_rfl
noncomputable def qC6:PrimD:=prim (dc (cQ 1 1) (d1 (cI .i64))) (d1 (cQ 1 1)) (qCx)
theorem qHY:Ok1 Tryz.prog tb qh.sound 195 qC6:=qf qx qdm (by kernel_rfl) fun a y hg h=>by
 obtain ⟨n,hn⟩:=qEl a y hg h
 exact ⟨n,9,n,(qFW n a.1 a.2).trans hn⟩
theorem qFX (fu:Nat) (a:(List Int)) (sh:Int):qu tb qdl (shN tb qdl fu 9) fu 143 ((dc (cQ 1 1) (d1 (cI .i64))).enc (a,sh)) ((dc (cQ 1 1) (d1 (cI .i64)))).dec=Shl fu a sh:=by kernel_rfl
noncomputable def qC7:PrimD:=prim (dc (cQ 1 1) (d1 (cI .i64))) (dc (cQ 1 1) (d1 (cI .i64))) (qhd)
theorem qHZ:Ok1 Tryz.prog tb qh.sound 143 qC7:=qf qx qdm (by kernel_rfl) fun a y hg h=>by
 obtain ⟨n,hn⟩:=qEm a y hg h
 exact ⟨n,9,n,(qFX n a.1 a.2).trans hn⟩
noncomputable def qjv:qw:=qL [(195,qC6),(143,qC7)] qdl
theorem qhI:qo Tryz.prog tb qh.sound qjv:=qk qdm (qe qHY (qe qHZ qr))
end Su
end
section
namespace Su
open Go Go.Proofs Fly
set_option maxRecDepth 100000
theorem qFY (fu:Nat) (a:(List Int)) (b:(List Int)):qu tb qjv (shN tb qjv fu 9) fu 119 ((dc (cQ 1 1) (d1 (cQ 1 1))).enc (a,b)) ((dc (cQ 1 1) (d1 cB))).dec=Sub fu a b:=by kernel_rfl
noncomputable def qC8:PrimD:=prim (dc (cQ 1 1) (d1 (cQ 1 1))) (dc (cQ 1 1) (d1 cB)) (qhf)
theorem qH0:Ok1 Tryz.prog tb qh.sound 119 qC8:=qf qx qhI (by kernel_rfl) fun a y hg h=>by
 obtain ⟨n,hn⟩:=qEn a y hg h
 exact ⟨n,9,n,(qFY n a.1 a.2).trans hn⟩
noncomputable def qv4:qw:=qL [(119,qC8)] qjv
theorem qro:qo Tryz.prog tb qh.sound qv4:=qk qhI (qe qH0 qr)
end Su
end
