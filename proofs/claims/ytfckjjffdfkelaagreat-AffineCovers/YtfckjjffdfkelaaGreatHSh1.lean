/-
  The law and its row.
-/
import Derived.RangeFuncNested
import Derived.RangeFuncBound
import Derived.RangeFuncCalls
import Derived.RangeFuncLeaves
import Derived.RangeFuncWrites
import Derived.Shelf.Abstract
import Derived.Shelf.RegionOpen
import Derived.WalkKit
import Derived.OwnWalkIn
import Derived.TacticsInMore
import Derived.LoopNIn
import Derived.LoopIn
import Derived.Test.YtfckjjffdfkelaaGreatProg
import Derived.Test.YtfckjjffdfkelaaGreatFlyM
import Derived.Test.YtfckjjffdfkelaaGreatNC01
import Derived.Test.YtfckjjffdfkelaaGreatSuTb
import Derived.Test.YtfckjjffdfkelaaGreatNB05
set_option maxRecDepth 10000
section
namespace Go.Proofs.Sho
open Go Go.RowKit Go.Shelf Go.Proofs
attribute [local go_sem] Oper.semAt_some
abbrev Wo (len:Nat):={ x:Nat×Nat // x.1<len∧x.2<4294967296 }
def enW {len:Nat} (x:Wo len):Array Value:=#[.int .i64 (x.1.1:Int),.int .u32 (x.1.2:Int)]
theorem qcU {zs:List Nat} (hz:∀ z∈zs,z<4294967296) (j:Nat):zs[j]?.getD 0<4294967296:=by
 cases h:zs[j]? with
 | none=>simp
 | some z=>simpa using hz z (List.mem_of_getElem? h)
def Kb (n₀ B:Nat) (W W':World):Prop:=Below n₀ W W'∧W'.heap[B]?=W.heap[B]?
theorem Kb.trans {n₀ B:Nat} {X Y Z:World} (h:Kb n₀ B X Y) (k:Kb n₀ B Y Z):Kb n₀ B X Z:=⟨h.1.trans k.1,k.2.trans h.2⟩
theorem Kb.refl (n₀ B:Nat) (W:World):Kb n₀ B W W:=⟨Below.refl _ _,rfl⟩
def qaa {zs:List Nat} (hz:∀ z∈zs,z<4294967296) (h0:0<zs.length) (k:Nat):List (Wo zs.length) :=
 (List.range k).map fun j=>⟨(zs.length-1-j,zs[zs.length-1-j]?.getD 0),by simp only [];omega,qcU hz _⟩
theorem qhI {zs:List Nat} (hz:∀ z∈zs,z<4294967296) (h0:0<zs.length) (k:Nat) :
 qaa hz h0 (k+1)=qaa hz h0 k++[⟨(zs.length-1-k,zs[zs.length-1-k]?.getD 0),by simp only [];omega,qcU hz _⟩]:=by
 simp [qaa,List.range_succ]
theorem qu2 {zs:List Nat} (hz:∀ z∈zs,z<4294967296) (h0:0<zs.length) (k:Nat):(qaa hz h0 k).length=k:=by simp [qaa]
theorem qhJ {zs:List Nat} (hz:∀ z∈zs,z<4294967296) (h0:0<zs.length) {m:Nat} (hm:m<zs.length) :
 qaa hz h0 (zs.length-m)=qaa hz h0 (zs.length-(m+1))++[⟨(m,zs[m]?.getD 0),hm,qcU hz _⟩]:=by
 have h1:zs.length-m=zs.length-(m+1)+1:=by omega
 rw [h1,qhI]
 congr 2
 have h2:zs.length-1-(zs.length-(m+1))=m:=by omega
 exact Subtype.ext (by simp only [h2])
set_option maxRecDepth 100000 in
set_option maxHeartbeats 2000000 in
theorem qu3 (F:Fence) (n:Nat) (h7:F.fn 234) (hro:F.round=none) (hn:1≤n) (l Bs n₀ b off cap:Nat) (zs:List Nat) (hz:∀ z∈zs,z<4294967296) (hl:0<zs.length) (hreach:zs.length≤549755813888) (hb:b<n₀) (J Jx:List (Wo zs.length)→World→Prop)
 (hY:∀ pre x W,J pre W→pre.length<zs.length→YieldAt F (n-1) Tryz.prog l (enW x) W fun e W' =>
   (e = .returned (.bool true)∧J (pre++[x]) W'∧Kb n₀ Bs W W')∨(e = .returned (.bool false)∧Jx (pre++[x]) W'))
 (W:World) (hBs:W.cell? ⟨Bs,0,none⟩=some (.slice (some ⟨b,off,none⟩) zs.length cap)) (hc:∀ j,j<zs.length→W.cell? ⟨b,off+j,none⟩=some (.int .u32 ((zs[j]?.getD 0:Nat):Int))) (h0:J [] W) :
 CallsIn F n Tryz.prog 234 #[.func (.yield l) #[] #[],.pointer (some ⟨Bs,0,none⟩)] W fun e W'=>(∃ v,e = .returned v) ∧
  ((∃ ys,ys=qaa hz hl zs.length∧J ys W')∨(∃ pre,(∃ k,k≤zs.length∧pre=qaa hz hl k)∧Jx pre W')):=by
 refine callsIn_of_wp Tryz.func234 rfl h7 ?_ hro
 simp only [Tryz.ntmps234,List.size_toArray,List.length_cons,List.length_nil,Nat.reduceAdd,Nat.reduceSub,Array.replicate_succ,Array.replicate_zero,List.push_toArray,List.append_toArray,List.nil_append,List.cons_append]
 gi_wp2
 gi_loopw [3] (fun i wr=>∃ m:Nat,m≤zs.length∧i = .int .i64 ((m:Int)-1)∧J (qaa hz hl (zs.length-m)) wr∧Kb n₀ Bs W wr)
  (fun i _=>(intOf i+1).toNat)
 case atStart =>
  refine ⟨zs.length,Nat.le_refl _,?_,?_,Kb.refl _ _ _⟩
  · rfl
  · rw [Nat.sub_self];exact h0
 case round =>
  obtain ⟨m,hm,rfl,hJs,hnx⟩:=hrel
  have hBs':wr.cell? ⟨Bs,0,none⟩=some (.slice (some ⟨b,off,none⟩) zs.length cap):=(World.cell?_of_block (a:=⟨Bs,0,none⟩) hnx.2).trans hBs
  cases m with
  | zero =>
   have e0:(((0:Nat):Int)-1) = -1:=rfl
   rw [e0]
   gi_wp2
   go_end0
   exact ⟨⟨_,rfl⟩,.inl ⟨_,rfl,hJs⟩⟩
  | succ m =>
   have e0:(((m+1:Nat):Int)-1)=(m:Int):=by omega
   rw [e0]
   have hcx:wr.cell? ⟨b,off+m,none⟩=some (.int .u32 ((zs[m]?.getD 0:Nat):Int)):=(hnx.1.cell (p:=⟨b,off+m,none⟩) hb).trans (hc m (by omega))
   obtain ⟨fn,tmps,assign,body,hy,hR⟩:=hY _ ⟨(m,zs[m]?.getD 0),by simp only [];omega,qcU hz _⟩ wr hJs (by rw [qu2];omega)
   dsimp only [enW] at hy
   gi_wp2
   refine hR.mono ?_
   rintro e W3 (⟨rfl,hJ3,hk3⟩ | ⟨rfl,hJx3⟩)
   · gi_wp2
     go_roundw
     case rel =>
      exact ⟨m,by omega,rfl,by rw [qhJ hz hl (by omega)];exact hJ3,hnx.trans hk3⟩
     case measure=>simp only [intOf];omega
   · gi_wp2
     refine bodyPost_ret (results_none rfl _ _ _) rfl ?_
     exact ⟨⟨_,rfl⟩,.inr ⟨_,⟨zs.length-m,by omega,(qhJ hz hl (by omega)).symm⟩,hJx3⟩⟩
theorem qlR (F:Fence) (n:Nat) (h7:F.fn 234) (hro:F.round=none) (l Bs:Nat) (sa:Option Addr) (cap:Nat) (K:World→Prop) (W:World) (hBs:W.cell? ⟨Bs,0,none⟩=some (.slice sa 0 cap)) (h0:K W) :
 CallsIn F n Tryz.prog 234 #[.func (.yield l) #[] #[],.pointer (some ⟨Bs,0,none⟩)] W fun e W'=>(∃ v,e = .returned v)∧K W':=by
 refine callsIn_of_wp Tryz.func234 rfl h7 ?_ hro
 simp only [Tryz.ntmps234,List.size_toArray,List.length_cons,List.length_nil,Nat.reduceAdd,Nat.reduceSub,Array.replicate_succ,Array.replicate_zero,List.push_toArray,List.append_toArray,List.nil_append,List.cons_append]
 gi_wp2
 gi_loopw [3] (fun i wr=>i = .int .i64 (-1)∧K wr) (fun _ _=>0)
 case atStart=>exact ⟨rfl,h0⟩
 case round =>
  obtain ⟨rfl,hJs⟩:=hrel
  gi_wp2
  go_end0
  exact ⟨⟨_,rfl⟩,hJs⟩
set_option maxHeartbeats 1000000 in
theorem qlS (F:Fence) (n:Nat) (h5:F.fn 220) (hro:F.round=none) (a:Option Addr) (len cap:Nat) (w:World) :
 CallsIn F n Tryz.prog 220 #[.slice a len cap] w fun e w'=>e = .returned (.func (.func 234) #[] #[.pointer (some ⟨w.heap.size,0,none⟩)])∧w'=w.alloc (.cells #[.slice a len cap] 39):=by
 refine callsIn_of_wp Tryz.func220 rfl h5 ?_ hro
 simp only [Tryz.ntmps220,List.size_toArray,List.length_cons,List.length_nil,Nat.reduceAdd,Nat.reduceSub,Array.replicate_succ,Array.replicate_zero,List.push_toArray,List.append_toArray,List.nil_append,List.cons_append]
 gi_wp2
 go_ret
 exact ⟨rfl,rfl⟩
def qhK (n₀:Nat) (W:World) (sv:Value) (zs:List Nat):Prop :=
 (zs=[]∧∃ a cap,sv = .slice a 0 cap)∨∃ b off cap,sv = .slice (some ⟨b,off,none⟩) zs.length cap∧b<n₀∧∀ j,j<zs.length→W.cell? ⟨b,off+j,none⟩=some (.int .u32 ((zs[j]?.getD 0:Nat):Int))
theorem qhK.below {n₀:Nat} {A B:World} (h:Below n₀ A B) {sv:Value} {zs:List Nat}:qhK n₀ A sv zs→qhK n₀ B sv zs
 | .inl e=>.inl e
 | .inr ⟨b,off,cap,e,hb,hc⟩=>.inr ⟨b,off,cap,e,hb,fun j hj=>(h.cell (p:=⟨b,off+j,none⟩) hb).trans (hc j hj)⟩
def All {zs:List Nat} (hz:∀ z∈zs,z<4294967296) (ys:List (Wo zs.length)):Prop:=ys=[]∧zs.length=0∨∃ hl:0<zs.length,ys=qaa hz hl zs.length
theorem qnv (F:Fence) (n:Nat) (h7:F.fn 234) (hro:F.round=none) (hn:1≤n) (Bs n₀:Nat) (sv:Value) (zs:List Nat) (hz:∀ z∈zs,z<4294967296) (hreach:zs.length≤549755813888) (w:World) (hBs:Bs<w.heap.size) (hn₀:n₀≤w.heap.size)
 (hc:w.cell? ⟨Bs,0,none⟩=some sv) (hI:qhK n₀ w sv zs) :
 SeqStopsK F n Tryz.prog 234 #[.pointer (some ⟨Bs,0,none⟩)] (fun x:Wo zs.length=>enW x) (Kb n₀ Bs) (All hz) (fun _=>True) zs.length w:=fun l J Jx W hW _ _ hY h0=>by
 have hc':=(hW.cell (p:=⟨Bs,0,none⟩) hBs).trans hc
 rcases hI.below (hW.mono hn₀) with ⟨h1,a,cap,rfl⟩ | ⟨b,off,cap,rfl,hb,hcs⟩
 · exact (qlR F n h7 hro l Bs a cap (J []) W hc' h0).mono fun e W' ⟨he,hj⟩=>⟨he,.inl ⟨_,.inl ⟨rfl,by rw [h1];rfl⟩,hj⟩⟩
 · by_cases hl:0<zs.length
   · refine (qu3 F n h7 hro hn l Bs n₀ b off cap zs hz hl hreach hb J Jx hY W hc' hcs h0).mono ?_
     rintro e W' ⟨he,⟨ys,rfl,hj⟩ | ⟨pre,_,hj⟩⟩
     · exact ⟨he,.inl ⟨_,.inr ⟨hl,rfl⟩,hj⟩⟩
     · exact ⟨he,.inr ⟨_,trivial,hj⟩⟩
   · have h2:zs.length=0:=by omega
     rw [h2] at hc'
     exact (qlR F n h7 hro l Bs _ cap (J []) W hc' h0).mono fun e W' ⟨he,hj⟩=>⟨he,.inl ⟨_,.inl ⟨rfl,h2⟩,hj⟩⟩
end Go.Proofs.Sho
end
section
namespace Go.Proofs.Sho
open Go Go.RowKit Go.Shelf Go.Proofs
attribute [local go_sem] Oper.semAt_some
theorem qFR (n:Nat):madeCells (Value.int .u32 0).cells n=Array.replicate n (.int .u32 0):=by
 apply Array.ext
 · simp [size_madeCells]
 · intro i h1 h2
   simp [madeCells,Value.cells,Nat.mod_one]
theorem qzt:(Tryz.prog.info? 175).map (fun i=>(i.zero,i.size,i.bytes))=some (some (.int .u32 0),1,4):=by kernel_rfl
theorem qFS (n:Nat) (hn:n≤549755813888) (w:World) :
 (Instr.makeSlice 38 (.int .i64 (n:Int)) (.int .i64 (n:Int))).run Tryz.prog w = .ok (.slice (some ⟨w.heap.size,0,none⟩) n n) (w.alloc (.cells (Array.replicate n (.int .u32 0)) 175)):=by
 obtain ⟨i,hi,h1,h2,h3⟩:=info_parts qzt
 have h:=run_make (P:=Tryz.prog) w 38 175 i (.int .u32 0) (by kernel_rfl) hi h1 .i64 .i64 (n:Int) (n:Int) (by omega) (Int.le_refl _) (by rw [h3];omega) (by omega)
 rw [Int.toNat_natCast,h2,Nat.mul_one,qFR] at h
 exact h
theorem qbp {W:World} {B:Nat} {o:Obj} (h:W.heap[B]?=some o) (o':Obj):(W.alloc o').heap[B]?=some o:=((World.grownBy_alloc W o' none).block B (Array.getElem?_eq_some_iff.1 h).1 (by simp)).trans h
theorem qu4 (W:World) (k:Nat) (hk:W.heap.size=k) (o:Obj):(W.alloc o).heap[k]?=some o:=by subst hk;exact World.alloc_heap_new W o
theorem qes {W:World} {a:Addr} {v:Value} {B:Nat} (h:a.block≠B):(W.setCell a v).heap[B]?=W.heap[B]?:=by
 show (W.heap.modify a.block _)[B]?=_
 rw [Array.getElem?_modify,if_neg h]
theorem qDU {W:World} {B i:Nat} {v:Value} {c:Array Value} {t:TypeId} {fr:Nat×Nat} (h:W.heap[B]?=some (.cells c t fr)):(W.setCell ⟨B,i,none⟩ v).heap[B]?=some (.cells (c.setIfInBounds i v) t fr):=by
 show (W.heap.modify B _)[B]?=_
 rw [Array.getElem?_modify,if_pos rfl,h];rfl
theorem qaI {W:World} {B i:Nat} {c:Array Value} {t:TypeId} {fr:Nat×Nat} {v:Value} (h:W.heap[B]?=some (.cells c t fr)) (hi:c[i]?=some v):W.cell? ⟨B,i,none⟩=some v:=by
 simp [World.cell?,h,hi]
theorem qpr {W:World} {B i:Nat} {c:Array Value} {t:TypeId} (h:W.heap[B]?=some (.cells c t (0,0))):W.frozen? ⟨B,i,none⟩=false:=by
 simp [World.frozen?,h]
theorem qps {W W':World} {row:Option Nat} {B:Nat} {c:Array Value} {t:TypeId} {fr:Nat×Nat} (h:W.heap[B]?=some (.cells c t fr)) (hg:W.grownBy W' row) (hr:∀ r,row=some r→∃ o:Obj,W.heap[r]?=some o∧o.isCells=false):W'.heap[B]?=some (.cells c t fr) :=
 (hg.block B (Array.getElem?_eq_some_iff.1 h).1 (fun e=>by
   obtain ⟨o,ho,hc⟩:=hr B e.symm
   rw [h] at ho;cases ho;cases hc)).trans h
theorem qcV {n:Int} (h0:0≤n) (h1:n<18446744073709551616):IntKind.u64.wrap n=n:=by rw [IntKind.wrap_u64];omega
theorem qgm (n:Int):IntKind.u32.wrap n=n % 4294967296:=IntKind.wrap_u32 n
theorem qzu {x y r:Nat} (hr:x<2^r):x ||| y*2^r=x+y*2^r:=by
 have:=Nat.two_pow_add_eq_or_of_lt hr y
 rw [Nat.mul_comm,Nat.or_comm,← this];omega
theorem qFT {R v:Nat} (hR:R<4294967296) (hv:v<4294967296):bits BinOp.or IntKind.u64 ((R:Int)*4294967296) (v:Int)=((R*4294967296+v:Nat):Int):=by
 have h:=Fly.qff (a:=R*4294967296) (b:=v) (by omega) (by omega)
 rw [Nat.or_comm,qzu (x:=v) (y:=R) (r:=32) (by simpa using hv),Nat.add_comm v] at h
 rw [← h,Int.natCast_mul];rfl
def stp (b:Nat) {len:Nat} (s:Nat×List Nat) (x:Wo len):Nat×List Nat:=((s.1*4294967296+x.1.2) % b,s.2.set x.1.1 ((s.1*4294967296+x.1.2) / b % 4294967296))
def sf (b:Nat) {len:Nat} (pre:List (Wo len)):Nat×List Nat:=pre.foldl (stp b) (0,List.replicate len 0)
theorem qjA (b:Nat) {len:Nat} (pre:List (Wo len)) (x:Wo len):sf b (pre++[x])=stp b (sf b pre) x:=by simp [sf]
theorem qu5 {b:Nat} (hb:0<b) {len:Nat} (pre:List (Wo len)):(sf b pre).1<b:=by
 have:∀ (l:List (Wo len)) (s:Nat×List Nat),s.1<b→(l.foldl (stp b) s).1<b:=by
  intro l
  induction l with
  | nil=>exact fun s h=>h
  | cons x l ih=>exact fun s _=>ih _ (Nat.mod_lt _ hb)
 exact this pre _ hb
theorem qnw (b:Nat) {len:Nat} (pre:List (Wo len)):(sf b pre).2.length=len:=by
 have:∀ (l:List (Wo len)) (s:Nat×List Nat),s.2.length=len→(l.foldl (stp b) s).2.length=len:=by
  intro l
  induction l with
  | nil=>exact fun s h=>h
  | cons x l ih=>exact fun s h=>ih _ (by simp [stp,h])
 exact this pre _ (by simp)
def Hid (p:Prop):Prop:=p
def vW (n:Nat):Value:=.int .u32 (n:Int)
structure Inv (B b:Nat) {len:Nat} (pre:List (Wo len)) (W:World):Prop where
 h0:W.heap[B]?=some (Obj.cells #[.int .u32 (b:Int)] 175 (0,0))
 h1:W.heap[B+1]?=some (Obj.cells ((sf b pre).2.map vW).toArray 175 (0,0))
 h2:W.heap[B+2]?=some (Obj.cells #[.slice (some ⟨B+1,0,none⟩) len len] 38 (0,0))
 h3:W.heap[B+3]?=some (Obj.cells #[.int .u64 ((sf b pre).1:Int)] 44 (0,0))
theorem Inv.own (B b:Nat) (len:Nat):Own (fun (pre:List (Wo len)) W=>Inv B b pre W) :=
 fun _ _ _ _ hs hg hr=>⟨qps hs.h0 hg hr,qps hs.h1 hg hr,qps hs.h2 hg hr,qps hs.h3 hg hr⟩
def qu6:Code :=
 Code.region 9
  #[{ dst:=some 34,op:=Op.load 38 (Operand.tmp 6),type:=38,pos:="nat.go:158",after:=#[],
      guard:=none },
    { dst:=some 35,
      op:=Op.call { callee:=Callee.value (Operand.func 148),args:=#[Operand.tmp 34],argTypes:=#[38] },
      type:=39,pos:="nat.go:158",after:=#[{ on:=0,ground:=Ground.data }],guard:=none },
    { dst:=some 36,op:=Op.load 44 (Operand.tmp 7),type:=44,pos:="nat.go:158",after:=#[],
      guard:=none },
    { dst:=some 37,
      op:=Op.call { callee:=Callee.value (Operand.func 78),args:=#[Operand.tmp 36],argTypes:=#[44] },
      type:=39,pos:="nat.go:158",
      after:=#[{ on:=2,ground:=Ground.data },{ on:=1,ground:=Ground.chain }],guard:=none },
    { dst:=some 4,op:=Op.assign (Operand.tmp 35),type:=39,pos:="nat.go:158",
      after :=
       #[{ on:=1,ground:=Ground.data },{ on:=3,ground:=Ground.chain },
         { on:=0,ground:=Ground.phase },{ on:=1,ground:=Ground.phase },
         { on:=2,ground:=Ground.textOnly Departure.lateStores },
         { on:=3,ground:=Ground.textOnly Departure.lateStoresUnsure }],
      guard:=none },
    { dst:=some 5,op:=Op.assign (Operand.tmp 37),type:=39,pos:="nat.go:158",
      after :=
       #[{ on:=3,ground:=Ground.data },{ on:=4,ground:=Ground.chain },
         { on:=0,ground:=Ground.phase },{ on:=1,ground:=Ground.phase },
         { on:=2,ground:=Ground.phase },{ on:=3,ground:=Ground.phase },
         { on:=4,ground:=Ground.phase }],
      guard:=none }]
  true
def qDV (B D b:Nat) (sa:Option Addr) (len cap:Nat):Act :=
 { tmps:=#[.slice sa len cap,.int .u32 (b:Int),undef,.pointer (some ⟨B,0,none⟩),.slice none 0 0,.slice none 0 0,.pointer (some ⟨B+2,0,none⟩),.pointer (some ⟨B+3,0,none⟩),undef,undef,
    .slice sa len cap,.int .i64 (len:Int),.slice (some ⟨B+1,0,none⟩) len len,.slice sa len cap,.func (.func 234) #[] #[.pointer (some ⟨B+4,0,none⟩)],
    undef,undef,undef,undef,undef,undef,undef,undef,undef,undef,undef,undef,undef,undef,undef,undef,undef,undef,undef,undef,undef,undef,undef],defers:=[{ target:=.collected D,args:=#[] }] }
theorem qu7 {b len i v m d r1:Nat} {pre:List (Wo len)} {w W W0 W1:World} {hi:i<len} {hv:v<4294967296} (hW1:W.setCell { block:=w.heap.size+3,off:=0 } (Value.int IntKind.u64 (r1:Int))=W1)
 (_h3:W.heap[w.heap.size+3]?=some (Obj.cells #[.int .u64 ((sf b pre).1:Int)] 44 (0,0)))
 (g0:W1.heap[w.heap.size]?=some (Obj.cells #[.int .u32 (b:Int)] 175 (0,0))) (g1:W1.heap[w.heap.size+1]?=some (Obj.cells ((sf b pre).2.map vW).toArray 175 (0,0)))
 (g2:W1.heap[w.heap.size+2]?=some (Obj.cells #[.slice (some ⟨w.heap.size+1,0,none⟩) len len] 38 (0,0))) (g3:W1.heap[w.heap.size+3]?=some (Obj.cells #[.int .u64 (r1:Int)] 44 (0,0)))
 (hst:Hid (stp b (sf b pre) (⟨(i,v),hi,hv⟩:Wo len)=(m,(sf b pre).2.set i d))) (hB:Below w.heap.size w W) (_hsz:W0.heap.size=w.heap.size+5) :
 KeepsFrom W0.heap.size W ((W1.setCell ⟨w.heap.size+1,i,none⟩ (.int .u32 (d:Int))).setCell ⟨w.heap.size+3,0,none⟩ (.int .u64 (m:Int))).drew ∧
  Kb w.heap.size (w.heap.size+4) W ((W1.setCell ⟨w.heap.size+1,i,none⟩ (.int .u32 (d:Int))).setCell ⟨w.heap.size+3,0,none⟩ (.int .u64 (m:Int))).drew ∧
  (Inv w.heap.size b (pre++[(⟨(i,v),hi,hv⟩:Wo len)]) ((W1.setCell ⟨w.heap.size+1,i,none⟩ (.int .u32 (d:Int))).setCell ⟨w.heap.size+3,0,none⟩ (.int .u64 (m:Int))).drew ∧
    Below w.heap.size w ((W1.setCell ⟨w.heap.size+1,i,none⟩ (.int .u32 (d:Int))).setCell ⟨w.heap.size+3,0,none⟩ (.int .u64 (m:Int))).drew):=by
 have hst:stp b (sf b pre) (⟨(i,v),hi,hv⟩:Wo len)=(m,(sf b pre).2.set i d):=hst
 have hbl:Below w.heap.size W ((W1.setCell ⟨w.heap.size+1,i,none⟩ (.int .u32 (d:Int))).setCell ⟨w.heap.size+3,0,none⟩ (.int .u64 (m:Int))).drew:=by
  rw [← hW1]
  exact ((((Below.refl _ W).setCell (p:=⟨w.heap.size+3,0,none⟩) (by simp) _).setCell (p:=⟨w.heap.size+1,i,none⟩) (by simp) _).setCell (p:=⟨w.heap.size+3,0,none⟩) (by simp) _).drew
 refine ⟨?_,⟨hbl,?_⟩,⟨?_,?_,?_,?_⟩,hB.trans hbl⟩
 · rw [← hW1]
   exact ((((KeepsOthers.setCell _ _ _).trans (KeepsOthers.setCell _ _ _)).trans (KeepsOthers.setCell _ _ _)).trans (KeepsOthers.drew _)).from _
 · show ((W1.setCell _ _).setCell _ _).heap[w.heap.size+4]?=_
   rw [qes (by simp),qes (by simp),← hW1,qes (by simp)]
 · show ((W1.setCell _ _).setCell _ _).heap[w.heap.size]?=_
   rw [qes (by simp),qes (by simp)];exact g0
 · show ((W1.setCell _ _).setCell _ _).heap[w.heap.size+1]?=_
   rw [qes (by simp),qDU g1,qjA,hst]
   simp [List.map_set,vW]
 · show ((W1.setCell _ _).setCell _ _).heap[w.heap.size+2]?=_
   rw [qes (by simp),qes (by simp)];exact g2
 · show ((W1.setCell _ _).setCell _ _).heap[w.heap.size+3]?=_
   rw [qDU ((qes (by simp)).trans g3),qjA,hst];rfl
set_option maxRecDepth 100000 in
set_option maxHeartbeats 4000000 in
theorem qu8 (F:Fence) (n:Nat) (h3:F.fn 191) (h5:F.fn 220) (h7:F.fn 234) (hro:F.round=none) (hn:3≤n) (sa:Option Addr) (cap:Nat) (b:Nat) (hb0:0<b) (hb1:b<4294967296) (zs:List Nat) (hz:∀ z∈zs,z<4294967296) (hreach:zs.length≤549755813888) (w:World)
 (hI:qhK w.heap.size w (.slice sa zs.length cap) zs) {Q:Ending→World→Prop}
 (hdone:∀ (D:Nat) (ys:List (Wo zs.length)) (W:World) (Kc:Act→World→Prop),(∀ a w',Code.wpIn F n Tryz.prog Code.ret (bodyPostM F n Tryz.prog Tryz.f191 Q) a w'→Kc a w')→w.heap.size+5≤D→All hz ys→Inv w.heap.size b ys W→Below w.heap.size w W →
   W.heap[D]?=some (.deferred (some []))→Code.wpIn F n Tryz.prog qu6 (Exit.then Kc (bodyPostM F n Tryz.prog Tryz.f191 Q)) (qDV w.heap.size D b sa zs.length cap) W) :
 CallsIn F n Tryz.prog 191 #[.slice sa zs.length cap,.int .u32 (b:Int)] w Q:=by
 have h1:1≤n:=by omega
 refine callsIn_of_wp_marks Tryz.func191 rfl h3 ?_ hro
 simp only [Tryz.ntmps191,List.size_toArray,List.length_cons,List.length_nil,Nat.reduceAdd,Nat.reduceSub,Array.replicate_succ,Array.replicate_zero,List.push_toArray,List.append_toArray,List.nil_append,List.cons_append]
 have hmk:=qFS zs.length hreach
 gi_wp2_with (gi_at_call 220;refine (qlS F (n-1) h5 hro _ _ _ _).mono ?_;rintro e w' ⟨rfl,rfl⟩)
 obtain ⟨W0,hW0⟩:∃ W0,((((w.alloc (Obj.cells #[Value.int IntKind.u32 (b:Int)] 175)).alloc (Obj.cells (Array.replicate zs.length (Value.int IntKind.u32 0)) 175)).alloc
  (Obj.cells #[Value.slice (some { block:=w.heap.size+1,off:=0 }) zs.length zs.length] 38)).alloc (Obj.cells #[Value.int IntKind.u64 0] 44)).alloc (Obj.cells #[Value.slice sa zs.length cap] 39)=W0:=⟨_,rfl⟩
 rw [hW0]
 have hB0:Below w.heap.size w W0:=by rw [← hW0];exact (((((Below.refl _ w).alloc (Nat.le_refl _) _).alloc (by simp) _).alloc (by simp;omega) _).alloc (by simp;omega) _).alloc (by simp;omega) _
 have hsz:W0.heap.size=w.heap.size+5:=by rw [← hW0];simp only [World.size_alloc]
 have hJ0:Inv w.heap.size b ([]:List (Wo zs.length)) W0:=by
  rw [← hW0]
  refine ⟨qbp (qbp (qbp (qbp (qu4 _ _ rfl _) _) _) _) _,?_,qbp (qbp (qu4 _ _ (by simp only [World.size_alloc]) _) _) _,qbp (qu4 _ _ (by simp only [World.size_alloc]) _) _⟩
  have e:((sf b ([]:List (Wo zs.length))).2.map vW).toArray=Array.replicate zs.length (Value.int IntKind.u32 0):=by
   show ((List.replicate zs.length 0).map vW).toArray=_
   rw [List.map_replicate];exact List.toArray_replicate ..
  rw [e]
  exact qbp (qbp (qbp (qu4 _ _ (by simp only [World.size_alloc]) _) _) _) _
 have hbx:W0.cell? ⟨w.heap.size+4,0,none⟩=some (.slice sa zs.length cap):=by
  rw [← hW0];exact qaI (qu4 _ _ (by simp only [World.size_alloc]) _) rfl
 refine wpIn_rangeFunc_ownG hro h1 (gf:=234) (lb:=#[.pointer (some ⟨w.heap.size+4,0,none⟩)]) rfl h7 (enters_of Tryz.func234 (by kernel_rfl) rfl)
  (qnv F (n-1) h7 hro (by omega) (w.heap.size+4) w.heap.size _ zs hz hreach W0 (by omega) (by omega) hbx (hI.below hB0)) Kb.trans
  (fun W l o o' hl ho hc _=>⟨belowK_b (w:=w) (Nat.le_refl _) W l o o' (by omega) ho hc (by assumption),World.putObj_heap_other (by omega)⟩) (Below.refl _ _) (fun _=>rfl)
  (fun pre W=>Inv w.heap.size b pre W∧Below w.heap.size w W)
  (fun _ _ _=>False)
  (OwnFrom.and ((Inv.own w.heap.size b zs.length).from _) (ownFrom_below (Nat.le_refl _) (by omega)))
  (fun _ _ _ _ _ hs _ _=>hs)
  ⟨hJ0,hB0⟩
  (fun x=>{ tmps:=#[.slice sa zs.length cap,.int .u32 (b:Int),undef,.pointer (some ⟨w.heap.size,0,none⟩),.slice none 0 0,.slice none 0 0,.pointer (some ⟨w.heap.size+2,0,none⟩),.pointer (some ⟨w.heap.size+3,0,none⟩),.int .i64 (x.1.1:Int),.int .u32 (x.1.2:Int),
    .slice sa zs.length cap,.int .i64 (zs.length:Int),.slice (some ⟨w.heap.size+1,0,none⟩) zs.length zs.length,.slice sa zs.length cap,.func (.func 234) #[] #[.pointer (some ⟨w.heap.size+4,0,none⟩)],.int .i64 (x.1.1:Int),.int .u32 (x.1.2:Int),
    undef,undef,undef,undef,undef,undef,undef,undef,undef,undef,undef,undef,undef,undef,undef,undef,undef,undef,undef,undef,undef],defers:=[] }) ?assign ?body ?done ?stop
 case assign =>
  intro l x W K hK
  dsimp only [enW]
  gi_wp2
  exact hK
 case body =>
  rintro l pre ⟨⟨i,v⟩,hi,hv⟩ W ⟨hS,hB⟩ _
  dsimp only at hi hv
  have c0:=qaI hS.h0 (i:=0) rfl
  have c2:=qaI hS.h2 (i:=0) rfl
  have c3:=qaI hS.h3 (i:=0) rfl
  have f3:=qpr (i:=0) hS.h3
  have f1:=qpr (i:=i) hS.h1
  have hr:=qu5 hb0 pre
  have hmx:Tryz.prog.follows .mixedOrders=true:=by kernel_rfl
  have hor:bits BinOp.or IntKind.u64 (((sf b pre).1:Int)*4294967296) (v:Int)=(((sf b pre).1*4294967296+v:Nat):Int):=qFT (by omega) hv
  gi_wp2
  obtain ⟨r1,hr1⟩:∃ r1:Nat,(sf b pre).1*4294967296+v=r1:=⟨_,rfl⟩
  have hr2:((sf b pre).1:Int)*4294967296+(v:Int)=(r1:Int):=by rw [← hr1];simp
  have hr3:r1<18446744073709551616:=by omega
  rw [hr2]
  clear hor hr2
  obtain ⟨W1,hW1⟩:∃ W1,W.setCell { block:=w.heap.size+3,off:=0 } (Value.int IntKind.u64 (r1:Int))=W1:=⟨_,rfl⟩
  rw [hW1]
  have g0:W1.heap[w.heap.size]?=some (Obj.cells #[.int .u32 (b:Int)] 175 (0,0)):=by rw [← hW1,qes (by simp)];exact hS.h0
  have g1:W1.heap[w.heap.size+1]?=some (Obj.cells ((sf b pre).2.map vW).toArray 175 (0,0)):=by rw [← hW1,qes (by simp)];exact hS.h1
  have g2:W1.heap[w.heap.size+2]?=some (Obj.cells #[.slice (some ⟨w.heap.size+1,0,none⟩) zs.length zs.length] 38 (0,0)):=by rw [← hW1,qes (by simp)];exact hS.h2
  have g3:W1.heap[w.heap.size+3]?=some (Obj.cells #[.int .u64 (r1:Int)] 44 (0,0)):=by rw [← hW1];exact qDU hS.h3
  have c0':=qaI g0 (i:=0) rfl
  have c2':=qaI g2 (i:=0) rfl
  have c3':=qaI g3 (i:=0) rfl
  have f3':=qpr (i:=0) g3
  have f1':=qpr (i:=i) g1
  have hb2 : ¬ ((b:Int)=0):=by omega
  have hb3 : ¬ (b=0):=by omega
  have hsl:=qnw b pre
  obtain ⟨Qi,hQi⟩:∃ Qi,(sf b pre).2[i]?=some Qi:=⟨_,List.getElem?_eq_getElem (by omega)⟩
  have c1':W1.cell? ⟨w.heap.size+1,i,none⟩=some (.int .u32 (Qi:Int)):=qaI g1 (by rw [List.getElem?_toArray,List.getElem?_map,hQi];rfl)
  have hwb:IntKind.u64.wrap (b:Int)=(b:Int):=qcV (by omega) (by omega)
  obtain ⟨q,hq⟩:∃ q,r1 / b=q:=⟨_,rfl⟩
  have hql:q≤r1:=by rw [← hq];exact Nat.div_le_self _ _
  have hq1:IntKind.u64.wrap ((r1:Int) / (b:Int))=(q:Int):=by rw [← hq,← Int.natCast_ediv];exact qcV (by omega) (by omega)
  obtain ⟨d,hd⟩:∃ d,q % 4294967296=d:=⟨_,rfl⟩
  have hd1:IntKind.u32.wrap (q:Int)=(d:Int):=by rw [qgm,← hd];omega
  obtain ⟨m,hm⟩:∃ m,r1 % b=m:=⟨_,rfl⟩
  have hm1:(r1:Int) % (b:Int)=(m:Int):=by rw [← hm,Int.natCast_emod]
  have hm2:(r1:Int).tmod (b:Int)=(m:Int):=by rw [Int.tmod_eq_emod_of_nonneg (by omega)];exact hm1
  have hst:Hid (stp b (sf b pre) (⟨(i,v),hi,hv⟩:Wo zs.length)=(m,(sf b pre).2.set i d)):=by
   show (((sf b pre).1*4294967296+v) % b,(sf b pre).2.set i (((sf b pre).1*4294967296+v) / b % 4294967296))=_
   rw [hr1,hm,hq,hd]
  clear hq hd hm
  gi_region_o
  all_goals gi_wp2
  all_goals exact qu7 (hi:=hi) (hv:=hv) hW1 hS.h3 g0 g1 g2 g3 hst hB hsz
 case done =>
  rintro D ys W hD hA ⟨hS,hB⟩ hK
  gi_wp2
  exact hdone D ys W _ (by assumption) (by omega) hA hS hB hK
 case stop =>
  rintro D c pre W _ _ h _
  exact h.elim
end Go.Proofs.Sho
end
section
namespace Su
noncomputable section
open Go Go.Proofs Fly
set_option maxRecDepth 100000
abbrev OkT (f:Nat) (p:PrimD):Prop:=Ok1 Tryz.prog tb qlQ.sound f p
abbrev PkT (q:qq):Prop:=Yp Tryz.prog tb qlQ.sound q
theorem qqV (fu:Nat)  (f:Int):qx tb qqq (shN tb qqq fu 9) fu 142 ((d1 (cI .u64)).enc (f)) ((dc cB (dc (cI .i64) (d1 (cI .u64))))).dec=qmR f:=by kernel_rfl
def qlT:PrimD:=prim (d1 (cI .u64)) (dc cB (dc (cI .i64) (d1 (cI .u64)))) (qkY)
theorem qu9:OkT 142 qlT:=qi qz qiN (by kernel_rfl) fun a y hg h=>⟨0,9,0,(qqV 0 a).trans (qqs a y hg h)⟩
theorem qva (fu:Nat)  (neg:Bool) (exp:Int) (frac:Int):qx tb qqq (shN tb qqq fu 9) fu 197 ((dc cB (dc (cI .i64) (d1 (cI .u64)))).enc (neg,exp,frac)) ((dc (cI .u64) (d1 (cI .i64)))).dec=qsU neg exp frac:=by kernel_rfl
def qpt:PrimD:=prim (dc cB (dc (cI .i64) (d1 (cI .u64)))) (dc (cI .u64) (d1 (cI .i64))) (ZL)
theorem qzv:OkT 197 qpt:=qi qz qiN (by kernel_rfl) fun a y hg h=>⟨0,9,0,(qva 0 a.1 a.2.1 a.2.2).trans (qsV a y hg h)⟩
def Y7:qq:=qX [(142,qlT),(197,qpt)] qqq
theorem Zu:PkT Y7:=qm qiN (qf qu9 (qf qzv qr))
end
end Su
end
section
namespace Su
noncomputable section
open Go Go.Proofs Fly
set_option maxRecDepth 100000
theorem qqW (fu:Nat)  (f:Int):qx tb Y7 (shN tb Y7 fu 9) fu 61 ((d1 (cI .u64)).enc (f)) ((d1 (cI .u8))).dec=qmT f:=by kernel_rfl
def qlU:PrimD:=prim (d1 (cI .u64)) (d1 (cI .u8)) (qkZ)
theorem qvb:OkT 61 qlU:=qi qz Zu (by kernel_rfl) fun a y hg h=>⟨0,9,0,(qqW 0 a).trans (qqt a y hg h)⟩
theorem qzw (fu:Nat)  (f:Int):qx tb Y7 (shN tb Y7 fu 9) fu 83 ((d1 (cI .u64)).enc (f)) ((d1 (cI .i64))).dec=qCz f:=by kernel_rfl
def qvc:PrimD:=prim (d1 (cI .u64)) (d1 (cI .i64)) (qsX)
theorem qDW:OkT 83 qvc:=qi qz Zu (by kernel_rfl) fun a y hg h=>⟨0,9,0,(qzw 0 a).trans (qxR a y hg h)⟩
theorem qzx (fu:Nat)  (neg:Bool):qx tb Y7 (shN tb Y7 fu 9) fu 157 ((d1 cB).enc (neg)) ((d1 (cI .u64))).dec=pInf neg:=by kernel_rfl
def qvd:PrimD:=prim (d1 cB) (d1 (cI .u64)) (qsY)
theorem qDX:OkT 157 qvd:=qi qz Zu (by kernel_rfl) fun a y hg h=>⟨0,9,0,(qzx 0 a).trans (qxS a y hg h)⟩
theorem qqX (fu:Nat) :qx tb Y7 (shN tb Y7 fu 9) fu 203 (d0.enc ()) ((d1 (cI .u64))).dec=qsW :=by kernel_rfl
def qlV:PrimD:=prim d0 (d1 (cI .u64)) (fun _=>qsW)
theorem qve:OkT 203 qlV:=qi qz Zu (by kernel_rfl) fun a y hg h=>⟨0,9,0,(qqX 0 ).trans h⟩
def qdC:qq:=qX [(61,qlU),(83,qvc),(157,qvd),(203,qlV)] Y7
theorem qdD:PkT qdC:=qm Zu (qf qvb (qf qDW (qf qDX (qf qve qr))))
end
end Su
end
section
namespace Su
noncomputable section
open Go Go.Proofs Fly
set_option maxRecDepth 100000
theorem qqY (fu:Nat)  (f:Int):qx tb qdC (shN tb qdC fu 9) fu 62 ((d1 (cI .u64)).enc (f)) ((dc (cI .u64) (d1 (cI .i64)))).dec=qmU f:=by kernel_rfl
def qlW:PrimD:=prim (d1 (cI .u64)) (dc (cI .u64) (d1 (cI .i64))) (qk0)
theorem qvf:OkT 62 qlW:=qi qz qdD (by kernel_rfl) fun a y hg h=>⟨0,9,0,(qqY 0 a).trans (qqu a y hg h)⟩
theorem qzy (fu:Nat)  (f:Int):qx tb qdC (shN tb qdC fu 9) fu 82 ((d1 (cI .u64)).enc (f)) ((d1 cB)).dec=qCA f:=by kernel_rfl
def qvg:PrimD:=prim (d1 (cI .u64)) (d1 cB) (qsZ)
theorem qDY:OkT 82 qvg:=qi qz qdD (by kernel_rfl) fun a y hg h=>⟨0,9,0,(qzy 0 a).trans (qxT a y hg h)⟩
def qaJ:qq:=qX [(62,qlW),(82,qvg)] qdC
theorem qa9:PkT qaJ:=qm qdD (qf qvf (qf qDY qr))
end
end Su
end
section
namespace Su
noncomputable section
open Go Go.Proofs Fly
set_option maxRecDepth 100000
theorem qzz (fu:Nat)  (a:Int) (b:Int):qx tb qaJ (shN tb qaJ fu 9) fu 30 ((dc (cI .u64) (d1 (cI .u64))).enc (a,b)) ((dc (cI .i64) (d1 cB))).dec=qCB a b:=by kernel_rfl
def qvh:PrimD:=prim (dc (cI .u64) (d1 (cI .u64))) (dc (cI .i64) (d1 cB)) (qs0)
theorem qDZ:OkT 30 qvh:=qi qz qa9 (by kernel_rfl) fun a y hg h=>⟨0,9,0,(qzz 0 a.1 a.2).trans (qxU a y hg h)⟩
theorem qzA (fu:Nat)  (f:Int):qx tb qaJ (shN tb qaJ fu 9) fu 125 ((d1 (cI .u64)).enc (f)) ((d1 (cI .u64))).dec=qCC f:=by kernel_rfl
def qvi:PrimD:=prim (d1 (cI .u64)) (d1 (cI .u64)) (qs1)
theorem qD0:OkT 125 qvi:=qi qz qa9 (by kernel_rfl) fun a y hg h=>⟨0,9,0,(qzA 0 a).trans (qxV a y hg h)⟩
theorem qzB (fu:Nat)  (f:Int):qx tb qaJ (shN tb qaJ fu 9) fu 122 ((d1 (cI .u64)).enc (f)) ((d1 (cI .u64))).dec=qCD f:=by kernel_rfl
def qvj:PrimD:=prim (d1 (cI .u64)) (d1 (cI .u64)) (qs2)
theorem qD1:OkT 122 qvj:=qi qz qa9 (by kernel_rfl) fun a y hg h=>⟨0,9,0,(qzB 0 a).trans (qxW a y hg h)⟩
def qjB:qq:=qX [(30,qvh),(125,qvi),(122,qvj)] qaJ
theorem qhL:PkT qjB:=qm qa9 (qf qDZ (qf qD0 (qf qD1 qr)))
end
end Su
end
section
namespace Su
noncomputable section
open Go Go.Proofs Fly
set_option maxRecDepth 100000
theorem qvk (fu:Nat)  (a:Int) (b:Int):qx tb qjB (shN tb qjB fu 9) fu 131 ((dc (cI .u64) (d1 (cI .u64))).enc (a,b)) ((d1 cB)).dec=qs3 a b:=by kernel_rfl
def qpu:PrimD:=prim (dc (cI .u64) (d1 (cI .u64))) (d1 cB) (qon)
theorem qzC:OkT 131 qpu:=qi qz qhL (by kernel_rfl) fun a y hg h=>⟨0,9,0,(qvk 0 a.1 a.2).trans (qs4 a y hg h)⟩
def qjC:qq:=qX [(131,qpu)] qjB
theorem qhM:PkT qjC:=qm qhL (qf qzC qr)
end
end Su
end
section
namespace Su
noncomputable section
open Go Go.Proofs Fly
set_option maxRecDepth 100000
theorem qFU (fu:Nat)  (a:(List Int)) (i:Int):qx tb qjC (shN tb qjC fu 9) fu 149 ((dc (cQ 1 1) (d1 (cI .i64))).enc (a,i)) ((d1 (cI .u64))).dec=At a i:=by kernel_rfl
def At_p:PrimD:=prim (dc (cQ 1 1) (d1 (cI .i64))) (d1 (cI .u64)) (fun a=>At a.1 a.2)
theorem At_c:OkT 149 At_p:=qi qz qhM (by kernel_rfl) fun a y hg h=>⟨0,9,0,(qFU 0 a.1 a.2).trans h⟩
def qjD:qq:=qX [(149,At_p)] qjC
theorem qhN:PkT qjD:=qm qhM (qf At_c qr)
end
end Su
end
section
namespace Su
noncomputable section
open Go Go.Proofs Fly
set_option maxRecDepth 100000
theorem qzD (fu:Nat) (a:(List Int)):qx tb qjD (shN tb qjD fu 9) fu 148 ((d1 (cQ 1 1)).enc (a)) ((d1 (cQ 1 1))).dec=qCE fu a:=by kernel_rfl
def qvl:PrimD:=prim (d1 (cQ 1 1)) (d1 (cQ 1 1)) (qiV)
theorem qvm:OkT 148 qvl:=qi qz qhN (by kernel_rfl) fun a y hg h=>by
 obtain ⟨n,hn⟩:=qxX a y hg h
 exact ⟨n,9,n,(qzD n a).trans hn⟩
def Y8:qq:=qX [(148,qvl)] qjD
theorem Zv:PkT Y8:=qm qhN (qf qvm qr)
end
end Su
end
section
namespace Su
noncomputable section
open Go Go.Proofs Fly
set_option maxRecDepth 100000
theorem qD2 (fu:Nat) (a:(List Int)) (b:(List Int)):qx tb Y8 (shN tb Y8 fu 9) fu 118 ((dc (cQ 1 1) (d1 (cQ 1 1))).enc (a,b)) ((d1 (cQ 1 1))).dec=Add fu a b:=by kernel_rfl
def qBt:PrimD:=prim (dc (cQ 1 1) (d1 (cQ 1 1))) (d1 (cQ 1 1)) (qk5)
theorem qFV:OkT 118 qBt:=qi qz Zv (by kernel_rfl) fun a y hg h=>by
 obtain ⟨n,hn⟩:=qCF a y hg h
 exact ⟨n,9,n,(qD2 n a.1 a.2).trans hn⟩
theorem qD3 (fu:Nat) (a:(List Int)) (b:(List Int)):qx tb Y8 (shN tb Y8 fu 9) fu 68 ((dc (cQ 1 1) (d1 (cQ 1 1))).enc (a,b)) ((d1 (cI .i64))).dec=Cmp fu a b:=by kernel_rfl
def qBu:PrimD:=prim (dc (cQ 1 1) (d1 (cQ 1 1))) (d1 (cI .i64)) (qAZ)
theorem qFW:OkT 68 qBu:=qi qz Zv (by kernel_rfl) fun a y hg h=>by
 obtain ⟨n,hn⟩:=qCG a y hg h
 exact ⟨n,9,n,(qD3 n a.1 a.2).trans hn⟩
theorem qD4 (fu:Nat)  (x:Int):qx tb Y8 (shN tb Y8 fu 9) fu 78 ((d1 (cI .u64)).enc (x)) ((d1 (cQ 1 1))).dec=New x:=by kernel_rfl
def qBv:PrimD:=prim (d1 (cI .u64)) (d1 (cQ 1 1)) (fun a=>New a)
theorem qBw:OkT 78 qBv:=qi qz Zv (by kernel_rfl) fun a y hg h=>⟨0,9,0,(qD4 0 a).trans h⟩
theorem qvn (fu:Nat)  (x:Int):qx tb Y8 (shN tb Y8 fu 9) fu 189 ((d1 (cI .u32)).enc (x)) ((d1 (cI .i64))).dec=qhq x:=by kernel_rfl
def qpv:PrimD:=prim (d1 (cI .u32)) (d1 (cI .i64)) (fun a=>qhq a)
theorem qzE:OkT 189 qpv:=qi qz Zv (by kernel_rfl) fun a y hg h=>⟨0,9,0,(qvn 0 a).trans h⟩
def qdE:qq:=qX [(118,qBt),(68,qBu),(78,qBv),(189,qpv)] Y8
theorem qdF:PkT qdE:=qm Zv (qf qFV (qf qFW (qf qBw (qf qzE qr))))
end
end Su
end
section
namespace Su
noncomputable section
open Go Go.Proofs Fly
set_option maxRecDepth 100000
theorem qD5 (fu:Nat)  (a:(List Int)):qx tb qdE (shN tb qdE fu 9) fu 145 ((d1 (cQ 1 1)).enc (a)) ((d1 (cI .i64))).dec=Len a:=by kernel_rfl
def qBx:PrimD:=prim (d1 (cQ 1 1)) (d1 (cI .i64)) (fun a=>Len a)
theorem qFX:OkT 145 qBx:=qi qz qdF (by kernel_rfl) fun a y hg h=>⟨0,9,0,(qD5 0 a).trans h⟩
theorem qD6 (fu:Nat) (a:(List Int)) (b:(List Int)):qx tb qdE (shN tb qdE fu 9) fu 67 ((dc (cQ 1 1) (d1 (cQ 1 1))).enc (a,b)) ((d1 (cQ 1 1))).dec=Mul fu a b:=by kernel_rfl
def qBy:PrimD:=prim (dc (cQ 1 1) (d1 (cQ 1 1))) (d1 (cQ 1 1)) (qat)
theorem qFY:OkT 67 qBy:=qi qz qdF (by kernel_rfl) fun a y hg h=>by
 obtain ⟨n,hn⟩:=qCH a y hg h
 exact ⟨n,9,n,(qD6 n a.1 a.2).trans hn⟩
def qvo:qq:=qX [(145,qBx),(67,qBy)] qdE
theorem qqZ:PkT qvo:=qm qdF (qf qFX (qf qFY qr))
end
end Su
end
section
namespace Su
open Go Go.Proofs Fly
set_option maxRecDepth 100000
noncomputable def qdG:qq:=qX [] qvo
theorem qdH:PkT qdG:=qm qqZ qr
end Su
end
section
namespace Su
noncomputable section
open Go Go.Proofs Fly
set_option maxRecDepth 100000
theorem qD7 (fu:Nat) (a:(List Int)) (sh:Int):qx tb qdG (shN tb qdG fu 9) fu 195 ((dc (cQ 1 1) (d1 (cI .i64))).enc (a,sh)) ((d1 (cQ 1 1))).dec=Shr fu a sh:=by kernel_rfl
def qBz:PrimD:=prim (dc (cQ 1 1) (d1 (cI .i64))) (d1 (cQ 1 1)) (qA0)
theorem qFZ:OkT 195 qBz:=qi qz qdH (by kernel_rfl) fun a y hg h=>by
 obtain ⟨n,hn⟩:=qCI a y hg h
 exact ⟨n,9,n,(qD7 n a.1 a.2).trans hn⟩
theorem qD8 (fu:Nat) (a:(List Int)) (sh:Int):qx tb qdG (shN tb qdG fu 9) fu 143 ((dc (cQ 1 1) (d1 (cI .i64))).enc (a,sh)) ((dc (cQ 1 1) (d1 (cI .i64)))).dec=Shl fu a sh:=by kernel_rfl
def qBA:PrimD:=prim (dc (cQ 1 1) (d1 (cI .i64))) (dc (cQ 1 1) (d1 (cI .i64))) (qhu)
theorem qF0:OkT 143 qBA:=qi qz qdH (by kernel_rfl) fun a y hg h=>by
 obtain ⟨n,hn⟩:=qCJ a y hg h
 exact ⟨n,9,n,(qD8 n a.1 a.2).trans hn⟩
def qjE:qq:=qX [(195,qBz),(143,qBA)] qdG
theorem qhO:PkT qjE:=qm qdH (qf qFZ (qf qF0 qr))
end
end Su
end
section
namespace Su
noncomputable section
open Go Go.Proofs Fly
set_option maxRecDepth 100000
theorem qD9 (fu:Nat) (a:(List Int)) (b:(List Int)):qx tb qjE (shN tb qjE fu 9) fu 119 ((dc (cQ 1 1) (d1 (cQ 1 1))).enc (a,b)) ((dc (cQ 1 1) (d1 cB))).dec=Sub fu a b:=by kernel_rfl
def qBB:PrimD:=prim (dc (cQ 1 1) (d1 (cQ 1 1))) (dc (cQ 1 1) (d1 cB)) (qhw)
theorem qF1:OkT 119 qBB:=qi qz qhO (by kernel_rfl) fun a y hg h=>by
 obtain ⟨n,hn⟩:=qCK a y hg h
 exact ⟨n,9,n,(qD9 n a.1 a.2).trans hn⟩
def qvp:qq:=qX [(119,qBB)] qjE
theorem qq0:PkT qvp:=qm qhO (qf qF1 qr)
end
end Su
end
