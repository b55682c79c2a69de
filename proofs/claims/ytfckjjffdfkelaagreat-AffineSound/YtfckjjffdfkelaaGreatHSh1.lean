/-
  The law and its row.
-/
import Derived.RangeFuncNested
import Derived.RangeFuncBound
import Derived.RangeFuncCalls
import Derived.RangeFuncLeaves
import Derived.RangeFuncWrites
import Derived.Shelf.Abstract
import Derived.Shelf.RegionOpen
import Derived.WalkKit
import Derived.OwnWalkIn
import Derived.TacticsInMore
import Derived.LoopNIn
import Derived.LoopIn
import Derived.Test.YtfckjjffdfkelaaGreatProg
import Derived.Test.YtfckjjffdfkelaaGreatFlyM
import Derived.Test.YtfckjjffdfkelaaGreatNC01
import Derived.Test.YtfckjjffdfkelaaGreatSuTb
import Derived.Test.YtfckjjffdfkelaaGreatNB05
set_option maxRecDepth 10000
section
namespace Go.Proofs.Sho
open Go Go.RowKit Go.Shelf Go.Proofs
attribute [local go_sem] Oper.semAt_some
abbrev Wo (len:Nat):={ x:Nat×Nat // x.1<len∧x.2<4294967296 }
def enW {len:Nat} (x:Wo len):Array Value:=#[.int .i64 (x.1.1:Int),.int .u32 (x.1.2:Int)]
theorem word_lt {zs:List Nat} (hz:∀ z∈zs,z<4294967296) (j:Nat):zs[j]?.getD 0<4294967296:=by
 cases h:zs[j]? with
 | none=>simp
 | some z=>simpa using hz z (List.mem_of_getElem? h)
def Kb (n₀ B:Nat) (W W':World):Prop:=Below n₀ W W'∧W'.heap[B]?=W.heap[B]?
theorem Kb.trans {n₀ B:Nat} {X Y Z:World} (h:Kb n₀ B X Y) (k:Kb n₀ B Y Z):Kb n₀ B X Z:=⟨h.1.trans k.1,k.2.trans h.2⟩
theorem Kb.refl (n₀ B:Nat) (W:World):Kb n₀ B W W:=⟨Below.refl _ _,rfl⟩
def back {zs:List Nat} (hz:∀ z∈zs,z<4294967296) (h0:0<zs.length) (k:Nat):List (Wo zs.length) :=
 (List.range k).map fun j=>⟨(zs.length-1-j,zs[zs.length-1-j]?.getD 0),by simp only [];omega,word_lt hz _⟩
theorem back_succ {zs:List Nat} (hz:∀ z∈zs,z<4294967296) (h0:0<zs.length) (k:Nat) :
 back hz h0 (k+1)=back hz h0 k++[⟨(zs.length-1-k,zs[zs.length-1-k]?.getD 0),by simp only [];omega,word_lt hz _⟩]:=by
 simp [back,List.range_succ]
theorem back_len {zs:List Nat} (hz:∀ z∈zs,z<4294967296) (h0:0<zs.length) (k:Nat):(back hz h0 k).length=k:=by simp [back]
theorem back_step {zs:List Nat} (hz:∀ z∈zs,z<4294967296) (h0:0<zs.length) {m:Nat} (hm:m<zs.length) :
 back hz h0 (zs.length-m)=back hz h0 (zs.length-(m+1))++[⟨(m,zs[m]?.getD 0),hm,word_lt hz _⟩]:=by
 have h1:zs.length-m=zs.length-(m+1)+1:=by omega
 rw [h1,back_succ]
 congr 2
 have h2:zs.length-1-(zs.length-(m+1))=m:=by omega
 exact Subtype.ext (by simp only [h2])
set_option maxRecDepth 100000 in
set_option maxHeartbeats 2000000 in
theorem back1_in (F:Fence) (n:Nat) (h7:F.fn 234) (hro:F.round=none) (hn:1≤n) (l Bs n₀ b off cap:Nat) (zs:List Nat) (hz:∀ z∈zs,z<4294967296) (hl:0<zs.length) (hreach:zs.length≤549755813888) (hb:b<n₀) (J Jx:List (Wo zs.length)→World→Prop)
 (hY:∀ pre x W,J pre W→pre.length<zs.length→YieldAt F (n-1) Tryz.prog l (enW x) W fun e W' =>
   (e = .returned (.bool true)∧J (pre++[x]) W'∧Kb n₀ Bs W W')∨(e = .returned (.bool false)∧Jx (pre++[x]) W'))
 (W:World) (hBs:W.cell? ⟨Bs,0,none⟩=some (.slice (some ⟨b,off,none⟩) zs.length cap)) (hc:∀ j,j<zs.length→W.cell? ⟨b,off+j,none⟩=some (.int .u32 ((zs[j]?.getD 0:Nat):Int))) (h0:J [] W) :
 CallsIn F n Tryz.prog 234 #[.func (.yield l) #[] #[],.pointer (some ⟨Bs,0,none⟩)] W fun e W'=>(∃ v,e = .returned v) ∧
  ((∃ ys,ys=back hz hl zs.length∧J ys W')∨(∃ pre,(∃ k,k≤zs.length∧pre=back hz hl k)∧Jx pre W')):=by
 refine callsIn_of_wp Tryz.func234 rfl h7 ?_ hro
 simp only [Tryz.ntmps234,List.size_toArray,List.length_cons,List.length_nil,Nat.reduceAdd,Nat.reduceSub,Array.replicate_succ,Array.replicate_zero,List.push_toArray,List.append_toArray,List.nil_append,List.cons_append]
 gi_wp2
 gi_loopw [3] (fun i wr=>∃ m:Nat,m≤zs.length∧i = .int .i64 ((m:Int)-1)∧J (back hz hl (zs.length-m)) wr∧Kb n₀ Bs W wr)
  (fun i _=>(intOf i+1).toNat)
 case atStart =>
  refine ⟨zs.length,Nat.le_refl _,?_,?_,Kb.refl _ _ _⟩
  · rfl
  · rw [Nat.sub_self];exact h0
 case round =>
  obtain ⟨m,hm,rfl,hJs,hnx⟩:=hrel
  have hBs':wr.cell? ⟨Bs,0,none⟩=some (.slice (some ⟨b,off,none⟩) zs.length cap):=(World.cell?_of_block (a:=⟨Bs,0,none⟩) hnx.2).trans hBs
  cases m with
  | zero =>
   have e0:(((0:Nat):Int)-1) = -1:=rfl
   rw [e0]
   gi_wp2
   go_end0
   exact ⟨⟨_,rfl⟩,.inl ⟨_,rfl,hJs⟩⟩
  | succ m =>
   have e0:(((m+1:Nat):Int)-1)=(m:Int):=by omega
   rw [e0]
   have hcx:wr.cell? ⟨b,off+m,none⟩=some (.int .u32 ((zs[m]?.getD 0:Nat):Int)):=(hnx.1.cell (p:=⟨b,off+m,none⟩) hb).trans (hc m (by omega))
   obtain ⟨fn,tmps,assign,body,hy,hR⟩:=hY _ ⟨(m,zs[m]?.getD 0),by simp only [];omega,word_lt hz _⟩ wr hJs (by rw [back_len];omega)
   dsimp only [enW] at hy
   gi_wp2
   refine hR.mono ?_
   rintro e W3 (⟨rfl,hJ3,hk3⟩ | ⟨rfl,hJx3⟩)
   · gi_wp2
     go_roundw
     case rel =>
      exact ⟨m,by omega,rfl,by rw [back_step hz hl (by omega)];exact hJ3,hnx.trans hk3⟩
     case measure=>simp only [intOf];omega
   · gi_wp2
     refine bodyPost_ret (results_none rfl _ _ _) rfl ?_
     exact ⟨⟨_,rfl⟩,.inr ⟨_,⟨zs.length-m,by omega,(back_step hz hl (by omega)).symm⟩,hJx3⟩⟩
theorem back0_in (F:Fence) (n:Nat) (h7:F.fn 234) (hro:F.round=none) (l Bs:Nat) (sa:Option Addr) (cap:Nat) (K:World→Prop) (W:World) (hBs:W.cell? ⟨Bs,0,none⟩=some (.slice sa 0 cap)) (h0:K W) :
 CallsIn F n Tryz.prog 234 #[.func (.yield l) #[] #[],.pointer (some ⟨Bs,0,none⟩)] W fun e W'=>(∃ v,e = .returned v)∧K W':=by
 refine callsIn_of_wp Tryz.func234 rfl h7 ?_ hro
 simp only [Tryz.ntmps234,List.size_toArray,List.length_cons,List.length_nil,Nat.reduceAdd,Nat.reduceSub,Array.replicate_succ,Array.replicate_zero,List.push_toArray,List.append_toArray,List.nil_append,List.cons_append]
 gi_wp2
 gi_loopw [3] (fun i wr=>i = .int .i64 (-1)∧K wr) (fun _ _=>0)
 case atStart=>exact ⟨rfl,h0⟩
 case round =>
  obtain ⟨rfl,hJs⟩:=hrel
  gi_wp2
  go_end0
  exact ⟨⟨_,rfl⟩,hJs⟩
set_option maxHeartbeats 1000000 in
theorem backward_in (F:Fence) (n:Nat) (h5:F.fn 220) (hro:F.round=none) (a:Option Addr) (len cap:Nat) (w:World) :
 CallsIn F n Tryz.prog 220 #[.slice a len cap] w fun e w'=>e = .returned (.func (.func 234) #[] #[.pointer (some ⟨w.heap.size,0,none⟩)])∧w'=w.alloc (.cells #[.slice a len cap] 39):=by
 refine callsIn_of_wp Tryz.func220 rfl h5 ?_ hro
 simp only [Tryz.ntmps220,List.size_toArray,List.length_cons,List.length_nil,Nat.reduceAdd,Nat.reduceSub,Array.replicate_succ,Array.replicate_zero,List.push_toArray,List.append_toArray,List.nil_append,List.cons_append]
 gi_wp2
 go_ret
 exact ⟨rfl,rfl⟩
def Words (n₀:Nat) (W:World) (sv:Value) (zs:List Nat):Prop :=
 (zs=[]∧∃ a cap,sv = .slice a 0 cap)∨∃ b off cap,sv = .slice (some ⟨b,off,none⟩) zs.length cap∧b<n₀∧∀ j,j<zs.length→W.cell? ⟨b,off+j,none⟩=some (.int .u32 ((zs[j]?.getD 0:Nat):Int))
theorem Words.below {n₀:Nat} {A B:World} (h:Below n₀ A B) {sv:Value} {zs:List Nat}:Words n₀ A sv zs→Words n₀ B sv zs
 | .inl e=>.inl e
 | .inr ⟨b,off,cap,e,hb,hc⟩=>.inr ⟨b,off,cap,e,hb,fun j hj=>(h.cell (p:=⟨b,off+j,none⟩) hb).trans (hc j hj)⟩
def All {zs:List Nat} (hz:∀ z∈zs,z<4294967296) (ys:List (Wo zs.length)):Prop:=ys=[]∧zs.length=0∨∃ hl:0<zs.length,ys=back hz hl zs.length
theorem back_stops (F:Fence) (n:Nat) (h7:F.fn 234) (hro:F.round=none) (hn:1≤n) (Bs n₀:Nat) (sv:Value) (zs:List Nat) (hz:∀ z∈zs,z<4294967296) (hreach:zs.length≤549755813888) (w:World) (hBs:Bs<w.heap.size) (hn₀:n₀≤w.heap.size)
 (hc:w.cell? ⟨Bs,0,none⟩=some sv) (hI:Words n₀ w sv zs) :
 SeqStopsK F n Tryz.prog 234 #[.pointer (some ⟨Bs,0,none⟩)] (fun x:Wo zs.length=>enW x) (Kb n₀ Bs) (All hz) (fun _=>True) zs.length w:=fun l J Jx W hW _ _ hY h0=>by
 have hc':=(hW.cell (p:=⟨Bs,0,none⟩) hBs).trans hc
 rcases hI.below (hW.mono hn₀) with ⟨h1,a,cap,rfl⟩ | ⟨b,off,cap,rfl,hb,hcs⟩
 · exact (back0_in F n h7 hro l Bs a cap (J []) W hc' h0).mono fun e W' ⟨he,hj⟩=>⟨he,.inl ⟨_,.inl ⟨rfl,by rw [h1];rfl⟩,hj⟩⟩
 · by_cases hl:0<zs.length
   · refine (back1_in F n h7 hro hn l Bs n₀ b off cap zs hz hl hreach hb J Jx hY W hc' hcs h0).mono ?_
     rintro e W' ⟨he,⟨ys,rfl,hj⟩ | ⟨pre,_,hj⟩⟩
     · exact ⟨he,.inl ⟨_,.inr ⟨hl,rfl⟩,hj⟩⟩
     · exact ⟨he,.inr ⟨_,trivial,hj⟩⟩
   · have h2:zs.length=0:=by omega
     rw [h2] at hc'
     exact (back0_in F n h7 hro l Bs _ cap (J []) W hc' h0).mono fun e W' ⟨he,hj⟩=>⟨he,.inl ⟨_,.inl ⟨rfl,h2⟩,hj⟩⟩
end Go.Proofs.Sho
end
section
namespace Go.Proofs.Sho
open Go Go.RowKit Go.Shelf Go.Proofs
attribute [local go_sem] Oper.semAt_some
theorem madeW (n:Nat):madeCells (Value.int .u32 0).cells n=Array.replicate n (.int .u32 0):=by
 apply Array.ext
 · simp [size_madeCells]
 · intro i h1 h2
   simp [madeCells,Value.cells,Nat.mod_one]
theorem info175:(Tryz.prog.info? 175).map (fun i=>(i.zero,i.size,i.bytes))=some (some (.int .u32 0),1,4):=by kernel_rfl
theorem makeW (n:Nat) (hn:n≤549755813888) (w:World) :
 (Instr.makeSlice 38 (.int .i64 (n:Int)) (.int .i64 (n:Int))).run Tryz.prog w = .ok (.slice (some ⟨w.heap.size,0,none⟩) n n) (w.alloc (.cells (Array.replicate n (.int .u32 0)) 175)):=by
 obtain ⟨i,hi,h1,h2,h3⟩:=info_parts info175
 have h:=run_make (P:=Tryz.prog) w 38 175 i (.int .u32 0) (by kernel_rfl) hi h1 .i64 .i64 (n:Int) (n:Int) (by omega) (Int.le_refl _) (by rw [h3];omega) (by omega)
 rw [Int.toNat_natCast,h2,Nat.mul_one,madeW] at h
 exact h
theorem keepA {W:World} {B:Nat} {o:Obj} (h:W.heap[B]?=some o) (o':Obj):(W.alloc o').heap[B]?=some o:=((World.grownBy_alloc W o' none).block B (Array.getElem?_eq_some_iff.1 h).1 (by simp)).trans h
theorem newA (W:World) (k:Nat) (hk:W.heap.size=k) (o:Obj):(W.alloc o).heap[k]?=some o:=by subst hk;exact World.alloc_heap_new W o
theorem setO {W:World} {a:Addr} {v:Value} {B:Nat} (h:a.block≠B):(W.setCell a v).heap[B]?=W.heap[B]?:=by
 show (W.heap.modify a.block _)[B]?=_
 rw [Array.getElem?_modify,if_neg h]
theorem setS {W:World} {B i:Nat} {v:Value} {c:Array Value} {t:TypeId} {fr:Nat×Nat} (h:W.heap[B]?=some (.cells c t fr)):(W.setCell ⟨B,i,none⟩ v).heap[B]?=some (.cells (c.setIfInBounds i v) t fr):=by
 show (W.heap.modify B _)[B]?=_
 rw [Array.getElem?_modify,if_pos rfl,h];rfl
theorem cellB {W:World} {B i:Nat} {c:Array Value} {t:TypeId} {fr:Nat×Nat} {v:Value} (h:W.heap[B]?=some (.cells c t fr)) (hi:c[i]?=some v):W.cell? ⟨B,i,none⟩=some v:=by
 simp [World.cell?,h,hi]
theorem frozB {W:World} {B i:Nat} {c:Array Value} {t:TypeId} (h:W.heap[B]?=some (.cells c t (0,0))):W.frozen? ⟨B,i,none⟩=false:=by
 simp [World.frozen?,h]
theorem keptB {W W':World} {row:Option Nat} {B:Nat} {c:Array Value} {t:TypeId} {fr:Nat×Nat} (h:W.heap[B]?=some (.cells c t fr)) (hg:W.grownBy W' row) (hr:∀ r,row=some r→∃ o:Obj,W.heap[r]?=some o∧o.isCells=false):W'.heap[B]?=some (.cells c t fr) :=
 (hg.block B (Array.getElem?_eq_some_iff.1 h).1 (fun e=>by
   obtain ⟨o,ho,hc⟩:=hr B e.symm
   rw [h] at ho;cases ho;cases hc)).trans h
theorem IntKind_wu64 {n:Int} (h0:0≤n) (h1:n<18446744073709551616):IntKind.u64.wrap n=n:=by rw [IntKind.wrap_u64];omega
theorem IntKind_wrap32 (n:Int):IntKind.u32.wrap n=n % 4294967296:=IntKind.wrap_u32 n
theorem or_shlS {x y r:Nat} (hr:x<2^r):x ||| y*2^r=x+y*2^r:=by
 have:=Nat.two_pow_add_eq_or_of_lt hr y
 rw [Nat.mul_comm,Nat.or_comm,← this];omega
theorem or_lo {R v:Nat} (hR:R<4294967296) (hv:v<4294967296):bits BinOp.or IntKind.u64 ((R:Int)*4294967296) (v:Int)=((R*4294967296+v:Nat):Int):=by
 have h:=Fly.or_nat (a:=R*4294967296) (b:=v) (by omega) (by omega)
 rw [Nat.or_comm,or_shlS (x:=v) (y:=R) (r:=32) (by simpa using hv),Nat.add_comm v] at h
 rw [← h,Int.natCast_mul];rfl
def stp (b:Nat) {len:Nat} (s:Nat×List Nat) (x:Wo len):Nat×List Nat:=((s.1*4294967296+x.1.2) % b,s.2.set x.1.1 ((s.1*4294967296+x.1.2) / b % 4294967296))
def sf (b:Nat) {len:Nat} (pre:List (Wo len)):Nat×List Nat:=pre.foldl (stp b) (0,List.replicate len 0)
theorem sf_snoc (b:Nat) {len:Nat} (pre:List (Wo len)) (x:Wo len):sf b (pre++[x])=stp b (sf b pre) x:=by simp [sf]
theorem sf_lt {b:Nat} (hb:0<b) {len:Nat} (pre:List (Wo len)):(sf b pre).1<b:=by
 have:∀ (l:List (Wo len)) (s:Nat×List Nat),s.1<b→(l.foldl (stp b) s).1<b:=by
  intro l
  induction l with
  | nil=>exact fun s h=>h
  | cons x l ih=>exact fun s _=>ih _ (Nat.mod_lt _ hb)
 exact this pre _ hb
theorem sf_len (b:Nat) {len:Nat} (pre:List (Wo len)):(sf b pre).2.length=len:=by
 have:∀ (l:List (Wo len)) (s:Nat×List Nat),s.2.length=len→(l.foldl (stp b) s).2.length=len:=by
  intro l
  induction l with
  | nil=>exact fun s h=>h
  | cons x l ih=>exact fun s h=>ih _ (by simp [stp,h])
 exact this pre _ (by simp)
def Hid (p:Prop):Prop:=p
def vW (n:Nat):Value:=.int .u32 (n:Int)
structure Inv (B b:Nat) {len:Nat} (pre:List (Wo len)) (W:World):Prop where
 h0:W.heap[B]?=some (Obj.cells #[.int .u32 (b:Int)] 175 (0,0))
 h1:W.heap[B+1]?=some (Obj.cells ((sf b pre).2.map vW).toArray 175 (0,0))
 h2:W.heap[B+2]?=some (Obj.cells #[.slice (some ⟨B+1,0,none⟩) len len] 38 (0,0))
 h3:W.heap[B+3]?=some (Obj.cells #[.int .u64 ((sf b pre).1:Int)] 44 (0,0))
theorem Inv.own (B b:Nat) (len:Nat):Own (fun (pre:List (Wo len)) W=>Inv B b pre W) :=
 fun _ _ _ _ hs hg hr=>⟨keptB hs.h0 hg hr,keptB hs.h1 hg hr,keptB hs.h2 hg hr,keptB hs.h3 hg hr⟩
def code9:Code :=
 Code.region 9
  #[{ dst:=some 34,op:=Op.load 38 (Operand.tmp 6),type:=38,pos:="nat.go:158",after:=#[],
      guard:=none },
    { dst:=some 35,
      op:=Op.call { callee:=Callee.value (Operand.func 148),args:=#[Operand.tmp 34],argTypes:=#[38] },
      type:=39,pos:="nat.go:158",after:=#[{ on:=0,ground:=Ground.data }],guard:=none },
    { dst:=some 36,op:=Op.load 44 (Operand.tmp 7),type:=44,pos:="nat.go:158",after:=#[],
      guard:=none },
    { dst:=some 37,
      op:=Op.call { callee:=Callee.value (Operand.func 78),args:=#[Operand.tmp 36],argTypes:=#[44] },
      type:=39,pos:="nat.go:158",
      after:=#[{ on:=2,ground:=Ground.data },{ on:=1,ground:=Ground.chain }],guard:=none },
    { dst:=some 4,op:=Op.assign (Operand.tmp 35),type:=39,pos:="nat.go:158",
      after :=
       #[{ on:=1,ground:=Ground.data },{ on:=3,ground:=Ground.chain },
         { on:=0,ground:=Ground.phase },{ on:=1,ground:=Ground.phase },
         { on:=2,ground:=Ground.textOnly Departure.lateStores },
         { on:=3,ground:=Ground.textOnly Departure.lateStoresUnsure }],
      guard:=none },
    { dst:=some 5,op:=Op.assign (Operand.tmp 37),type:=39,pos:="nat.go:158",
      after :=
       #[{ on:=3,ground:=Ground.data },{ on:=4,ground:=Ground.chain },
         { on:=0,ground:=Ground.phase },{ on:=1,ground:=Ground.phase },
         { on:=2,ground:=Ground.phase },{ on:=3,ground:=Ground.phase },
         { on:=4,ground:=Ground.phase }],
      guard:=none }]
  true
def act9 (B D b:Nat) (sa:Option Addr) (len cap:Nat):Act :=
 { tmps:=#[.slice sa len cap,.int .u32 (b:Int),undef,.pointer (some ⟨B,0,none⟩),.slice none 0 0,.slice none 0 0,.pointer (some ⟨B+2,0,none⟩),.pointer (some ⟨B+3,0,none⟩),undef,undef,
    .slice sa len cap,.int .i64 (len:Int),.slice (some ⟨B+1,0,none⟩) len len,.slice sa len cap,.func (.func 234) #[] #[.pointer (some ⟨B+4,0,none⟩)],
    undef,undef,undef,undef,undef,undef,undef,undef,undef,undef,undef,undef,undef,undef,undef,undef,undef,undef,undef,undef,undef,undef,undef],defers:=[{ target:=.collected D,args:=#[] }] }
theorem body_end {b len i v m d r1:Nat} {pre:List (Wo len)} {w W W0 W1:World} {hi:i<len} {hv:v<4294967296} (hW1:W.setCell { block:=w.heap.size+3,off:=0 } (Value.int IntKind.u64 (r1:Int))=W1)
 (_h3:W.heap[w.heap.size+3]?=some (Obj.cells #[.int .u64 ((sf b pre).1:Int)] 44 (0,0)))
 (g0:W1.heap[w.heap.size]?=some (Obj.cells #[.int .u32 (b:Int)] 175 (0,0))) (g1:W1.heap[w.heap.size+1]?=some (Obj.cells ((sf b pre).2.map vW).toArray 175 (0,0)))
 (g2:W1.heap[w.heap.size+2]?=some (Obj.cells #[.slice (some ⟨w.heap.size+1,0,none⟩) len len] 38 (0,0))) (g3:W1.heap[w.heap.size+3]?=some (Obj.cells #[.int .u64 (r1:Int)] 44 (0,0)))
 (hst:Hid (stp b (sf b pre) (⟨(i,v),hi,hv⟩:Wo len)=(m,(sf b pre).2.set i d))) (hB:Below w.heap.size w W) (_hsz:W0.heap.size=w.heap.size+5) :
 KeepsFrom W0.heap.size W ((W1.setCell ⟨w.heap.size+1,i,none⟩ (.int .u32 (d:Int))).setCell ⟨w.heap.size+3,0,none⟩ (.int .u64 (m:Int))).drew ∧
  Kb w.heap.size (w.heap.size+4) W ((W1.setCell ⟨w.heap.size+1,i,none⟩ (.int .u32 (d:Int))).setCell ⟨w.heap.size+3,0,none⟩ (.int .u64 (m:Int))).drew ∧
  (Inv w.heap.size b (pre++[(⟨(i,v),hi,hv⟩:Wo len)]) ((W1.setCell ⟨w.heap.size+1,i,none⟩ (.int .u32 (d:Int))).setCell ⟨w.heap.size+3,0,none⟩ (.int .u64 (m:Int))).drew ∧
    Below w.heap.size w ((W1.setCell ⟨w.heap.size+1,i,none⟩ (.int .u32 (d:Int))).setCell ⟨w.heap.size+3,0,none⟩ (.int .u64 (m:Int))).drew):=by
 have hst:stp b (sf b pre) (⟨(i,v),hi,hv⟩:Wo len)=(m,(sf b pre).2.set i d):=hst
 have hbl:Below w.heap.size W ((W1.setCell ⟨w.heap.size+1,i,none⟩ (.int .u32 (d:Int))).setCell ⟨w.heap.size+3,0,none⟩ (.int .u64 (m:Int))).drew:=by
  rw [← hW1]
  exact ((((Below.refl _ W).setCell (p:=⟨w.heap.size+3,0,none⟩) (by simp) _).setCell (p:=⟨w.heap.size+1,i,none⟩) (by simp) _).setCell (p:=⟨w.heap.size+3,0,none⟩) (by simp) _).drew
 refine ⟨?_,⟨hbl,?_⟩,⟨?_,?_,?_,?_⟩,hB.trans hbl⟩
 · rw [← hW1]
   exact ((((KeepsOthers.setCell _ _ _).trans (KeepsOthers.setCell _ _ _)).trans (KeepsOthers.setCell _ _ _)).trans (KeepsOthers.drew _)).from _
 · show ((W1.setCell _ _).setCell _ _).heap[w.heap.size+4]?=_
   rw [setO (by simp),setO (by simp),← hW1,setO (by simp)]
 · show ((W1.setCell _ _).setCell _ _).heap[w.heap.size]?=_
   rw [setO (by simp),setO (by simp)];exact g0
 · show ((W1.setCell _ _).setCell _ _).heap[w.heap.size+1]?=_
   rw [setO (by simp),setS g1,sf_snoc,hst]
   simp [List.map_set,vW]
 · show ((W1.setCell _ _).setCell _ _).heap[w.heap.size+2]?=_
   rw [setO (by simp),setO (by simp)];exact g2
 · show ((W1.setCell _ _).setCell _ _).heap[w.heap.size+3]?=_
   rw [setS ((setO (by simp)).trans g3),sf_snoc,hst];rfl
set_option maxRecDepth 100000 in
set_option maxHeartbeats 4000000 in
theorem short_in (F:Fence) (n:Nat) (h3:F.fn 191) (h5:F.fn 220) (h7:F.fn 234) (hro:F.round=none) (hn:3≤n) (sa:Option Addr) (cap:Nat) (b:Nat) (hb0:0<b) (hb1:b<4294967296) (zs:List Nat) (hz:∀ z∈zs,z<4294967296) (hreach:zs.length≤549755813888) (w:World)
 (hI:Words w.heap.size w (.slice sa zs.length cap) zs) {Q:Ending→World→Prop}
 (hdone:∀ (D:Nat) (ys:List (Wo zs.length)) (W:World) (Kc:Act→World→Prop),(∀ a w',Code.wpIn F n Tryz.prog Code.ret (bodyPostM F n Tryz.prog Tryz.f191 Q) a w'→Kc a w')→w.heap.size+5≤D→All hz ys→Inv w.heap.size b ys W→Below w.heap.size w W →
   W.heap[D]?=some (.deferred (some []))→Code.wpIn F n Tryz.prog code9 (Exit.then Kc (bodyPostM F n Tryz.prog Tryz.f191 Q)) (act9 w.heap.size D b sa zs.length cap) W) :
 CallsIn F n Tryz.prog 191 #[.slice sa zs.length cap,.int .u32 (b:Int)] w Q:=by
 have h1:1≤n:=by omega
 refine callsIn_of_wp_marks Tryz.func191 rfl h3 ?_ hro
 simp only [Tryz.ntmps191,List.size_toArray,List.length_cons,List.length_nil,Nat.reduceAdd,Nat.reduceSub,Array.replicate_succ,Array.replicate_zero,List.push_toArray,List.append_toArray,List.nil_append,List.cons_append]
 have hmk:=makeW zs.length hreach
 gi_wp2_with (gi_at_call 220;refine (backward_in F (n-1) h5 hro _ _ _ _).mono ?_;rintro e w' ⟨rfl,rfl⟩)
 obtain ⟨W0,hW0⟩:∃ W0,((((w.alloc (Obj.cells #[Value.int IntKind.u32 (b:Int)] 175)).alloc (Obj.cells (Array.replicate zs.length (Value.int IntKind.u32 0)) 175)).alloc
  (Obj.cells #[Value.slice (some { block:=w.heap.size+1,off:=0 }) zs.length zs.length] 38)).alloc (Obj.cells #[Value.int IntKind.u64 0] 44)).alloc (Obj.cells #[Value.slice sa zs.length cap] 39)=W0:=⟨_,rfl⟩
 rw [hW0]
 have hB0:Below w.heap.size w W0:=by rw [← hW0];exact (((((Below.refl _ w).alloc (Nat.le_refl _) _).alloc (by simp) _).alloc (by simp;omega) _).alloc (by simp;omega) _).alloc (by simp;omega) _
 have hsz:W0.heap.size=w.heap.size+5:=by rw [← hW0];simp only [World.size_alloc]
 have hJ0:Inv w.heap.size b ([]:List (Wo zs.length)) W0:=by
  rw [← hW0]
  refine ⟨keepA (keepA (keepA (keepA (newA _ _ rfl _) _) _) _) _,?_,keepA (keepA (newA _ _ (by simp only [World.size_alloc]) _) _) _,keepA (newA _ _ (by simp only [World.size_alloc]) _) _⟩
  have e:((sf b ([]:List (Wo zs.length))).2.map vW).toArray=Array.replicate zs.length (Value.int IntKind.u32 0):=by
   show ((List.replicate zs.length 0).map vW).toArray=_
   rw [List.map_replicate];exact List.toArray_replicate ..
  rw [e]
  exact keepA (keepA (keepA (newA _ _ (by simp only [World.size_alloc]) _) _) _) _
 have hbx:W0.cell? ⟨w.heap.size+4,0,none⟩=some (.slice sa zs.length cap):=by
  rw [← hW0];exact cellB (newA _ _ (by simp only [World.size_alloc]) _) rfl
 refine wpIn_rangeFunc_ownG hro h1 (gf:=234) (lb:=#[.pointer (some ⟨w.heap.size+4,0,none⟩)]) rfl h7 (enters_of Tryz.func234 (by kernel_rfl) rfl)
  (back_stops F (n-1) h7 hro (by omega) (w.heap.size+4) w.heap.size _ zs hz hreach W0 (by omega) (by omega) hbx (hI.below hB0)) Kb.trans
  (fun W l o o' hl ho hc _=>⟨belowK_b (w:=w) (Nat.le_refl _) W l o o' (by omega) ho hc (by assumption),World.putObj_heap_other (by omega)⟩) (Below.refl _ _) (fun _=>rfl)
  (fun pre W=>Inv w.heap.size b pre W∧Below w.heap.size w W)
  (fun _ _ _=>False)
  (OwnFrom.and ((Inv.own w.heap.size b zs.length).from _) (ownFrom_below (Nat.le_refl _) (by omega)))
  (fun _ _ _ _ _ hs _ _=>hs)
  ⟨hJ0,hB0⟩
  (fun x=>{ tmps:=#[.slice sa zs.length cap,.int .u32 (b:Int),undef,.pointer (some ⟨w.heap.size,0,none⟩),.slice none 0 0,.slice none 0 0,.pointer (some ⟨w.heap.size+2,0,none⟩),.pointer (some ⟨w.heap.size+3,0,none⟩),.int .i64 (x.1.1:Int),.int .u32 (x.1.2:Int),
    .slice sa zs.length cap,.int .i64 (zs.length:Int),.slice (some ⟨w.heap.size+1,0,none⟩) zs.length zs.length,.slice sa zs.length cap,.func (.func 234) #[] #[.pointer (some ⟨w.heap.size+4,0,none⟩)],.int .i64 (x.1.1:Int),.int .u32 (x.1.2:Int),
    undef,undef,undef,undef,undef,undef,undef,undef,undef,undef,undef,undef,undef,undef,undef,undef,undef,undef,undef,undef,undef],defers:=[] }) ?assign ?body ?done ?stop
 case assign =>
  intro l x W K hK
  dsimp only [enW]
  gi_wp2
  exact hK
 case body =>
  rintro l pre ⟨⟨i,v⟩,hi,hv⟩ W ⟨hS,hB⟩ _
  dsimp only at hi hv
  have c0:=cellB hS.h0 (i:=0) rfl
  have c2:=cellB hS.h2 (i:=0) rfl
  have c3:=cellB hS.h3 (i:=0) rfl
  have f3:=frozB (i:=0) hS.h3
  have f1:=frozB (i:=i) hS.h1
  have hr:=sf_lt hb0 pre
  have hmx:Tryz.prog.follows .mixedOrders=true:=by kernel_rfl
  have hor:bits BinOp.or IntKind.u64 (((sf b pre).1:Int)*4294967296) (v:Int)=(((sf b pre).1*4294967296+v:Nat):Int):=or_lo (by omega) hv
  gi_wp2
  obtain ⟨r1,hr1⟩:∃ r1:Nat,(sf b pre).1*4294967296+v=r1:=⟨_,rfl⟩
  have hr2:((sf b pre).1:Int)*4294967296+(v:Int)=(r1:Int):=by rw [← hr1];simp
  have hr3:r1<18446744073709551616:=by omega
  rw [hr2]
  clear hor hr2
  obtain ⟨W1,hW1⟩:∃ W1,W.setCell { block:=w.heap.size+3,off:=0 } (Value.int IntKind.u64 (r1:Int))=W1:=⟨_,rfl⟩
  rw [hW1]
  have g0:W1.heap[w.heap.size]?=some (Obj.cells #[.int .u32 (b:Int)] 175 (0,0)):=by rw [← hW1,setO (by simp)];exact hS.h0
  have g1:W1.heap[w.heap.size+1]?=some (Obj.cells ((sf b pre).2.map vW).toArray 175 (0,0)):=by rw [← hW1,setO (by simp)];exact hS.h1
  have g2:W1.heap[w.heap.size+2]?=some (Obj.cells #[.slice (some ⟨w.heap.size+1,0,none⟩) zs.length zs.length] 38 (0,0)):=by rw [← hW1,setO (by simp)];exact hS.h2
  have g3:W1.heap[w.heap.size+3]?=some (Obj.cells #[.int .u64 (r1:Int)] 44 (0,0)):=by rw [← hW1];exact setS hS.h3
  have c0':=cellB g0 (i:=0) rfl
  have c2':=cellB g2 (i:=0) rfl
  have c3':=cellB g3 (i:=0) rfl
  have f3':=frozB (i:=0) g3
  have f1':=frozB (i:=i) g1
  have hb2 : ¬ ((b:Int)=0):=by omega
  have hb3 : ¬ (b=0):=by omega
  have hsl:=sf_len b pre
  obtain ⟨Qi,hQi⟩:∃ Qi,(sf b pre).2[i]?=some Qi:=⟨_,List.getElem?_eq_getElem (by omega)⟩
  have c1':W1.cell? ⟨w.heap.size+1,i,none⟩=some (.int .u32 (Qi:Int)):=cellB g1 (by rw [List.getElem?_toArray,List.getElem?_map,hQi];rfl)
  have hwb:IntKind.u64.wrap (b:Int)=(b:Int):=IntKind_wu64 (by omega) (by omega)
  obtain ⟨q,hq⟩:∃ q,r1 / b=q:=⟨_,rfl⟩
  have hql:q≤r1:=by rw [← hq];exact Nat.div_le_self _ _
  have hq1:IntKind.u64.wrap ((r1:Int) / (b:Int))=(q:Int):=by rw [← hq,← Int.natCast_ediv];exact IntKind_wu64 (by omega) (by omega)
  obtain ⟨d,hd⟩:∃ d,q % 4294967296=d:=⟨_,rfl⟩
  have hd1:IntKind.u32.wrap (q:Int)=(d:Int):=by rw [IntKind_wrap32,← hd];omega
  obtain ⟨m,hm⟩:∃ m,r1 % b=m:=⟨_,rfl⟩
  have hm1:(r1:Int) % (b:Int)=(m:Int):=by rw [← hm,Int.natCast_emod]
  have hm2:(r1:Int).tmod (b:Int)=(m:Int):=by rw [Int.tmod_eq_emod_of_nonneg (by omega)];exact hm1
  have hst:Hid (stp b (sf b pre) (⟨(i,v),hi,hv⟩:Wo zs.length)=(m,(sf b pre).2.set i d)):=by
   show (((sf b pre).1*4294967296+v) % b,(sf b pre).2.set i (((sf b pre).1*4294967296+v) / b % 4294967296))=_
   rw [hr1,hm,hq,hd]
  clear hq hd hm
  gi_region_o
  all_goals gi_wp2
  all_goals exact body_end (hi:=hi) (hv:=hv) hW1 hS.h3 g0 g1 g2 g3 hst hB hsz
 case done =>
  rintro D ys W hD hA ⟨hS,hB⟩ hK
  gi_wp2
  exact hdone D ys W _ (by assumption) (by omega) hA hS hB hK
 case stop =>
  rintro D c pre W _ _ h _
  exact h.elim
end Go.Proofs.Sho
end
section
namespace Su
open Go Go.Proofs Fly
set_option maxRecDepth 100000
theorem pParts_eq (fu:Nat)  (f:Int):shFn tb noPr (shN tb noPr fu 9) fu 142 ((d1 (cI .u64)).enc (f)) ((dc cB (dc (cI .i64) (d1 (cI .u64))))).dec=pParts f:=by kernel_rfl
noncomputable def pParts_p:PrimD:=prim (d1 (cI .u64)) (dc cB (dc (cI .i64) (d1 (cI .u64)))) (pParts_s)
theorem pParts_c:Ok1 Tryz.prog tb btsOK.sound 142 pParts_p:=prim_ok k_ok noPr_ok (by kernel_rfl) fun a y hg h=>⟨0,9,0,(pParts_eq 0 a).trans (pParts_ok a y hg h)⟩
theorem pMake_eq (fu:Nat)  (neg:Bool) (exp:Int) (frac:Int):shFn tb noPr (shN tb noPr fu 9) fu 197 ((dc cB (dc (cI .i64) (d1 (cI .u64)))).enc (neg,exp,frac)) ((dc (cI .u64) (d1 (cI .i64)))).dec=pMake neg exp frac:=by kernel_rfl
noncomputable def pMake_p:PrimD:=prim (dc cB (dc (cI .i64) (d1 (cI .u64)))) (dc (cI .u64) (d1 (cI .i64))) (pMake_s)
theorem pMake_c:Ok1 Tryz.prog tb btsOK.sound 197 pMake_p:=prim_ok k_ok noPr_ok (by kernel_rfl) fun a y hg h=>⟨0,9,0,(pMake_eq 0 a.1 a.2.1 a.2.2).trans (pMake_ok a y hg h)⟩
noncomputable def pr_C01:Prims:=extL [(142,pParts_p),(197,pMake_p)] noPr
theorem pr_C01_ok:PrimOK Tryz.prog tb btsOK.sound pr_C01:=extL_ok noPr_ok (ok_cons pParts_c (ok_cons pMake_c ok_nil))
end Su
end
section
namespace Su
open Go Go.Proofs Fly
set_option maxRecDepth 100000
theorem pClass_eq (fu:Nat)  (f:Int):shFn tb pr_C01 (shN tb pr_C01 fu 9) fu 61 ((d1 (cI .u64)).enc (f)) ((d1 (cI .u8))).dec=pClass f:=by kernel_rfl
noncomputable def pClass_p:PrimD:=prim (d1 (cI .u64)) (d1 (cI .u8)) (pClass_s)
theorem pClass_c:Ok1 Tryz.prog tb btsOK.sound 61 pClass_p:=prim_ok k_ok pr_C01_ok (by kernel_rfl) fun a y hg h=>⟨0,9,0,(pClass_eq 0 a).trans (pClass_ok a y hg h)⟩
theorem pKey_eq (fu:Nat)  (f:Int):shFn tb pr_C01 (shN tb pr_C01 fu 9) fu 83 ((d1 (cI .u64)).enc (f)) ((d1 (cI .i64))).dec=pKey f:=by kernel_rfl
noncomputable def pKey_p:PrimD:=prim (d1 (cI .u64)) (d1 (cI .i64)) (pKey_s)
theorem pKey_c:Ok1 Tryz.prog tb btsOK.sound 83 pKey_p:=prim_ok k_ok pr_C01_ok (by kernel_rfl) fun a y hg h=>⟨0,9,0,(pKey_eq 0 a).trans (pKey_ok a y hg h)⟩
theorem pInf_eq (fu:Nat)  (neg:Bool):shFn tb pr_C01 (shN tb pr_C01 fu 9) fu 157 ((d1 cB).enc (neg)) ((d1 (cI .u64))).dec=pInf neg:=by kernel_rfl
noncomputable def pInf_p:PrimD:=prim (d1 cB) (d1 (cI .u64)) (pInf_s)
theorem pInf_c:Ok1 Tryz.prog tb btsOK.sound 157 pInf_p:=prim_ok k_ok pr_C01_ok (by kernel_rfl) fun a y hg h=>⟨0,9,0,(pInf_eq 0 a).trans (pInf_ok a y hg h)⟩
theorem pQuiet_eq (fu:Nat) :shFn tb pr_C01 (shN tb pr_C01 fu 9) fu 203 (d0.enc ()) ((d1 (cI .u64))).dec=pQuiet :=by kernel_rfl
noncomputable def pQuiet_p:PrimD:=prim d0 (d1 (cI .u64)) (fun _=>pQuiet)
theorem pQuiet_c:Ok1 Tryz.prog tb btsOK.sound 203 pQuiet_p:=prim_ok k_ok pr_C01_ok (by kernel_rfl) fun a y hg h=>⟨0,9,0,(pQuiet_eq 0 ).trans h⟩
noncomputable def pr_C02:Prims:=extL [(61,pClass_p),(83,pKey_p),(157,pInf_p),(203,pQuiet_p)] pr_C01
theorem pr_C02_ok:PrimOK Tryz.prog tb btsOK.sound pr_C02:=extL_ok pr_C01_ok (ok_cons pClass_c (ok_cons pKey_c (ok_cons pInf_c (ok_cons pQuiet_c ok_nil))))
end Su
end
section
namespace Su
open Go Go.Proofs Fly
set_option maxRecDepth 100000
theorem pSplit_eq (fu:Nat)  (f:Int):shFn tb pr_C02 (shN tb pr_C02 fu 9) fu 62 ((d1 (cI .u64)).enc (f)) ((dc (cI .u64) (d1 (cI .i64)))).dec=pSplit f:=by kernel_rfl
noncomputable def pSplit_p:PrimD:=prim (d1 (cI .u64)) (dc (cI .u64) (d1 (cI .i64))) (pSplit_s)
theorem pSplit_c:Ok1 Tryz.prog tb btsOK.sound 62 pSplit_p:=prim_ok k_ok pr_C02_ok (by kernel_rfl) fun a y hg h=>⟨0,9,0,(pSplit_eq 0 a).trans (pSplit_ok a y hg h)⟩
theorem pNan_eq (fu:Nat)  (f:Int):shFn tb pr_C02 (shN tb pr_C02 fu 9) fu 82 ((d1 (cI .u64)).enc (f)) ((d1 cB)).dec=pNan f:=by kernel_rfl
noncomputable def pNan_p:PrimD:=prim (d1 (cI .u64)) (d1 cB) (pNan_s)
theorem pNan_c:Ok1 Tryz.prog tb btsOK.sound 82 pNan_p:=prim_ok k_ok pr_C02_ok (by kernel_rfl) fun a y hg h=>⟨0,9,0,(pNan_eq 0 a).trans (pNan_ok a y hg h)⟩
noncomputable def pr_C03:Prims:=extL [(62,pSplit_p),(82,pNan_p)] pr_C02
theorem pr_C03_ok:PrimOK Tryz.prog tb btsOK.sound pr_C03:=extL_ok pr_C02_ok (ok_cons pSplit_c (ok_cons pNan_c ok_nil))
end Su
end
section
namespace Su
open Go Go.Proofs Fly
set_option maxRecDepth 100000
theorem pCmp_eq (fu:Nat)  (a:Int) (b:Int):shFn tb pr_C03 (shN tb pr_C03 fu 9) fu 30 ((dc (cI .u64) (d1 (cI .u64))).enc (a,b)) ((dc (cI .i64) (d1 cB))).dec=pCmp a b:=by kernel_rfl
noncomputable def pCmp_p:PrimD:=prim (dc (cI .u64) (d1 (cI .u64))) (dc (cI .i64) (d1 cB)) (pCmp_s)
theorem pCmp_c:Ok1 Tryz.prog tb btsOK.sound 30 pCmp_p:=prim_ok k_ok pr_C03_ok (by kernel_rfl) fun a y hg h=>⟨0,9,0,(pCmp_eq 0 a.1 a.2).trans (pCmp_ok a y hg h)⟩
theorem pNeg_eq (fu:Nat)  (f:Int):shFn tb pr_C03 (shN tb pr_C03 fu 9) fu 125 ((d1 (cI .u64)).enc (f)) ((d1 (cI .u64))).dec=pNeg f:=by kernel_rfl
noncomputable def pNeg_p:PrimD:=prim (d1 (cI .u64)) (d1 (cI .u64)) (pNeg_s)
theorem pNeg_c:Ok1 Tryz.prog tb btsOK.sound 125 pNeg_p:=prim_ok k_ok pr_C03_ok (by kernel_rfl) fun a y hg h=>⟨0,9,0,(pNeg_eq 0 a).trans (pNeg_ok a y hg h)⟩
theorem pAbs_eq (fu:Nat)  (f:Int):shFn tb pr_C03 (shN tb pr_C03 fu 9) fu 122 ((d1 (cI .u64)).enc (f)) ((d1 (cI .u64))).dec=pAbs f:=by kernel_rfl
noncomputable def pAbs_p:PrimD:=prim (d1 (cI .u64)) (d1 (cI .u64)) (pAbs_s)
theorem pAbs_c:Ok1 Tryz.prog tb btsOK.sound 122 pAbs_p:=prim_ok k_ok pr_C03_ok (by kernel_rfl) fun a y hg h=>⟨0,9,0,(pAbs_eq 0 a).trans (pAbs_ok a y hg h)⟩
noncomputable def pr_C04:Prims:=extL [(30,pCmp_p),(125,pNeg_p),(122,pAbs_p)] pr_C03
theorem pr_C04_ok:PrimOK Tryz.prog tb btsOK.sound pr_C04:=extL_ok pr_C03_ok (ok_cons pCmp_c (ok_cons pNeg_c (ok_cons pAbs_c ok_nil)))
end Su
end
section
namespace Su
open Go Go.Proofs Fly
set_option maxRecDepth 100000
theorem pLess_eq (fu:Nat)  (a:Int) (b:Int):shFn tb pr_C04 (shN tb pr_C04 fu 9) fu 131 ((dc (cI .u64) (d1 (cI .u64))).enc (a,b)) ((d1 cB)).dec=pLess a b:=by kernel_rfl
noncomputable def pLess_p:PrimD:=prim (dc (cI .u64) (d1 (cI .u64))) (d1 cB) (pLess_s)
theorem pLess_c:Ok1 Tryz.prog tb btsOK.sound 131 pLess_p:=prim_ok k_ok pr_C04_ok (by kernel_rfl) fun a y hg h=>⟨0,9,0,(pLess_eq 0 a.1 a.2).trans (pLess_ok a y hg h)⟩
noncomputable def pr_C05:Prims:=extL [(131,pLess_p)] pr_C04
theorem pr_C05_ok:PrimOK Tryz.prog tb btsOK.sound pr_C05:=extL_ok pr_C04_ok (ok_cons pLess_c ok_nil)
end Su
end
section
namespace Su
open Go Go.Proofs Fly
set_option maxRecDepth 100000
theorem At_eq (fu:Nat)  (a:(List Int)) (i:Int):shFn tb pr_C05 (shN tb pr_C05 fu 9) fu 149 ((dc (cQ 1 1) (d1 (cI .i64))).enc (a,i)) ((d1 (cI .u64))).dec=At a i:=by kernel_rfl
noncomputable def At_p:PrimD:=prim (dc (cQ 1 1) (d1 (cI .i64))) (d1 (cI .u64)) (fun a=>At a.1 a.2)
theorem At_c:Ok1 Tryz.prog tb btsOK.sound 149 At_p:=prim_ok k_ok pr_C05_ok (by kernel_rfl) fun a y hg h=>⟨0,9,0,(At_eq 0 a.1 a.2).trans h⟩
noncomputable def pr_B01:Prims:=extL [(149,At_p)] pr_C05
theorem pr_B01_ok:PrimOK Tryz.prog tb btsOK.sound pr_B01:=extL_ok pr_C05_ok (ok_cons At_c ok_nil)
end Su
end
section
namespace Su
open Go Go.Proofs Fly
set_option maxRecDepth 100000
theorem Trim_eq (fu:Nat) (a:(List Int)):shFn tb pr_B01 (shN tb pr_B01 fu 9) fu 148 ((d1 (cQ 1 1)).enc (a)) ((d1 (cQ 1 1))).dec=Trim fu a:=by kernel_rfl
noncomputable def Trim_p:PrimD:=prim (d1 (cQ 1 1)) (d1 (cQ 1 1)) (Trim_s)
theorem Trim_c:Ok1 Tryz.prog tb btsOK.sound 148 Trim_p:=prim_ok k_ok pr_B01_ok (by kernel_rfl) fun a y hg h=>by
 obtain ⟨n,hn⟩:=Trim_ok a y hg h
 exact ⟨n,9,n,(Trim_eq n a).trans hn⟩
noncomputable def pr_B02:Prims:=extL [(148,Trim_p)] pr_B01
theorem pr_B02_ok:PrimOK Tryz.prog tb btsOK.sound pr_B02:=extL_ok pr_B01_ok (ok_cons Trim_c ok_nil)
end Su
end
section
namespace Su
open Go Go.Proofs Fly
set_option maxRecDepth 100000
theorem Add_eq (fu:Nat) (a:(List Int)) (b:(List Int)):shFn tb pr_B02 (shN tb pr_B02 fu 9) fu 118 ((dc (cQ 1 1) (d1 (cQ 1 1))).enc (a,b)) ((d1 (cQ 1 1))).dec=Add fu a b:=by kernel_rfl
noncomputable def Add_p:PrimD:=prim (dc (cQ 1 1) (d1 (cQ 1 1))) (d1 (cQ 1 1)) (Add_s)
theorem Add_c:Ok1 Tryz.prog tb btsOK.sound 118 Add_p:=prim_ok k_ok pr_B02_ok (by kernel_rfl) fun a y hg h=>by
 obtain ⟨n,hn⟩:=Add_ok a y hg h
 exact ⟨n,9,n,(Add_eq n a.1 a.2).trans hn⟩
theorem Cmp_eq (fu:Nat) (a:(List Int)) (b:(List Int)):shFn tb pr_B02 (shN tb pr_B02 fu 9) fu 68 ((dc (cQ 1 1) (d1 (cQ 1 1))).enc (a,b)) ((d1 (cI .i64))).dec=Cmp fu a b:=by kernel_rfl
noncomputable def Cmp_p:PrimD:=prim (dc (cQ 1 1) (d1 (cQ 1 1))) (d1 (cI .i64)) (Cmp_s)
theorem Cmp_c:Ok1 Tryz.prog tb btsOK.sound 68 Cmp_p:=prim_ok k_ok pr_B02_ok (by kernel_rfl) fun a y hg h=>by
 obtain ⟨n,hn⟩:=Cmp_ok a y hg h
 exact ⟨n,9,n,(Cmp_eq n a.1 a.2).trans hn⟩
theorem New_eq (fu:Nat)  (x:Int):shFn tb pr_B02 (shN tb pr_B02 fu 9) fu 78 ((d1 (cI .u64)).enc (x)) ((d1 (cQ 1 1))).dec=New x:=by kernel_rfl
noncomputable def New_p:PrimD:=prim (d1 (cI .u64)) (d1 (cQ 1 1)) (fun a=>New a)
theorem New_c:Ok1 Tryz.prog tb btsOK.sound 78 New_p:=prim_ok k_ok pr_B02_ok (by kernel_rfl) fun a y hg h=>⟨0,9,0,(New_eq 0 a).trans h⟩
theorem Len32_eq (fu:Nat)  (x:Int):shFn tb pr_B02 (shN tb pr_B02 fu 9) fu 189 ((d1 (cI .u32)).enc (x)) ((d1 (cI .i64))).dec=Len32 x:=by kernel_rfl
noncomputable def Len32_p:PrimD:=prim (d1 (cI .u32)) (d1 (cI .i64)) (fun a=>Len32 a)
theorem Len32_c:Ok1 Tryz.prog tb btsOK.sound 189 Len32_p:=prim_ok k_ok pr_B02_ok (by kernel_rfl) fun a y hg h=>⟨0,9,0,(Len32_eq 0 a).trans h⟩
noncomputable def pr_B03:Prims:=extL [(118,Add_p),(68,Cmp_p),(78,New_p),(189,Len32_p)] pr_B02
theorem pr_B03_ok:PrimOK Tryz.prog tb btsOK.sound pr_B03:=extL_ok pr_B02_ok (ok_cons Add_c (ok_cons Cmp_c (ok_cons New_c (ok_cons Len32_c ok_nil))))
end Su
end
section
namespace Su
open Go Go.Proofs Fly
set_option maxRecDepth 100000
theorem Len_eq (fu:Nat)  (a:(List Int)):shFn tb pr_B03 (shN tb pr_B03 fu 9) fu 145 ((d1 (cQ 1 1)).enc (a)) ((d1 (cI .i64))).dec=Len a:=by kernel_rfl
noncomputable def Len_p:PrimD:=prim (d1 (cQ 1 1)) (d1 (cI .i64)) (fun a=>Len a)
theorem Len_c:Ok1 Tryz.prog tb btsOK.sound 145 Len_p:=prim_ok k_ok pr_B03_ok (by kernel_rfl) fun a y hg h=>⟨0,9,0,(Len_eq 0 a).trans h⟩
theorem Mul_eq (fu:Nat) (a:(List Int)) (b:(List Int)):shFn tb pr_B03 (shN tb pr_B03 fu 9) fu 67 ((dc (cQ 1 1) (d1 (cQ 1 1))).enc (a,b)) ((d1 (cQ 1 1))).dec=Mul fu a b:=by kernel_rfl
noncomputable def Mul_p:PrimD:=prim (dc (cQ 1 1) (d1 (cQ 1 1))) (d1 (cQ 1 1)) (Mul_s)
theorem Mul_c:Ok1 Tryz.prog tb btsOK.sound 67 Mul_p:=prim_ok k_ok pr_B03_ok (by kernel_rfl) fun a y hg h=>by
 obtain ⟨n,hn⟩:=Mul_ok a y hg h
 exact ⟨n,9,n,(Mul_eq n a.1 a.2).trans hn⟩
noncomputable def pr_B04:Prims:=extL [(145,Len_p),(67,Mul_p)] pr_B03
theorem pr_B04_ok:PrimOK Tryz.prog tb btsOK.sound pr_B04:=extL_ok pr_B03_ok (ok_cons Len_c (ok_cons Mul_c ok_nil))
end Su
end
section
namespace Su
open Go Go.Proofs Fly
set_option maxRecDepth 100000
noncomputable def pr_B05:Prims:=extL [] pr_B04
theorem pr_B05_ok:PrimOK Tryz.prog tb btsOK.sound pr_B05:=extL_ok pr_B04_ok ok_nil
end Su
end
section
namespace Su
open Go Go.Proofs Fly
set_option maxRecDepth 100000
theorem Shr_eq (fu:Nat) (a:(List Int)) (sh:Int):shFn tb pr_B05 (shN tb pr_B05 fu 9) fu 195 ((dc (cQ 1 1) (d1 (cI .i64))).enc (a,sh)) ((d1 (cQ 1 1))).dec=Shr fu a sh:=by kernel_rfl
noncomputable def Shr_p:PrimD:=prim (dc (cQ 1 1) (d1 (cI .i64))) (d1 (cQ 1 1)) (Shr_s)
theorem Shr_c:Ok1 Tryz.prog tb btsOK.sound 195 Shr_p:=prim_ok k_ok pr_B05_ok (by kernel_rfl) fun a y hg h=>by
 obtain ⟨n,hn⟩:=Shr_ok a y hg h
 exact ⟨n,9,n,(Shr_eq n a.1 a.2).trans hn⟩
theorem Shl_eq (fu:Nat) (a:(List Int)) (sh:Int):shFn tb pr_B05 (shN tb pr_B05 fu 9) fu 143 ((dc (cQ 1 1) (d1 (cI .i64))).enc (a,sh)) ((dc (cQ 1 1) (d1 (cI .i64)))).dec=Shl fu a sh:=by kernel_rfl
noncomputable def Shl_p:PrimD:=prim (dc (cQ 1 1) (d1 (cI .i64))) (dc (cQ 1 1) (d1 (cI .i64))) (Shl_s)
theorem Shl_c:Ok1 Tryz.prog tb btsOK.sound 143 Shl_p:=prim_ok k_ok pr_B05_ok (by kernel_rfl) fun a y hg h=>by
 obtain ⟨n,hn⟩:=Shl_ok a y hg h
 exact ⟨n,9,n,(Shl_eq n a.1 a.2).trans hn⟩
noncomputable def pr_B06:Prims:=extL [(195,Shr_p),(143,Shl_p)] pr_B05
theorem pr_B06_ok:PrimOK Tryz.prog tb btsOK.sound pr_B06:=extL_ok pr_B05_ok (ok_cons Shr_c (ok_cons Shl_c ok_nil))
end Su
end
section
namespace Su
open Go Go.Proofs Fly
set_option maxRecDepth 100000
theorem Sub_eq (fu:Nat) (a:(List Int)) (b:(List Int)):shFn tb pr_B06 (shN tb pr_B06 fu 9) fu 119 ((dc (cQ 1 1) (d1 (cQ 1 1))).enc (a,b)) ((dc (cQ 1 1) (d1 cB))).dec=Sub fu a b:=by kernel_rfl
noncomputable def Sub_p:PrimD:=prim (dc (cQ 1 1) (d1 (cQ 1 1))) (dc (cQ 1 1) (d1 cB)) (Sub_s)
theorem Sub_c:Ok1 Tryz.prog tb btsOK.sound 119 Sub_p:=prim_ok k_ok pr_B06_ok (by kernel_rfl) fun a y hg h=>by
 obtain ⟨n,hn⟩:=Sub_ok a y hg h
 exact ⟨n,9,n,(Sub_eq n a.1 a.2).trans hn⟩
noncomputable def pr_B07:Prims:=extL [(119,Sub_p)] pr_B06
theorem pr_B07_ok:PrimOK Tryz.prog tb btsOK.sound pr_B07:=extL_ok pr_B06_ok (ok_cons Sub_c ok_nil)
end Su
end
