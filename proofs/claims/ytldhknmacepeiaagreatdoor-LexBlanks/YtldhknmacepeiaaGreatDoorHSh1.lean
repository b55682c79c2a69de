/-
  The law and its row.
-/
import Derived.RangeFuncNested
import Derived.RangeFuncBound
import Derived.RangeFuncCalls
import Derived.RangeFuncLeaves
import Derived.RangeFuncWrites
import Derived.Shelf.Abstract
import Derived.Shelf.RegionOpen
import Derived.WalkKit
import Derived.OwnWalkIn
import Derived.TacticsInMore
import Derived.LoopNIn
import Derived.LoopIn
import Derived.Test.YtldhknmacepeiaaGreatDoorProg
import Derived.Test.YtldhknmacepeiaaGreatDoorFlyM
import Derived.Test.YtldhknmacepeiaaGreatDoorSuXl
import Derived.Test.YtldhknmacepeiaaGreatDoorSuTb
import Derived.Test.YtldhknmacepeiaaGreatDoorNB05
set_option linter.unusedVariables false
set_option linter.unusedSimpArgs false
set_option maxRecDepth 10000
section
namespace Go.Proofs.Sho
open Go Go.RowKit Go.Shelf Go.Proofs
attribute [local go_sem] Oper.semAt_some
abbrev Wo(len:Nat):={ x:Nat×Nat // x.1<len∧x.2<4294967296 }
def enW{len:Nat}(x:Wo len):Array Value:=#[.int .i64 (x.1.1:Int),.int .u32 (x.1.2:Int)]
theorem qbz{zs:List Nat}(hz:∀z∈zs,z<4294967296)(j:Nat):zs[j]?.getD 0<4294967296:=by
 cases h:zs[j]? with
 | none=>simp
 | some z=>simpa using hz z (Kv h)
def Kb(n₀ B:Nat)(W W':World):Prop:=Below n₀ W W'∧W'.heap[B]?=W.heap[B]?
theorem Kb.trans{n₀ B:Nat}{X Y Z:World}(h:Kb n₀ B X Y)(k:Kb n₀ B Y Z):Kb n₀ B X Z:=⟨h.1.trans k.1,k.2.trans h.2⟩
theorem Kb.refl(n₀ B:Nat)(W:World):Kb n₀ B W W:=⟨Below.refl _ _,rfl⟩
def YX{zs:List Nat}(hz:∀z∈zs,z<4294967296)(h0:0<zs.length)(k:Nat):List (Wo zs.length) :=
 (List.range k).map fun j=>⟨(zs.length-1-j,zs[zs.length-1-j]?.getD 0),by simp only[];omega,qbz hz _⟩
theorem qfC{zs:List Nat}(hz:∀z∈zs,z<4294967296)(h0:0<zs.length)(k:Nat) :
 YX hz h0 (k+1)=YX hz h0 k++[⟨(zs.length-1-k,zs[zs.length-1-k]?.getD 0),by simp only[];omega,qbz hz _⟩]:=by
 simp[YX,List.range_succ]
theorem qqz{zs:List Nat}(hz:∀z∈zs,z<4294967296)(h0:0<zs.length)(k:Nat):(YX hz h0 k).length=k:=by simp[YX]
theorem qfD{zs:List Nat}(hz:∀z∈zs,z<4294967296)(h0:0<zs.length){m:Nat}(hm:m<zs.length) :
 YX hz h0 (zs.length-m)=YX hz h0 (zs.length-(m+1))++[⟨(m,zs[m]?.getD 0),hm,qbz hz _⟩]:=by
 have h1:zs.length-m=zs.length-(m+1)+1:=by omega
 rw[h1,qfC]
 congr 2
 have h2:zs.length-1-(zs.length-(m+1))=m:=by omega
 exact Subtype.ext (by simp only[h2])
set_option maxRecDepth 100000 in
set_option maxHeartbeats 2000000 in
theorem qqA(F:Fence)(n:Nat)(h7:F.fn 191)(hro:F.round=none)(hn:1≤n)(l Bs n₀ b off cap:Nat)(zs:List Nat)(hz:∀z∈zs,z<4294967296)(hl:0<zs.length)(hreach:zs.length≤549755813888)(hb:b<n₀)(J Jx:List (Wo zs.length)→World→Prop)
 (hY:∀pre x W,J pre W→pre.length<zs.length→YieldAt F (n-1) Tryz.prog l (enW x) W fun e W'=>
   (e = .returned (.bool true)∧J (pre++[x]) W'∧Kb n₀ Bs W W')∨(e = .returned (.bool false)∧Jx (pre++[x]) W'))
 (W:World) (hBs:W.cell? ⟨Bs,0,none⟩=some (.slice (some ⟨b,off,none⟩) zs.length cap)) (hc:∀j,j<zs.length→W.cell? ⟨b,off+j,none⟩=some (.int .u32 ((zs[j]?.getD 0:Nat):Int))) (h0:J [] W) :
 CallsIn F n Tryz.prog 191 #[.func (.yield l) #[] #[],.pointer (some ⟨Bs,0,none⟩)] W fun e W'=>(∃v,e = .returned v) ∧
  ((∃ys,ys=YX hz hl zs.length∧J ys W')∨(∃pre,(∃k,k≤zs.length∧pre=YX hz hl k)∧Jx pre W')):=by
 refine callsIn_of_wp Tryz.func191 rfl h7 ?_ hro
 simp only[Tryz.ntmps191,Vm,zu,zM,Nat.reduceAdd,Nat.reduceSub,Array.replicate_succ,Array.replicate_zero,List.push_toArray,List.append_toArray,zH,KJ]
 gi_wp2
 gi_loopw [3] (fun i wr=>∃m:Nat,m≤zs.length∧i = .int .i64 ((m:Int)-1)∧J (YX hz hl (zs.length-m)) wr∧Kb n₀ Bs W wr)
  (fun i _=>(intOf i+1).toNat)
 case atStart=>
  refine⟨zs.length,zI _,?_,?_,Kb.refl _ _ _⟩
  · rfl
  · rw[VS];exact h0
 case round=>
  obtain⟨m,hm,rfl,hJs,hnx⟩:=hrel;have hBs':wr.cell? ⟨Bs,0,none⟩=some (.slice (some ⟨b,off,none⟩) zs.length cap):=(World.cell?_of_block (a:=⟨Bs,0,none⟩) hnx.2).trans hBs
  cases m with
  | zero=>
   have e0:(((0:Nat):Int)-1) = -1:=rfl
   rw[e0]
   gi_wp2
   go_end0
   exact⟨⟨_,rfl⟩,.inl ⟨_,rfl,hJs⟩⟩
  | succ m=>
   have e0:(((m+1:Nat):Int)-1)=(m:Int):=by omega
   rw[e0];have hcx:wr.cell? ⟨b,off+m,none⟩=some (.int .u32 ((zs[m]?.getD 0:Nat):Int)):=(hnx.1.cell (p:=⟨b,off+m,none⟩) hb).trans (hc m (by omega))
   obtain⟨fn,tmps,assign,body,hy,hR⟩:=hY _ ⟨(m,zs[m]?.getD 0),by simp only[];omega,qbz hz _⟩ wr hJs (by rw[qqz];omega)
   dsimp only[enW]at hy
   gi_wp2
   refine hR.mono ?_
   rintro e W3 (⟨rfl,hJ3,hk3⟩ | ⟨rfl,hJx3⟩)
   · gi_wp2
     go_roundw
     case rel=>
      exact⟨m,by omega,rfl,by rw[qfD hz hl (by omega)];exact hJ3,hnx.trans hk3⟩
     case measure=>simp only[intOf];omega
   · gi_wp2
     refine bodyPost_ret (results_none rfl _ _ _) rfl ?_
     exact⟨⟨_,rfl⟩,.inr ⟨_,⟨zs.length-m,by omega,(qfD hz hl (by omega)).symm⟩,hJx3⟩⟩
theorem qiD(F:Fence)(n:Nat)(h7:F.fn 191)(hro:F.round=none)(l Bs:Nat)(sa:Option Addr)(cap:Nat)(K:World→Prop)(W:World)(hBs:W.cell? ⟨Bs,0,none⟩=some (.slice sa 0 cap))(h0:K W) :
 CallsIn F n Tryz.prog 191 #[.func (.yield l) #[] #[],.pointer (some ⟨Bs,0,none⟩)] W fun e W'=>(∃v,e = .returned v)∧K W':=by
 refine callsIn_of_wp Tryz.func191 rfl h7 ?_ hro
 simp only[Tryz.ntmps191,Vm,zu,zM,Nat.reduceAdd,Nat.reduceSub,Array.replicate_succ,Array.replicate_zero,List.push_toArray,List.append_toArray,zH,KJ]
 gi_wp2
 gi_loopw [3] (fun i wr=>i = .int .i64 (-1)∧K wr) (fun _ _=>0)
 case atStart=>exact⟨rfl,h0⟩
 case round=>
  obtain⟨rfl,hJs⟩:=hrel
  gi_wp2
  go_end0
  exact⟨⟨_,rfl⟩,hJs⟩
set_option maxHeartbeats 1000000 in
theorem qiE(F:Fence)(n:Nat)(h5:F.fn 165)(hro:F.round=none)(a:Option Addr)(len cap:Nat)(w:World) :
 CallsIn F n Tryz.prog 165 #[.slice a len cap] w fun e w'=>e = .returned (.func (.func 191) #[] #[.pointer (some ⟨w.heap.size,0,none⟩)])∧w'=w.alloc (.cells #[.slice a len cap] 38):=by
 refine callsIn_of_wp Tryz.func165 rfl h5 ?_ hro
 simp only[Tryz.ntmps165,Vm,zu,zM,Nat.reduceAdd,Nat.reduceSub,Array.replicate_succ,Array.replicate_zero,List.push_toArray,List.append_toArray,zH,KJ]
 gi_wp2
 go_ret
 exact⟨rfl,rfl⟩
def qfE(n₀:Nat)(W:World)(sv:Value)(zs:List Nat):Prop :=
 (zs=[]∧∃a cap,sv = .slice a 0 cap)∨∃b off cap,sv = .slice (some ⟨b,off,none⟩) zs.length cap∧b<n₀∧∀j,j<zs.length→W.cell? ⟨b,off+j,none⟩=some (.int .u32 ((zs[j]?.getD 0:Nat):Int))
theorem qfE.below{n₀:Nat}{A B:World}(h:Below n₀ A B){sv:Value}{zs:List Nat}:qfE n₀ A sv zs→qfE n₀ B sv zs
 | .inl e=>.inl e
 | .inr ⟨b,off,cap,e,hb,hc⟩=>.inr ⟨b,off,cap,e,hb,fun j hj=>(h.cell (p:=⟨b,off+j,none⟩) hb).trans (hc j hj)⟩
def All{zs:List Nat}(hz:∀z∈zs,z<4294967296)(ys:List (Wo zs.length)):Prop:=ys=[]∧zs.length=0∨∃hl:0<zs.length,ys=YX hz hl zs.length
theorem qj0(F:Fence)(n:Nat)(h7:F.fn 191)(hro:F.round=none)(hn:1≤n)(Bs n₀:Nat)(sv:Value)(zs:List Nat)(hz:∀z∈zs,z<4294967296)(hreach:zs.length≤549755813888)(w:World)(hBs:Bs<w.heap.size)(hn₀:n₀≤w.heap.size)
 (hc:w.cell? ⟨Bs,0,none⟩=some sv) (hI:qfE n₀ w sv zs) :
 SeqStopsK F n Tryz.prog 191 #[.pointer (some ⟨Bs,0,none⟩)] (fun x:Wo zs.length=>enW x) (Kb n₀ Bs) (All hz) (fun _=>True) zs.length w:=fun l J Jx W hW _ _ hY h0=>by
 have hc':=(hW.cell (p:=⟨Bs,0,none⟩) hBs).trans hc
 rcases hI.below (hW.mono hn₀)with⟨h1,a,cap,rfl⟩ | ⟨b,off,cap,rfl,hb,hcs⟩
 · exact(qiD F n h7 hro l Bs a cap (J []) W hc' h0).mono fun e W' ⟨he,hj⟩=>⟨he,.inl ⟨_,.inl ⟨rfl,by rw[h1];rfl⟩,hj⟩⟩
 · by_cases hl:0<zs.length
   · refine(qqA F n h7 hro hn l Bs n₀ b off cap zs hz hl hreach hb J Jx hY W hc' hcs h0).mono ?_
     rintro e W' ⟨he,⟨ys,rfl,hj⟩ | ⟨pre,_,hj⟩⟩
     · exact⟨he,.inl ⟨_,.inr ⟨hl,rfl⟩,hj⟩⟩
     · exact⟨he,.inr ⟨_,trivial,hj⟩⟩
   · have h2:zs.length=0:=by omega
     rw[h2]at hc';exact(qiD F n h7 hro l Bs _ cap (J []) W hc' h0).mono fun e W' ⟨he,hj⟩=>⟨he,.inl ⟨_,.inl ⟨rfl,h2⟩,hj⟩⟩
end Go.Proofs.Sho
end
section
namespace Go.Proofs.Sho
open Go Go.RowKit Go.Shelf Go.Proofs
attribute [local go_sem] Oper.semAt_some
theorem qAi(n:Nat):madeCells (Value.int .u32 0).cells n=Array.replicate n (.int .u32 0):=by
 apply Array.ext
 · simp[size_madeCells]
 · intro i h1 h2
   simp[madeCells,Value.cells,Nat.mod_one]
theorem quG:(Tryz.prog.info? 105).map (fun i=>(i.zero,i.size,i.bytes))=some (some (.int .u32 0),1,4):=by kernel_rfl
theorem qAj(n:Nat)(hn:n≤549755813888)(w:World) :
 (Instr.makeSlice 37 (.int .i64 (n:Int)) (.int .i64 (n:Int))).run Tryz.prog w = .ok (.slice (some ⟨w.heap.size,0,none⟩) n n) (w.alloc (.cells (Array.replicate n (.int .u32 0)) 105)):=by
 obtain⟨i,hi,h1,h2,h3⟩:=info_parts quG;have h:=run_make (P:=Tryz.prog) w 37 105 i (.int .u32 0) (by kernel_rfl) hi h1 .i64 .i64 (n:Int) (n:Int) (by omega) (WI _) (by rw[h3];omega) (by omega)
 rw[zd,h2,Vn,qAi]at h;exact h
theorem qae{W:World}{B:Nat}{o:Obj}(h:W.heap[B]?=some o)(o':Obj):(W.alloc o').heap[B]?=some o:=((World.grownBy_alloc W o' none).block B (Ka.1 h).1 (by simp)).trans h
theorem qqB(W:World)(k:Nat)(hk:W.heap.size=k)(o:Obj):(W.alloc o).heap[k]?=some o:=by subst hk;exact World.alloc_heap_new W o
theorem qcJ{W:World}{a:Addr}{v:Value}{B:Nat}(h:a.block≠B):(W.setCell a v).heap[B]?=W.heap[B]?:=by
 show(W.heap.modify a.block _)[B]?=_
 rw[Array.getElem?_modify,zw h]
theorem qyj{W:World}{B i:Nat}{v:Value}{c:Array Value}{t:TypeId}{fr:Nat×Nat}(h:W.heap[B]?=some (.cells c t fr)):(W.setCell ⟨B,i,none⟩ v).heap[B]?=some (.cells (c.setIfInBounds i v) t fr):=by
 show(W.heap.modify B _)[B]?=_
 rw[Array.getElem?_modify,zA rfl,h];rfl
theorem Zx{W:World}{B i:Nat}{c:Array Value}{t:TypeId}{fr:Nat×Nat}{v:Value}(h:W.heap[B]?=some (.cells c t fr))(hi:c[i]?=some v):W.cell? ⟨B,i,none⟩=some v:=by
 simp[World.cell?,h,hi]
theorem qlK{W:World}{B i:Nat}{c:Array Value}{t:TypeId}(h:W.heap[B]?=some (.cells c t (0,0))):W.frozen? ⟨B,i,none⟩=false:=by
 simp[World.frozen?,h]
theorem qlL{W W':World}{row:Option Nat}{B:Nat}{c:Array Value}{t:TypeId}{fr:Nat×Nat}(h:W.heap[B]?=some (.cells c t fr))(hg:W.grownBy W' row)(hr:∀r,row=some r→∃o:Obj,W.heap[r]?=some o∧o.isCells=false):W'.heap[B]?=some (.cells c t fr) :=
 (hg.block B (Ka.1 h).1 (fun e=>by
   obtain⟨o,ho,hc⟩:=hr B e.symm;rw[h]at ho;cases ho;cases hc)).trans h
theorem qbA{n:Int}(h0:0≤n)(h1:n<18446744073709551616):IntKind.u64.wrap n=n:=by rw[IntKind.wrap_u64];omega
theorem qey(n:Int):IntKind.u32.wrap n=n % 4294967296:=IntKind.wrap_u32 n
theorem quH{x y r:Nat}(hr:x<2^r):x ||| y*2^r=x+y*2^r:=by
 have:=Nat.two_pow_add_eq_or_of_lt hr y
 rw[zF,Nat.or_comm,← this];omega
theorem qAk{R v:Nat}(hR:R<4294967296)(hv:v<4294967296):bits BinOp.or IntKind.u64 ((R:Int)*4294967296) (v:Int)=((R*4294967296+v:Nat):Int):=by
 have h:=Fly.qdp (a:=R*4294967296) (b:=v) (by omega) (by omega)
 rw[Nat.or_comm,quH (x:=v) (y:=R) (r:=32) (by simpa using hv),WO v]at h;rw[← h,Vx];rfl
def stp(b:Nat){len:Nat}(s:Nat×List Nat)(x:Wo len):Nat×List Nat:=((s.1*4294967296+x.1.2) % b,s.2.set x.1.1 ((s.1*4294967296+x.1.2) / b % 4294967296))
def sf(b:Nat){len:Nat}(pre:List (Wo len)):Nat×List Nat:=pre.foldl (stp b) (0,List.replicate len 0)
theorem qg8(b:Nat){len:Nat}(pre:List (Wo len))(x:Wo len):sf b (pre++[x])=stp b (sf b pre) x:=by simp[sf]
theorem qqC{b:Nat}(hb:0<b){len:Nat}(pre:List (Wo len)):(sf b pre).1<b:=by
 have:∀(l:List (Wo len)) (s:Nat×List Nat),s.1<b→(l.foldl (stp b) s).1<b:=by
  intro l;induction l with
  | nil=>exact fun s h=>h
  | cons x l ih=>exact fun s _=>ih _ (K9 _ hb)
 exact this pre _ hb
theorem qj1(b:Nat){len:Nat}(pre:List (Wo len)):(sf b pre).2.length=len:=by
 have:∀(l:List (Wo len)) (s:Nat×List Nat),s.2.length=len→(l.foldl (stp b) s).2.length=len:=by
  intro l;induction l with
  | nil=>exact fun s h=>h
  | cons x l ih=>exact fun s h=>ih _ (by simp[stp,h])
 exact this pre _ (by simp)
def Hid(p:Prop):Prop:=p
def vW(n:Nat):Value:=.int .u32 (n:Int)
structure Inv (B b:Nat) {len:Nat} (pre:List (Wo len)) (W:World):Prop where
 h0:W.heap[B]?=some (Obj.cells #[.int .u32 (b:Int)] 105 (0,0))
 h1:W.heap[B+1]?=some (Obj.cells ((sf b pre).2.map vW).toArray 105 (0,0))
 h2:W.heap[B+2]?=some (Obj.cells #[.slice (some ⟨B+1,0,none⟩) len len] 37 (0,0))
 h3:W.heap[B+3]?=some (Obj.cells #[.int .u64 ((sf b pre).1:Int)] 22 (0,0))
theorem Inv.own(B b:Nat)(len:Nat):Own (fun(pre:List (Wo len)) W=>Inv B b pre W) :=
 fun _ _ _ _ hs hg hr=>⟨qlL hs.h0 hg hr,qlL hs.h1 hg hr,qlL hs.h2 hg hr,qlL hs.h3 hg hr⟩
def qqD:Code :=
 Code.region 9
  #[{ dst:=some 34,op:=Op.load 37 (Operand.tmp 6),type:=37,pos:="nat.go:158",after:=#[],
      guard:=none },
    { dst:=some 35,
      op:=Op.call { callee:=Callee.value (Operand.func 67),args:=#[Operand.tmp 34],argTypes:=#[37] },
      type:=38,pos:="nat.go:158",after:=#[{ on:=0,ground:=Ground.data }],guard:=none },
    { dst:=some 36,op:=Op.load 22 (Operand.tmp 7),type:=22,pos:="nat.go:158",after:=#[],
      guard:=none },
    { dst:=some 37,
      op:=Op.call { callee:=Callee.value (Operand.func 22),args:=#[Operand.tmp 36],argTypes:=#[22] },
      type:=38,pos:="nat.go:158",
      after:=#[{ on:=2,ground:=Ground.data },{ on:=1,ground:=Ground.chain }],guard:=none },
    { dst:=some 4,op:=Op.assign (Operand.tmp 35),type:=38,pos:="nat.go:158",
      after :=
       #[{ on:=1,ground:=Ground.data },{ on:=3,ground:=Ground.chain },
         { on:=0,ground:=Ground.phase },{ on:=1,ground:=Ground.phase },
         { on:=2,ground:=Ground.textOnly Departure.lateStores },
         { on:=3,ground:=Ground.textOnly Departure.lateStoresUnsure }],
      guard:=none },
    { dst:=some 5,op:=Op.assign (Operand.tmp 37),type:=38,pos:="nat.go:158",
      after :=
       #[{ on:=3,ground:=Ground.data },{ on:=4,ground:=Ground.chain },
         { on:=0,ground:=Ground.phase },{ on:=1,ground:=Ground.phase },
         { on:=2,ground:=Ground.phase },{ on:=3,ground:=Ground.phase },
         { on:=4,ground:=Ground.phase }],
      guard:=none }]
  true
def qyk(B D b:Nat)(sa:Option Addr)(len cap:Nat):Act :=
 { tmps:=#[.slice sa len cap,.int .u32 (b:Int),undef,.pointer (some ⟨B,0,none⟩),.slice none 0 0,.slice none 0 0,.pointer (some ⟨B+2,0,none⟩),.pointer (some ⟨B+3,0,none⟩),undef,undef,
    .slice sa len cap,.int .i64 (len:Int),.slice (some ⟨B+1,0,none⟩) len len,.slice sa len cap,.func (.func 191) #[] #[.pointer (some ⟨B+4,0,none⟩)],
    undef,undef,undef,undef,undef,undef,undef,undef,undef,undef,undef,undef,undef,undef,undef,undef,undef,undef,undef,undef,undef,undef,undef],defers:=[{ target:=.collected D,args:=#[] }] }
theorem qqE{b len i v m d r1:Nat}{pre:List (Wo len)}{w W W0 W1:World}{hi:i<len}{hv:v<4294967296}(hW1:W.setCell { block:=w.heap.size+3,off:=0 } (Value.int IntKind.u64 (r1:Int))=W1)
 (_h3:W.heap[w.heap.size+3]?=some (Obj.cells #[.int .u64 ((sf b pre).1:Int)] 22 (0,0)))
 (g0:W1.heap[w.heap.size]?=some (Obj.cells #[.int .u32 (b:Int)] 105 (0,0))) (g1:W1.heap[w.heap.size+1]?=some (Obj.cells ((sf b pre).2.map vW).toArray 105 (0,0)))
 (g2:W1.heap[w.heap.size+2]?=some (Obj.cells #[.slice (some ⟨w.heap.size+1,0,none⟩) len len] 37 (0,0))) (g3:W1.heap[w.heap.size+3]?=some (Obj.cells #[.int .u64 (r1:Int)] 22 (0,0)))
 (hst:Hid (stp b (sf b pre) (⟨(i,v),hi,hv⟩:Wo len)=(m,(sf b pre).2.set i d))) (hB:Below w.heap.size w W) (_hsz:W0.heap.size=w.heap.size+5) :
 KeepsFrom W0.heap.size W ((W1.setCell ⟨w.heap.size+1,i,none⟩ (.int .u32 (d:Int))).setCell ⟨w.heap.size+3,0,none⟩ (.int .u64 (m:Int))).drew ∧
  Kb w.heap.size (w.heap.size+4) W ((W1.setCell ⟨w.heap.size+1,i,none⟩ (.int .u32 (d:Int))).setCell ⟨w.heap.size+3,0,none⟩ (.int .u64 (m:Int))).drew ∧
  (Inv w.heap.size b (pre++[(⟨(i,v),hi,hv⟩:Wo len)]) ((W1.setCell ⟨w.heap.size+1,i,none⟩ (.int .u32 (d:Int))).setCell ⟨w.heap.size+3,0,none⟩ (.int .u64 (m:Int))).drew ∧
    Below w.heap.size w ((W1.setCell ⟨w.heap.size+1,i,none⟩ (.int .u32 (d:Int))).setCell ⟨w.heap.size+3,0,none⟩ (.int .u64 (m:Int))).drew):=by
 have hst:stp b (sf b pre) (⟨(i,v),hi,hv⟩:Wo len)=(m,(sf b pre).2.set i d):=hst
 have hbl:Below w.heap.size W ((W1.setCell ⟨w.heap.size+1,i,none⟩ (.int .u32 (d:Int))).setCell ⟨w.heap.size+3,0,none⟩ (.int .u64 (m:Int))).drew:=by
  rw[← hW1];exact((((Below.refl _ W).setCell (p:=⟨w.heap.size+3,0,none⟩) (by simp) _).setCell (p:=⟨w.heap.size+1,i,none⟩) (by simp) _).setCell (p:=⟨w.heap.size+3,0,none⟩) (by simp) _).drew
 refine⟨?_,⟨hbl,?_⟩,⟨?_,?_,?_,?_⟩,hB.trans hbl⟩
 · rw[← hW1]
   exact((((KeepsOthers.setCell _ _ _).trans (KeepsOthers.setCell _ _ _)).trans (KeepsOthers.setCell _ _ _)).trans (KeepsOthers.drew _)).from _
 · show((W1.setCell _ _).setCell _ _).heap[w.heap.size+4]?=_
   rw[qcJ (by simp),qcJ (by simp),← hW1,qcJ (by simp)]
 · show((W1.setCell _ _).setCell _ _).heap[w.heap.size]?=_
   rw[qcJ (by simp),qcJ (by simp)];exact g0
 · show((W1.setCell _ _).setCell _ _).heap[w.heap.size+1]?=_
   rw[qcJ (by simp),qyj g1,qg8,hst];simp[Wz,vW]
 · show((W1.setCell _ _).setCell _ _).heap[w.heap.size+2]?=_
   rw[qcJ (by simp),qcJ (by simp)];exact g2
 · show((W1.setCell _ _).setCell _ _).heap[w.heap.size+3]?=_
   rw[qyj ((qcJ (by simp)).trans g3),qg8,hst];rfl
set_option maxRecDepth 100000 in
set_option maxHeartbeats 4000000 in
theorem qqF(F:Fence)(n:Nat)(h3:F.fn 112)(h5:F.fn 165)(h7:F.fn 191)(hro:F.round=none)(hn:3≤n)(sa:Option Addr)(cap:Nat)(b:Nat)(hb0:0<b)(hb1:b<4294967296)(zs:List Nat)(hz:∀z∈zs,z<4294967296)(hreach:zs.length≤549755813888)(w:World)
 (hI:qfE w.heap.size w (.slice sa zs.length cap) zs) {Q:Ending→World→Prop}
 (hdone:∀(D:Nat) (ys:List (Wo zs.length)) (W:World) (Kc:Act→World→Prop),(∀a w',Code.wpIn F n Tryz.prog Code.ret (bodyPostM F n Tryz.prog Tryz.f112 Q) a w'→Kc a w')→w.heap.size+5≤D→All hz ys→Inv w.heap.size b ys W→Below w.heap.size w W →
   W.heap[D]?=some (.deferred (some []))→Code.wpIn F n Tryz.prog qqD (Exit.then Kc (bodyPostM F n Tryz.prog Tryz.f112 Q)) (qyk w.heap.size D b sa zs.length cap) W) :
 CallsIn F n Tryz.prog 112 #[.slice sa zs.length cap,.int .u32 (b:Int)] w Q:=by
 have h1:1≤n:=by omega
 refine callsIn_of_wp_marks Tryz.func112 rfl h3 ?_ hro
 simp only[Tryz.ntmps112,Vm,zu,zM,Nat.reduceAdd,Nat.reduceSub,Array.replicate_succ,Array.replicate_zero,List.push_toArray,List.append_toArray,zH,KJ];have hmk:=qAj zs.length hreach
 gi_wp2_with (gi_at_call 165;refine(qiE F (n-1) h5 hro _ _ _ _).mono ?_;rintro e w' ⟨rfl,rfl⟩)
 obtain⟨W0,hW0⟩:∃W0,((((w.alloc (Obj.cells #[Value.int IntKind.u32 (b:Int)] 105)).alloc (Obj.cells (Array.replicate zs.length (Value.int IntKind.u32 0)) 105)).alloc
  (Obj.cells #[Value.slice (some { block:=w.heap.size+1,off:=0 }) zs.length zs.length] 37)).alloc (Obj.cells #[Value.int IntKind.u64 0] 22)).alloc (Obj.cells #[Value.slice sa zs.length cap] 38)=W0:=⟨_,rfl⟩
 rw[hW0];have hB0:Below w.heap.size w W0:=by rw[← hW0];exact(((((Below.refl _ w).alloc (zI _) _).alloc (by simp) _).alloc (by simp;omega) _).alloc (by simp;omega) _).alloc (by simp;omega) _
 have hsz:W0.heap.size=w.heap.size+5:=by rw[← hW0];simp only[World.size_alloc]
 have hJ0:Inv w.heap.size b ([]:List (Wo zs.length)) W0:=by
  rw[← hW0];refine⟨qae (qae (qae (qae (qqB _ _ rfl _) _) _) _) _,?_,qae (qae (qqB _ _ (by simp only[World.size_alloc]) _) _) _,qae (qqB _ _ (by simp only[World.size_alloc]) _) _⟩
  have e:((sf b ([]:List (Wo zs.length))).2.map vW).toArray=Array.replicate zs.length (Value.int IntKind.u32 0):=by
   show((List.replicate zs.length 0).map vW).toArray=_
   rw[VQ];exact List.toArray_replicate ..
  rw[e];exact qae (qae (qae (qqB _ _ (by simp only[World.size_alloc]) _) _) _) _
 have hbx:W0.cell? ⟨w.heap.size+4,0,none⟩=some (.slice sa zs.length cap):=by
  rw[← hW0];exact Zx (qqB _ _ (by simp only[World.size_alloc]) _) rfl
 refine wpIn_rangeFunc_ownG hro h1 (gf:=191) (lb:=#[.pointer (some ⟨w.heap.size+4,0,none⟩)]) rfl h7 (enters_of Tryz.func191 (by kernel_rfl) rfl)
  (qj0 F (n-1) h7 hro (by omega) (w.heap.size+4) w.heap.size _ zs hz hreach W0 (by omega) (by omega) hbx (hI.below hB0)) Kb.trans
  (fun W l o o' hl ho hc _=>⟨belowK_b (w:=w) (zI _) W l o o' (by omega) ho hc (by assumption),World.putObj_heap_other (by omega)⟩) (Below.refl _ _) (fun _=>rfl)
  (fun pre W=>Inv w.heap.size b pre W∧Below w.heap.size w W)
  (fun _ _ _=>False)
  (OwnFrom.and ((Inv.own w.heap.size b zs.length).from _) (ownFrom_below (zI _) (by omega)))
  (fun _ _ _ _ _ hs _ _=>hs)
  ⟨hJ0,hB0⟩
  (fun x=>{ tmps:=#[.slice sa zs.length cap,.int .u32 (b:Int),undef,.pointer (some ⟨w.heap.size,0,none⟩),.slice none 0 0,.slice none 0 0,.pointer (some ⟨w.heap.size+2,0,none⟩),.pointer (some ⟨w.heap.size+3,0,none⟩),.int .i64 (x.1.1:Int),.int .u32 (x.1.2:Int),
    .slice sa zs.length cap,.int .i64 (zs.length:Int),.slice (some ⟨w.heap.size+1,0,none⟩) zs.length zs.length,.slice sa zs.length cap,.func (.func 191) #[] #[.pointer (some ⟨w.heap.size+4,0,none⟩)],.int .i64 (x.1.1:Int),.int .u32 (x.1.2:Int),
    undef,undef,undef,undef,undef,undef,undef,undef,undef,undef,undef,undef,undef,undef,undef,undef,undef,undef,undef,undef,undef],defers:=[] }) ?assign ?body ?done ?stop
 case assign=>
  intro l x W K hK;dsimp only[enW]
  gi_wp2
  exact hK
 case body=>
  rintro l pre ⟨⟨i,v⟩,hi,hv⟩ W ⟨hS,hB⟩ _
  dsimp only at hi hv;have c0:=Zx hS.h0 (i:=0) rfl
  have c2:=Zx hS.h2 (i:=0) rfl
  have c3:=Zx hS.h3 (i:=0) rfl
  have f3:=qlK (i:=0) hS.h3
  have f1:=qlK (i:=i) hS.h1
  have hr:=qqC hb0 pre;have hmx:Tryz.prog.follows .mixedOrders=true:=by kernel_rfl
  have hor:bits BinOp.or IntKind.u64 (((sf b pre).1:Int)*4294967296) (v:Int)=(((sf b pre).1*4294967296+v:Nat):Int):=qAk (by omega) hv
  gi_wp2
  obtain⟨r1,hr1⟩:∃r1:Nat,(sf b pre).1*4294967296+v=r1:=⟨_,rfl⟩
  have hr2:((sf b pre).1:Int)*4294967296+(v:Int)=(r1:Int):=by rw[← hr1];simp
  have hr3:r1<18446744073709551616:=by omega
  rw[hr2];clear hor hr2;obtain⟨W1,hW1⟩:∃W1,W.setCell { block:=w.heap.size+3,off:=0 } (Value.int IntKind.u64 (r1:Int))=W1:=⟨_,rfl⟩
  rw[hW1];have g0:W1.heap[w.heap.size]?=some (Obj.cells #[.int .u32 (b:Int)] 105 (0,0)):=by rw[← hW1,qcJ (by simp)];exact hS.h0
  have g1:W1.heap[w.heap.size+1]?=some (Obj.cells ((sf b pre).2.map vW).toArray 105 (0,0)):=by rw[← hW1,qcJ (by simp)];exact hS.h1
  have g2:W1.heap[w.heap.size+2]?=some (Obj.cells #[.slice (some ⟨w.heap.size+1,0,none⟩) zs.length zs.length] 37 (0,0)):=by rw[← hW1,qcJ (by simp)];exact hS.h2
  have g3:W1.heap[w.heap.size+3]?=some (Obj.cells #[.int .u64 (r1:Int)] 22 (0,0)):=by rw[← hW1];exact qyj hS.h3
  have c0':=Zx g0 (i:=0) rfl
  have c2':=Zx g2 (i:=0) rfl
  have c3':=Zx g3 (i:=0) rfl
  have f3':=qlK (i:=0) g3
  have f1':=qlK (i:=i) g1
  have hb2 : ¬((b:Int)=0):=by omega
  have hb3 : ¬(b=0):=by omega
  have hsl:=qj1 b pre;obtain⟨Qi,hQi⟩:∃Qi,(sf b pre).2[i]?=some Qi:=⟨_,zt (by omega)⟩
  have c1':W1.cell? ⟨w.heap.size+1,i,none⟩=some (.int .u32 (Qi:Int)):=Zx g1 (by rw[List.getElem?_toArray,Kq,hQi];rfl)
  have hwb:IntKind.u64.wrap (b:Int)=(b:Int):=qbA (by omega) (by omega)
  obtain⟨q,hq⟩:∃q,r1 / b=q:=⟨_,rfl⟩
  have hql:q≤r1:=by rw[← hq];exact VB _ _
  have hq1:IntKind.u64.wrap ((r1:Int) / (b:Int))=(q:Int):=by rw[← hq,← Int.natCast_ediv];exact qbA (by omega) (by omega)
  obtain⟨d,hd⟩:∃d,q % 4294967296=d:=⟨_,rfl⟩
  have hd1:IntKind.u32.wrap (q:Int)=(d:Int):=by rw[qey,← hd];omega
  obtain⟨m,hm⟩:∃m,r1 % b=m:=⟨_,rfl⟩
  have hm1:(r1:Int) % (b:Int)=(m:Int):=by rw[← hm,Int.natCast_emod]
  have hm2:(r1:Int).tmod (b:Int)=(m:Int):=by rw[Wf (by omega)];exact hm1
  have hst:Hid (stp b (sf b pre) (⟨(i,v),hi,hv⟩:Wo zs.length)=(m,(sf b pre).2.set i d)):=by
   show(((sf b pre).1*4294967296+v) % b,(sf b pre).2.set i (((sf b pre).1*4294967296+v) / b % 4294967296))=_
   rw[hr1,hm,hq,hd]
  clear hq hd hm
  gi_region_o
  all_goals gi_wp2
  all_goals exact qqE (hi:=hi) (hv:=hv) hW1 hS.h3 g0 g1 g2 g3 hst hB hsz
 case done=>
  rintro D ys W hD hA ⟨hS,hB⟩ hK
  gi_wp2
  exact hdone D ys W _ (by assumption) (by omega) hA hS hB hK
 case stop=>
  rintro D c pre W _ _ h _
  exact h.elim
end Go.Proofs.Sho
end
section
namespace Su
noncomputable section
open Go Go.Proofs Fly
set_option maxRecDepth 100000
abbrev OkT(f:Nat)(p:PrimD):Prop:=Ok1 Tryz.prog tb qlJ.sound f p
abbrev PkT(q:qK):Prop:=Ja Tryz.prog tb qlJ.sound q
def qiF:PrimD:=prim (d1 (cI .u64)) (dc cB (dc (cI .i64) (d1 (cI .u64)))) (qh7)
theorem qqG:OkT 58 qiF:=yl jy qgF (fun a=>qjE a) (by kernel_rfl) (fun _ _=>by kernel_rfl) qmH
def qlM:PrimD:=prim (dc cB (dc (cI .i64) (d1 (cI .u64)))) (dc (cI .u64) (d1 (cI .i64))) (YD)
theorem quI:OkT 69 qlM:=yl jy qgF (fun a=>qo1 a.1 a.2.1 a.2.2) (by kernel_rfl) (fun _ _=>by kernel_rfl) qo2
def qqH:qK:=jV [(58,qiF),(69,qlM)] noPr
theorem qce:PkT qqH:=qu qgF (qm qqG (qm quI qO))
end
end Su
end
section
namespace Su
noncomputable section
open Go Go.Proofs Fly
set_option maxRecDepth 100000
def qiG:PrimD:=prim (d1 (cI .u64)) (d1 (cI .u8)) (qh8)
theorem qqI:OkT 16 qiG:=yl jy qce (fun a=>qjF a) (by kernel_rfl) (fun _ _=>by kernel_rfl) qmI
def qqJ:PrimD:=prim (d1 cB) (d1 (cI .u64)) (qo3)
theorem qyl:OkT 26 qqJ:=yl jy qce (fun a=>pInf a) (by kernel_rfl) (fun _ _=>by kernel_rfl) qtx
def qqK:qK:=jV [(16,qiG),(26,qqJ)] qqH
theorem qcf:PkT qqK:=qu qce (qm qqI (qm qyl qO))
end
end Su
end
section
namespace Su
noncomputable section
open Go Go.Proofs Fly
set_option maxRecDepth 100000
def qiH:PrimD:=prim (d1 (cI .u64)) (dc (cI .u64) (d1 (cI .i64))) (qh9)
theorem qqL:OkT 103 qiH:=yl jy qcf (fun a=>qjG a) (by kernel_rfl) (fun _ _=>by kernel_rfl) qmJ
def qqM:PrimD:=prim (d1 (cI .u64)) (d1 cB) (qo4)
theorem qym:OkT 61 qqM:=yl jy qcf (fun a=>qw2 a) (by kernel_rfl) (fun _ _=>by kernel_rfl) qty
def qqN:qK:=jV [(103,qiH),(61,qqM)] qqK
theorem qfF:PkT qqN:=qu qcf (qm qqL (qm qym qO))
end
end Su
end
section
namespace Su
noncomputable section
open Go Go.Proofs Fly
set_option maxRecDepth 100000
def qqO:PrimD:=prim (d1 (cI .u64)) (d1 (cI .u64)) (qo5)
theorem qyn:OkT 18 qqO:=yl jy qfF (fun a=>qw3 a) (by kernel_rfl) (fun _ _=>by kernel_rfl) qtz
def qqP:qK:=jV [(18,qqO)] qqN
theorem qfG:PkT qqP:=qu qfF (qm qyn qO)
end
end Su
end
section
namespace Su
noncomputable section
open Go Go.Proofs Fly
set_option maxRecDepth 100000
def At_p:PrimD:=prim (dc (cQ 1 1) (d1 (cI .i64))) (d1 (cI .u64)) (fun a=>At a.1 a.2)
theorem At_c:OkT 113 At_p:=fnL jy qfG (by kernel_rfl) (fun _ _=>by kernel_rfl)
def qqQ:qK:=jV [(113,At_p)] qqP
theorem qfH:PkT qqQ:=qu qfG (qm At_c qO)
end
end Su
end
section
namespace Su
noncomputable section
open Go Go.Proofs Fly
set_option maxRecDepth 100000
def qqR:PrimD:=prim (d1 (cQ 1 1)) (d1 (cQ 1 1)) (qgJ)
theorem qqS:OkT 67 qqR:=yT jy qfH (fun fu a=>qw4 fu a) (by kernel_rfl) (fun _ _=>by kernel_rfl) qtA
def qqT:qK:=jV [(67,qqR)] qqQ
theorem Yr:PkT qqT:=qu qfH (qm qqS qO)
end
end Su
end
section
namespace Su
noncomputable section
open Go Go.Proofs Fly
set_option maxRecDepth 100000
def qvU:PrimD:=prim (dc (cQ 1 1) (d1 (cQ 1 1))) (d1 (cQ 1 1)) (qcC)
theorem qAl:OkT 62 qvU:=yT jy Yr (fun fu a=>Add fu a.1 a.2) (by kernel_rfl) (fun _ _=>by kernel_rfl) qw5
def qvV:PrimD:=prim (dc (cQ 1 1) (d1 (cQ 1 1))) (d1 (cI .i64)) (qvy)
theorem qAm:OkT 105 qvV:=yT jy Yr (fun fu a=>Cmp fu a.1 a.2) (by kernel_rfl) (fun _ _=>by kernel_rfl) qw6
def qvW:PrimD:=prim (d1 (cI .u64)) (d1 (cQ 1 1)) (fun a=>New a)
theorem qvX:OkT 22 qvW:=fnL jy Yr (by kernel_rfl) (fun _ _=>by kernel_rfl)
def qlN:PrimD:=prim (d1 (cI .u32)) (d1 (cI .i64)) (fun a=>qic a)
theorem quJ:OkT 121 qlN:=fnL jy Yr (by kernel_rfl) (fun _ _=>by kernel_rfl)
def qqU:qK:=jV [(62,qvU),(105,qvV),(22,qvW),(121,qlN)] qqT
theorem Z0:PkT qqU:=qu Yr (qm qAl (qm qAm (qm qvX (qm quJ qO))))
end
end Su
end
section
namespace Su
noncomputable section
open Go Go.Proofs Fly
set_option maxRecDepth 100000
def qvY:PrimD:=prim (d1 (cQ 1 1)) (d1 (cI .i64)) (fun a=>Len a)
theorem qAn:OkT 63 qvY:=fnL jy Z0 (by kernel_rfl) (fun _ _=>by kernel_rfl)
def qvZ:PrimD:=prim (dc (cQ 1 1) (d1 (cI .i64))) (d1 (cI .u64)) (fun a=>Bit a.1 a.2)
theorem qAo:OkT 110 qvZ:=fnL jy Z0 (by kernel_rfl) (fun _ _=>by kernel_rfl)
def qv0:PrimD:=prim (dc (cQ 1 1) (d1 (cQ 1 1))) (d1 (cQ 1 1)) (ye)
theorem qAp:OkT 24 qv0:=yT jy Z0 (fun fu a=>Mul fu a.1 a.2) (by kernel_rfl) (fun _ _=>by kernel_rfl) qw7
def qqV:qK:=jV [(63,qvY),(110,qvZ),(24,qv0)] qqU
theorem qfI:PkT qqV:=qu Z0 (qm qAn (qm qAo (qm qAp qO)))
end
end Su
end
section
namespace Su
noncomputable section
open Go Go.Proofs Fly
set_option maxRecDepth 100000
def qqW:PrimD:=prim (d1 (cQ 1 1)) (dc (cI .u64) (d1 cB)) (fun a=>qtB a)
theorem qyo:OkT 109 qqW:=fnL jy qfI (by kernel_rfl) (fun _ _=>by kernel_rfl)
def qqX:qK:=jV [(109,qqW)] qqV
theorem qcg:PkT qqX:=qu qfI (qm qyo qO)
end
end Su
end
section
namespace Su
noncomputable section
open Go Go.Proofs Fly
set_option maxRecDepth 100000
def qv1:PrimD:=prim (dc (cQ 1 1) (d1 (cI .i64))) (d1 (cQ 1 1)) (qvz)
theorem qAq:OkT 161 qv1:=yT jy qcg (fun fu a=>Shr fu a.1 a.2) (by kernel_rfl) (fun _ _=>by kernel_rfl) qw8
def qv2:PrimD:=prim (dc (cQ 1 1) (d1 (cI .i64))) (dc (cQ 1 1) (d1 (cI .i64))) (qeb)
theorem qAr:OkT 104 qv2:=yT jy qcg (fun fu a=>Shl fu a.1 a.2) (by kernel_rfl) (fun _ _=>by kernel_rfl) qxa
def qqY:qK:=jV [(161,qv1),(104,qv2)] qqX
theorem qm5:PkT qqY:=qu qcg (qm qAq (qm qAr qO))
end
end Su
end
section
namespace Su
open Go Go.Proofs Fly
set_option maxRecDepth 100000
noncomputable def qqZ:qK:=jV [] qqY
theorem qm6:PkT qqZ:=qu qm5 qO
end Su
end
section
namespace Go.Proofs.Sho
open Go Go.RowKit Go.Shelf Go.Proofs Fly Su
attribute [local go_sem] Oper.semAt_some
abbrev HX(V:qc)(w:World)(V':qc)(W:World):Prop:=Holds ⟨fun _=>False,w,V,fun _ _ _=>False⟩ V' [] W
theorem HX.trans{V V1 V2:qc}{w W W2:World}{G:Fly.Own}(h:HX V w V1 W)(k:Holds ⟨fun _=>False,W,V1,fun _ _ _=>False⟩ V2 G W2):HX V w V2 W2 :=
 ⟨h.ext.trans k.ext,k.view,(fun _ hp=>(Kr hp).elim),(fun _ hp=>(Kr hp).elim),.nil,h.sub.trans k.sub,fun r h1 h2=>by
   by_cases h3:V1 r=none
   · rcases k.newer r h3 h2 with h4 | h4
     · exact .inl (Kj h.ext.size h4)
     · exact h4.elim
   · exact h.newer r h1 h3⟩
theorem HX.drew{V V1:qc}{w W:World}(h:HX V w V1 W):HX V w V1 W.drew :=
 ⟨⟨h.ext.os,h.ext.tape,h.ext.output,h.ext.size,h.ext.block⟩,h.view,(fun _ hp=>(Kr hp).elim),(fun _ hp=>(Kr hp).elim),.nil,h.sub,h.newer⟩
theorem HX.add{V:qc}{w W:World}{B:Nat}{o:Obj}(hs:Z3 V w)(hb:Below w.heap.size w W)(hB:w.heap.size≤B)(ho:W.heap[B]?=some o):HX V w (addV V B o) W:=by
 have hlt:∀r o,V r=some o→r<w.heap.size:=fun r o h=>(Ka.1 (hs r o h)).1
 have hn:V B=none:=by
  cases h:V B with
  | none=>rfl
  | some o=>have:=hlt _ _ h;omega
 refine⟨⟨hb.os,hb.tape,hb.output,hb.size,fun k hk _=>hb.block k hk⟩,fun r u hr=>?_,(fun _ hp=>(Kr hp).elim),(fun _ hp=>(Kr hp).elim),.nil,Fly.Sub.addV hn,fun r h1 h2=>?_⟩
 · unfold addV at hr
   by_cases e:r=B
   · rw[zA e]at hr;subst e;rw[ho];exact hr
   · rw[zw e]at hr;exact(hb.block r (hlt _ _ hr)).trans (hs r u hr)
 · unfold addV at h2
   by_cases e:r=B
   · exact .inl (by show w.heap.size≤r;omega)
   · rw[zw e]at h2;exact absurd h1 h2
theorem quK(r:Nat)(h:r<18446744073709551616):New (r:Int)=some (ofN r):=by
 have e1:IntKind.u32.wrap (r:Int)=((r % 4294967296:Nat):Int):=by rw[Su.wrap_u32];omega
 have e2:Int.fdiv (r:Int) (2^32)=((r / 4294967296:Nat):Int):=by
  have:=JH r 32;rwa [show(2:Nat)^32=4294967296 from rfl]at this
 have e3:IntKind.u32.wrap ((r / 4294967296:Nat):Int)=((r / 4294967296:Nat):Int):=Su.qgG (by omega) (by omega)
 unfold New;rw[e1,e2,e3];simp only[qa,zd]
 congr 2;omega
theorem qj2{V:qc}{W:World}{v:Value}{a:List Int}(hgk:GOK Su.tb V)(hs:Z3 V W)(hr:Rep V (.ql 1 1 a) v):Calls Tryz.prog 67 #[v] W fun e W'=>∃v' V',e = .returned v'∧HX V W V' W'∧Rep V' (.ql 1 1 (ofN (qa a))) v':=by
 have h:∀xs y,((d1 (cQ 1 1)).dec xs).bind qgJ=some y→∀V vs,GOK Su.tb V→RepA V xs vs→jA Tryz.prog 67 vs.toArray V [] fun v V' _=>∃rvs,RepA V' ((d1 (cQ 1 1)).enc y) rvs∧v=QI rvs:=qqS.2.1
 have h2:((d1 (cQ 1 1)).dec [T.ql 1 1 a]).bind qgJ=some (ofN (qa a)):=by
  rw[show(d1 (cQ 1 1)).dec [T.ql 1 1 a]=some a from(d1 (cQ 1 1)).de a];rfl
 refine(h _ _ h2 V [v] hgk (.cons hr .nil) W hs (fun _ hp=>(Kr hp).elim) (fun _ hp=>(Kr hp).elim) .nil).mono ?_
 rintro e W' ⟨v',V',G',rfl,hh,rvs,m1,rfl⟩
 cases m1 with | cons k1 k2=>cases k2 with | nil=>
 exact⟨_,V',rfl,⟨⟨hh.ext.os,hh.ext.tape,hh.ext.output,hh.ext.size,fun k hk _=>hh.ext.block k hk (by simp[keys])⟩,hh.view,(fun _ hp=>(Kr hp).elim),(fun _ hp=>(Kr hp).elim),.nil,hh.sub,fun r h1 h2=>(hh.newer r h1 h2).imp id (fun hm=>by simp[keys]at hm)⟩,k1⟩
theorem qm7{V:qc}{W:World}{r:Nat}(hgk:GOK Su.tb V)(hl:r<18446744073709551616)(hs:Z3 V W):Calls Tryz.prog 22 #[.int .u64 (r:Int)] W fun e W'=>∃v' V',e = .returned v'∧HX V W V' W'∧Rep V' (.ql 1 1 (ofN r)) v':=by
 have h:∀xs y,((d1 (cI .u64)).dec xs).bind (fun a=>New a)=some y→∀V vs,GOK Su.tb V→RepA V xs vs→jA Tryz.prog 22 vs.toArray V [] fun v V' _=>∃rvs,RepA V' ((d1 (cQ 1 1)).enc y) rvs∧v=QI rvs:=qvX.2.1
 have h2:((d1 (cI .u64)).dec [T.s (.int .u64 (r:Int))]).bind (fun a=>New a)=some (ofN r):=by
  rw[show(d1 (cI .u64)).dec [T.s (.int .u64 (r:Int))]=some (r:Int) from(d1 (cI .u64)).de (r:Int)];exact quK r hl
 refine(h _ _ h2 V [.int .u64 (r:Int)] hgk (.cons (.s (by show inR .u64 (r:Int)=true;exact qc3.2 ⟨by omega,by omega⟩)) .nil) W hs (fun _ hp=>(Kr hp).elim) (fun _ hp=>(Kr hp).elim) .nil).mono ?_
 rintro e W' ⟨v',V',G',rfl,hh,rvs,m1,rfl⟩
 cases m1 with | cons k1 k2=>cases k2 with | nil=>
 exact⟨_,V',rfl,⟨⟨hh.ext.os,hh.ext.tape,hh.ext.output,hh.ext.size,fun k hk _=>hh.ext.block k hk (by simp[keys])⟩,hh.view,(fun _ hp=>(Kr hp).elim),(fun _ hp=>(Kr hp).elim),.nil,hh.sub,fun r h1 h2=>(hh.newer r h1 h2).imp id (fun hm=>by simp[keys]at hm)⟩,k1⟩
def wI(qs:List Nat):List Int:=qs.map fun z=>((z:Nat):Int)
theorem qfJ(qs:List Nat):(wI qs).length=qs.length:=zK ..
theorem qyp(qs:List Nat):(List.map (α:=U 1) (view 1) (wI qs)).length=qs.length:=(zK (α:=U 1) ..).trans (qfJ qs)
theorem qbB:∀qs:List Nat,(List.map (α:=U 1) (view 1) (wI qs)).flatMap T.cells=qs.map fun z=>T.s (vW z)
 | []=>rfl
 | x::l=>by
  show T.s (vW x)::(List.map (α:=U 1) (view 1) (wI l)).flatMap T.cells=_
  rw[qbB l];rfl
theorem qq0:∀(qs:List Nat) (x:T),x∈List.map (α:=U 1) (view 1) (wI qs)→x.cells.length=1
 | [],x,h=>by cases h
 | y::l,x,h=>by
  rcases zS.1 (show x∈view 1 ((y:Nat):Int)::List.map (α:=U 1) (view 1) (wI l) from h)with rfl | h
  · rfl
  · exact qq0 l x h
theorem qm8{V:qc}{B off:Nat}{qs:List Nat}{len cap:Nat}(h:∀(j:Nat) (c:Value),(qs.map vW)[j]?=some c→rd V B (off+j) c)(hqw:∀z∈qs,z<4294967296)(hql:qs.length=len)(hlen:len≤cap)(hcap:cap≤maxLen) :
 Rep V (.ql 1 1 (wI qs)) (.slice (some ⟨B,off,none⟩) len cap):=by
 have hw:∀l:List Nat,(∀z∈l,z<4294967296)→RepA V (l.map fun z=>T.s (vW z)) (l.map vW):=by
  intro l;induction l with
  | nil=>exact fun _=>.nil
  | cons x l ih=>
   intro hx;have hx0:=hx x (zE ..)
   exact .cons (.s (show inR .u32 (x:Int)=true from qc4.2 ⟨by omega,by omega⟩)) (ih fun z hz=>hx z (zB _ hz))
 have hl:=qyp qs;have h2:=Rep.sl (V:=V) (k:=1) (l:=List.map (α:=U 1) (view 1) (wI qs)) (vs:=qs.map vW) (a:=some ⟨B,off,none⟩) (cap:=cap) (by rw[qbB];exact hw qs hqw)
  (by rw[qbB];intro x hx;obtain⟨z,_,rfl⟩:=KZ.1 hx;rfl) (qq0 qs) (by omega) hcap (.inr ⟨B,off,rfl,h⟩)
 rw[hl,hql]at h2;exact .ql h2
set_option maxRecDepth 100000 in
set_option maxHeartbeats 4000000 in
theorem quL{V:qc}{w W:World}{B D b len cap rr:Nat}{sa:Option Addr}{qs:List Nat}{Q:Ending→World→Prop}{Kc:Act→World→Prop}(hgk:GOK Su.tb V)(hs:Z3 V w)(hB:Below w.heap.size w W)(hBw:w.heap.size≤B)(hDB:B+5≤D)
 (g1:W.heap[B+1]?=some (Obj.cells (qs.map vW).toArray 105 (0,0))) (hql:qs.length=len) (hqw:∀z∈qs,z<4294967296) (hlen:len≤549755813888) (g2:W.heap[B+2]?=some (Obj.cells #[.slice (some ⟨B+1,0,none⟩) len len] 37 (0,0)))
 (g3:W.heap[B+3]?=some (Obj.cells #[.int .u64 (rr:Int)] 22 (0,0))) (hrr:rr<18446744073709551616) (hD:W.heap[D]?=some (.deferred (some [])))
 (hK:∀a w',Code.wpIn Fence.wide 3 Tryz.prog Code.ret (bodyPostM Fence.wide 3 Tryz.prog Tryz.f112 Q) a w'→Kc a w')
 (hQ:∀v1 v2 V1 V2 W2,HX V w V1 W2→Rep V1 (.ql 1 1 (ofN (qa (wI qs)))) v1→Rep V1 (.ql 1 1 (ofN rr)) v2→W2.heap[D]?=some (.deferred (some []))→V2=V1→Q (.returned (.tuple #[v1,v2])) (W2.putObj D (.deferred none))) :
 Code.wpIn Fence.wide 3 Tryz.prog qqD (Exit.then Kc (bodyPostM Fence.wide 3 Tryz.prog Tryz.f112 Q)) (qyk B D b sa len cap) W:=by
 have hx0:HX V w (addV V (B+1) (Obj.cells (qs.map vW).toArray 105 (0,0))) W:=HX.add hs hB (by omega) g1
 have hrep:Rep (addV V (B+1) (Obj.cells (qs.map vW).toArray 105 (0,0))) (.ql 1 1 (wI qs)) (.slice (some ⟨B+1,0,none⟩) len len):=qm8 (fun j c hj=>⟨_,_,_,by unfold addV;rw[zA rfl],by rw[List.getElem?_toArray,zG];exact hj⟩) hqw hql (zI _) (by simp[maxLen];omega)
 obtain⟨V0,hV0⟩:∃V0,addV V (B+1) (Obj.cells (qs.map vW).toArray 105 (0,0))=V0:=⟨_,rfl⟩
 rw[hV0]at hx0 hrep;have c2:=Zx g2 (i:=0) rfl
 have c3:=Zx g3 (i:=0) rfl
 unfold qqD qyk;have hmx:Tryz.prog.follows .mixedOrders=true:=by kernel_rfl
 refine Code.wpIn_mono (Q:=Exit.then Kc (fun _ _ _=>False)) (fun e a w h=>by cases e <;> first | exact h | exact h.elim) ?_
 gi_region_with_o (first
  | (refine⟨trivial,?_⟩;gi_at_call 67;refine(callsIn_wide.2 (qj2 (V:=V0) (W:=W.drew) (hgk.mono hx0.sub) hx0.view hrep)).mono ?_;rintro e w1 ⟨v1,V1,rfl,hx1,hr1⟩;have c3':=(hx1.ext.below.cell (p:=⟨B+3,0,none⟩) (Ka.1 g3).1).trans c3)
  | (refine⟨trivial,?_⟩;gi_at_call 22;refine(callsIn_wide.2 (qm7 (V:=V1) (W:=w1) ((hgk.mono hx0.sub).mono hx1.sub) hrr hx1.view)).mono ?_;rintro e w2 ⟨v2,V2,rfl,hx2,hr2⟩))
 all_goals (
  refine hK _ _ ?_
  have hD1:w1.heap[D]?=some (.deferred (some [])):=(hx1.ext.block D (Ka.1 hD).1 (fun h=>h)).trans hD
  have hD2:w2.heap[D]?=some (.deferred (some [])):=(hx2.ext.block D (Ka.1 hD1).1 (fun h=>h)).trans hD1
  gi_wp2
  refine⟨by simp,.inl ⟨_,_,rfl,run_takeDeferred hD2,?_⟩⟩
  refine⟨_,results_tmp2 (t:=4) (u:=5) rfl _ _ _,hQ v1 v2 V2 V2 w2 ((hx0.drew.trans hx1).trans hx2) (Rep.mono hx2.sub hr1) hr2 hD2 rfl⟩)
theorem qAs{b:Nat}{len:Nat}(pre:List (Wo len)):∀z∈(sf b pre).2,z<4294967296:=by
 have:∀(l:List (Wo len)) (s:Nat×List Nat),(∀z∈s.2,z<4294967296)→∀z∈(l.foldl (stp b) s).2,z<4294967296:=by
  intro l;induction l with
  | nil=>exact fun s h=>h
  | cons x l ih=>
   refine fun s h=>ih _ fun z hz=>?_
   rcases Wg hz with hz | rfl
   · exact h z hz
   · exact K9 _ (by omega)
 exact this pre _ fun z hz=>by rw[(Vd.1 hz).2];omega
theorem qyq(qs:List Nat)(j:Nat):nth (wI qs) j=((qs[j]?.getD 0:Nat):Int):=by
 unfold nth;have:(wI qs)[j]?=(qs[j]?).map fun z=>((z:Nat):Int):=Kq ..
 rw[this];cases qs[j]? <;> rfl
theorem qyr(qs:List Nat)(j y:Nat):wI (qs.set j y)=List.set (wI qs) j ((y:Nat):Int):=Wz ..
theorem quM(zs:List Nat)(m:Nat)(h:m<zs.length):qa (wI (zs.drop m))=zs[m]?.getD 0+4294967296*qa (wI (zs.drop (m+1))):=by
 rw[zY h,zt h];show qa (((zs[m]:Nat):Int)::wI (zs.drop (m+1)))=_
 rw[qa,zd];rfl
theorem qlO{zs:List Nat}(hz:∀z∈zs,z<4294967296)(h0:0<zs.length){b:Nat}(hb:0<b):∀k,k≤zs.length →
 (sf b (YX hz h0 k)).1=qa (wI (zs.drop (zs.length-k))) % b∧qa (wI (sf b (YX hz h0 k)).2)=qa (wI (zs.drop (zs.length-k))) / b*4294967296^(zs.length-k)∧∀j,j<zs.length-k→(sf b (YX hz h0 k)).2[j]?.getD 0=0
 | 0,_=>by
  have e:sf b (YX hz h0 0)=(0,List.replicate zs.length 0):=rfl
  have ev:qa (wI ([]:List Nat))=0:=rfl
  have ez:wI (List.replicate zs.length 0)=List.replicate zs.length 0:=VQ ..
  rw[e,Vv,List.drop_length,ev];refine⟨(Nat.zero_mod b).symm,?_,fun j hj=>?_⟩
  · show qa (wI (List.replicate zs.length 0))=_
    rw[ez,YF,Nat.zero_div,KY]
  · show(List.replicate zs.length 0)[j]?.getD 0=0
    rw[Vj];split <;> rfl
 | k+1,hk=>by
  obtain⟨i1,i2,i3⟩:=qlO hz h0 hb k (by omega)
  obtain⟨m,hm⟩:∃m,m=zs.length-1-k:=⟨_,rfl⟩
  have e1:zs.length-k=m+1:=by omega
  have e2:zs.length-(k+1)=m:=by omega
  rw[e1]at i1 i2 i3;rw[e2,qfC,qg8];have hml:m<zs.length:=by omega
  have hq:=i3 m (by omega)
  have hlen:=qj1 b (YX hz h0 k)
  have hlt:=qqC hb (YX hz h0 k)
  generalize sf b (YX hz h0 k)=s at *
  obtain⟨R,Q⟩:=s;simp only at i1 i2 i3 hq hlen hlt;have hx:=qbz hz m;have hA:=quM zs m hml;simp only[← hm];show(R*4294967296+zs[m]?.getD 0) % b=_∧qa (wI (Q.set m ((R*4294967296+zs[m]?.getD 0) / b % 4294967296)))=_∧∀j,j<m→(Q.set m ((R*4294967296+zs[m]?.getD 0) / b % 4294967296))[j]?.getD 0=0
  generalize zs[m]?.getD 0=x at *
  generalize hA0:qa (wI (zs.drop (m+1)))=A at *
  rw[hA];have hdiv:=Vb A b;have hr1:x+4294967296*A=b*(4294967296*(A / b))+(R*4294967296+x):=by
   rw[i1];generalize A / b=p at *
   generalize A % b=t at *
   rw[← hdiv];grind
  have hr1b:(R*4294967296+x) / b<4294967296:=by
   rw[KD hb];have:=zD 4294967296 (show R+1≤b by omega)
   rw[zF 4294967296 b];omega
  rw[hr1];refine⟨?_,?_,fun j hj=>?_⟩
  · rw[Nat.mul_add_mod]
  · rw[KP hr1b,Nat.mul_add_div hb,qyr]
    have hs:=Zm (wI Q) m (((R*4294967296+x) / b:Nat):Int) (by rw[qfJ];omega)
    rw[qyq,hq,zd,i2,z6]at hs;generalize (R*4294967296+x) / b=d at *
    generalize A / b=p at *
    generalize 4294967296^m=P at *
    have hs:qa (List.set (wI Q) m (d:Int))+P*0=p*(P*4294967296)+P*d:=hs
    rw[VC,KA]at hs;rw[hs];grind
  · rw[Kg (by omega)];exact i3 j (by omega)
theorem qys{zs:List Nat}(hz:∀z∈zs,z<4294967296){b:Nat}(hb:0<b){ys:List (Wo zs.length)}(h:All hz ys):(sf b ys).1=qa (wI zs) % b∧qa (wI (sf b ys).2)=qa (wI zs) / b:=by
 rcases h with⟨rfl,h0⟩ | ⟨hl,rfl⟩
 · have:zs=[]:=K8 h0
   subst this;exact⟨(Nat.zero_mod b).symm,(Nat.zero_div b).symm⟩
 · obtain⟨h1,h2,_⟩:=qlO hz hl hb zs.length (zI _)
   rw[VS,KM]at h1 h2;rw[K7,Vn]at h2;exact⟨h1,h2⟩
theorem qlP{V V':qc}:∀ {l:List T} {vs:List Value},(∀x∈l,∃v,x=T.s v)→RepA V l vs→RepA V' l vs
 | [],vs,_,h=>by cases h;exact .nil
 | x::l,vs,h,hr=>by
  cases hr with | cons h1 h2=>
  obtain⟨v,rfl⟩:=h x (zE ..)
  cases h1 with | s h1=>exact .cons (.s h1) (qlP (fun y hy=>h y (zB _ hy)) h2)
theorem qiI:∀(l:List (U 1)) (x:T),x∈(l.map (view 1)).flatMap T.cells→∃v,x=T.s v
 | [],x,h=>by cases h
 | y::l,x,h=>by
  rcases zS.1 (show x∈T.s (.int .u32 y)::(l.map (view 1)).flatMap T.cells from h)with rfl | h
  · exact⟨_,rfl⟩
  · exact qiI l x h
def qfK(V:qc)(D:Nat):qc:=fun r=>if r=D then none else V r
theorem qiJ{V:qc}{D:Nat}{l:List (U 1)}{v:Value}(hD:∀arr e fr,V D≠some (.cells arr e fr))(h:Rep V (.ql 1 1 l) v):Rep (qfK V D) (.ql 1 1 l) v:=by
 cases h with | ql h=>
 cases h with | sl a1 a2 a3 a4 a5 a6=>
 refine .ql (.sl (qlP (qiI l) a1) a2 a3 a4 a5 (a6.imp id ?_))
 rintro⟨b,off,e,h⟩
 refine⟨b,off,e,fun j c hj=>?_⟩
 obtain⟨arr,e,fr,h1,h2⟩:=h j c hj;refine⟨arr,e,fr,?_,h2⟩
 unfold qfK;rw[zw (fun e2=>by subst e2;exact hD _ _ _ h1)];exact h1
theorem quN{a:List Int}(h:Wd a):wI (a.map Int.toNat)=a:=by
 induction a with
 | nil=>rfl
 | cons x l ih=>
  have hx:=h.head;show((x.toNat:Nat):Int)::wI (l.map Int.toNat)=_
  rw[ih h.tail];congr 1;omega
theorem short_fing{V:qc}{a:List Int}{b:Nat}{v:Value}(hgk:GOK Su.tb V)(ha:Wd a)(hb0:0<b)(hb1:b<4294967296)(hlen:a.length≤549755813888)(hr:Rep V (.ql 1 1 a) v) :
 jA Tryz.prog 112 #[v,.int .u32 (b:Int)] V [] fun v V' _=>∃rvs,RepA V' [.ql 1 1 (ofN (qa a / b)),.ql 1 1 (ofN (qa a % b))] rvs∧v=QI rvs:=by
 intro w hs _ _ _;obtain⟨zs,hzs⟩:∃zs,a.map Int.toNat=zs:=⟨_,rfl⟩
 have hzl:zs.length=a.length:=by rw[← hzs,zK]
 have hz:∀z∈zs,z<4294967296:=by
  intro z hz;rw[← hzs]at hz;obtain⟨x,hx,rfl⟩:=KZ.1 hz;have:=ha x hx;omega
 have hwz:wI zs=a:=by rw[← hzs];exact quN ha
 have hW:∃sa cap,v = .slice sa zs.length cap∧qfE w.heap.size w (.slice sa zs.length cap) zs:=by
  cases hr with | ql hr=>
  cases hr with | @sl _ _ vs ad cap a1 a2 a3 a4 a5 a6=>
  have hl:(List.map (α:=U 1) (view 1) a).length=zs.length:=by rw[hzl];exact zK ..
  refine⟨ad,cap,by rw[hl],?_⟩
  rcases a6 with a6 | ⟨b2,off,rfl,a6⟩
  · have:zs.length=0:=by rw[← hl,a6];rfl
    exact .inl ⟨K8 this,ad,cap,by rw[this]⟩
  · by_cases h0:zs.length=0
    · exact .inl ⟨K8 h0,_,cap,by rw[h0]⟩
    have hvs:vs=zs.map vW:=by
     have e:=qbB zs;rw[hwz]at e;rw[e]at a1;clear e a6 hl hzs hzl hwz h0;induction zs generalizing vs with
     | nil=>cases a1;rfl
     | cons x l ih=>
      cases a1 with | cons k1 k2=>
      cases k1 with | s k1=>
      rw[KV,ih (fun z hz2=>hz z (zB _ hz2)) k2]
    have hrd:∀j,j<zs.length→rd V b2 (off+j) (vW (zs[j]?.getD 0)):=fun j hj=>a6 j _ (by rw[hvs,Kq,zt hj];rfl)
    refine .inr ⟨b2,off,cap,rfl,?_,fun j hj=>?_⟩
    · obtain⟨arr,e,fr,h1,_⟩:=hrd 0 (by omega)
      exact(Ka.1 (hs _ _ h1)).1
    · obtain⟨arr,e,fr,h1,h2⟩:=hrd j hj
      exact Zx (hs _ _ h1) h2
 obtain⟨sa,cap,rfl,hI⟩:=hW;refine callsIn_wide.1 (qqF Fence.wide 3 trivial trivial trivial rfl (zI _) sa cap b hb0 hb1 zs hz (by omega) w hI ?_)
 intro D ys W Kc hK hD hA hInv hB hDh;have hlt:=qqC hb0 ys;obtain⟨m1,m2⟩:=qys hz hb0 hA;rw[hwz]at m1 m2;refine quL hgk hs hB (zI _) hD hInv.h1 (qj1 b ys) (qAs ys) (by omega) hInv.h2 hInv.h3 (by omega) hDh hK ?_
 rintro v1 v2 V1 V2 W2 hx r1 r2 hD2 _
 rw[m2]at r1;rw[m1]at r2;have hnD:∀arr e fr,V1 D≠some (.cells arr e fr):=fun arr e fr h=>by
  have:=hx.view D _ h
  rw[hD2]at this;cases this
 have hoth:∀r,r≠D→(W2.putObj D (.deferred none)).heap[r]?=W2.heap[r]?:=fun r hr=>World.putObj_heap_other hr
 refine⟨_,qfK V1 D,[],rfl,⟨⟨hx.ext.os,hx.ext.tape,hx.ext.output,by have:=hx.ext.size;simpa using this,fun k hk _=>(hoth k (by have:k<w.heap.size:=hk;omega)).trans (hx.ext.block k hk (fun h=>h))⟩,
  fun r o hr=>?_,(fun _ hp=>(Kr hp).elim),(fun _ hp=>(Kr hp).elim),.nil,fun r o hr=>?_,fun r h1 h2=>?_⟩,[v1,v2],.cons (qiJ hnD r1) (.cons (qiJ hnD r2) .nil),rfl⟩
 · unfold qfK at hr
   by_cases e:r=D
   · rw[zA e]at hr;cases hr
   · rw[zw e]at hr;exact(hoth r e).trans (hx.view r o hr)
 · have hlt2:r<w.heap.size:=(Ka.1 (hs r o hr)).1
   unfold qfK;rw[zw (by omega)];exact hx.sub r o hr
 · unfold qfK at h2
   by_cases e:r=D
   · rw[zA e]at h2;exact absurd rfl h2
   · rw[zw e]at h2
     exact(hx.newer r h1 h2).imp id False.elim
end Go.Proofs.Sho
end
