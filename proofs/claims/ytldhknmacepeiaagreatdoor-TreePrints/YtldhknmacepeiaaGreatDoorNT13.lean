/-
  What functions compute.
-/
import Derived.Test.YtldhknmacepeiaaGreatDoorNT12
import Derived.RangeFuncNested
import Derived.RangeFuncBound
import Derived.RangeFuncCalls
import Derived.RangeFuncLeaves
import Derived.RangeFuncWrites
import Derived.Shelf.Abstract
import Derived.Shelf.RegionOpen
import Derived.WalkKit
import Derived.OwnWalkIn
import Derived.TacticsInMore
import Derived.LoopNIn
import Derived.LoopIn
set_option linter.unusedVariables false
set_option linter.unusedSimpArgs false
set_option maxRecDepth 10000
section
namespace Su
open Go Fly
noncomputable section
def qlf  (f:Int):Option ByteArray :=
 (bif(decide ((Int.fdiv f (2^63))=1))then
 (bif(decide ((((yw (bK f.toNat)):Nat):Int)=4))then
 some (ByteArray.mk (List.toArray [110,97,110]))
 else
  (bif(decide ((((yw (bK f.toNat)):Nat):Int)=3))then
  some ((ByteArray.mk (List.toArray [45]))++(ByteArray.mk (List.toArray [105,110,102])))
 else
  (bif(decide ((((yw (bK f.toNat)):Nat):Int)=0))then
  some ((ByteArray.mk (List.toArray [45]))++(ByteArray.mk (List.toArray [48,46,48])))
 else
  (Ym f).bind fun x0=>
  (QE x0).bind fun x1=>
  (bif(Nat.ble (1+(ByteArray.size x1)) 549755813888)then
  some ((ByteArray.mk (List.toArray [45]))++x1)
 else none))))
 else
  (bif(decide ((((yw (bK f.toNat)):Nat):Int)=4))then
  some (ByteArray.mk (List.toArray [110,97,110]))
 else
  (bif(decide ((((yw (bK f.toNat)):Nat):Int)=3))then
  some ((ByteArray.mk (List.toArray []))++(ByteArray.mk (List.toArray [105,110,102])))
 else
  (bif(decide ((((yw (bK f.toNat)):Nat):Int)=0))then
  some ((ByteArray.mk (List.toArray []))++(ByteArray.mk (List.toArray [48,46,48])))
 else
  (Ym f).bind fun x2=>
  (QE x2).bind fun x3=>
  (bif(Nat.ble (0+(ByteArray.size x3)) 549755813888)then
  some ((ByteArray.mk (List.toArray []))++x3)
 else none)))))
def sgL(f:Int):List UInt8:=bif decide (Int.fdiv f (2^63)=1)then[45]else[]
def Q4(f:Int):Option ByteArray :=
 bif decide (((yw (bK f.toNat):Nat):Int)=4)then some (bs [110,97,110])else
 bif decide (((yw (bK f.toNat):Nat):Int)=3)then some (bs (sgL f++[105,110,102]))else
 bif decide (((yw (bK f.toNat):Nat):Int)=0)then some (bs (sgL f++[48,46,48]))else
 (Ym f).bind fun x=>(QE x).bind fun y=>some (bs (sgL f++lb y))
theorem qom{d:List UInt8}{q:Int}(h:okF d q=true):(qgE d q).length≤2000000:=by
 obtain⟨a1,a2,a3,a4⟩:=qh7.1 h;have il:=qhS (n:=((d.length:Nat):Int)+q-1) (by omega) (by omega)
 unfold qgE;split
 · simp only[zb,qh8,zf,zk];omega
 · split
   · simp only[zb,Ka,KA,zf,zk];omega
   · split
     · simp only[zb,qh8,zf,zk];omega
     · split
       · simp only[zb,Ka,KA,zf,zk];omega
       · simp only[zb,Ka,KA,zf,zk];omega
theorem qgF{x:ByteArray×Int}{y:ByteArray}(h:QE x=some y):y.size≤2000000:=by
 obtain⟨h1,h2⟩:=qL h;have:=soi h2;subst this
 rw[jB];exact qom h1
theorem qon(f:Int)(y:ByteArray)(hg:(d1 (cI .u64)).good f)(h:Q4 f=some y):qlf f=some y:=by
 rw[← h];unfold qlf Q4 sgL;have key:∀(s:List UInt8) (n:Nat),n≤1→((Ym f).bind fun x0=>(QE x0).bind fun x1=>(bif(Nat.ble (n+(ByteArray.size x1)) 549755813888)then some ((ByteArray.mk (List.toArray s))++x1)else none))=(Ym f).bind fun x=>(QE x).bind fun y=>some (bs (s++lb y)):=fun s n hn=>by
  cases Ym f with
  | none=>rfl
  | some x=>
   rw[zm,zm];cases hx:QE x with
   | none=>rfl
   | some z=>
    have:=qgF hx
    rw[zm,zm,zN (by omega),zg,qgw,← QY,qdd]
 rw[key [45] 1 (by omega),key [] 0 (by omega)];cases decide (Int.fdiv f (2^63)=1)with
 | true=>simp only[zg,qgw,QY]
 | false=>simp only[zo,qgw,QY]
end
end Su
end
section
namespace Go.Proofs.Sho
open Go Go.RowKit Go.Shelf Go.Proofs
attribute [local go_sem] Oper.semAt_some
abbrev Wo(len:Nat):={ x:Nat×Nat // x.1<len∧x.2<4294967296 }
def enW{len:Nat}(x:Wo len):Array Value:=#[.int .i64 (x.1.1:Int),.int .u32 (x.1.2:Int)]
theorem qce{zs:List Nat}(hz:∀z∈zs,z<4294967296)(j:Nat):zs[j]?.getD 0<4294967296:=by
 cases h:zs[j]? with
 | none=>simp
 | some z=>simpa using hz z (zO h)
def Kb(n₀ B:Nat)(W W':World):Prop:=Below n₀ W W'∧W'.heap[B]?=W.heap[B]?
theorem Kb.trans{n₀ B:Nat}{X Y Z:World}(h:Kb n₀ B X Y)(k:Kb n₀ B Y Z):Kb n₀ B X Z:=⟨h.1.trans k.1,k.2.trans h.2⟩
theorem Kb.refl(n₀ B:Nat)(W:World):Kb n₀ B W W:=⟨Below.refl _ _,rfl⟩
def ZK{zs:List Nat}(hz:∀z∈zs,z<4294967296)(h0:0<zs.length)(k:Nat):List (Wo zs.length) :=
 (List.range k).map fun j=>⟨(zs.length-1-j,zs[zs.length-1-j]?.getD 0),by simp only[];omega,qce hz _⟩
theorem qgG{zs:List Nat}(hz:∀z∈zs,z<4294967296)(h0:0<zs.length)(k:Nat) :
 ZK hz h0 (k+1)=ZK hz h0 k++[⟨(zs.length-1-k,zs[zs.length-1-k]?.getD 0),by simp only[];omega,qce hz _⟩]:=by
 simp[ZK,List.range_succ]
theorem qrt{zs:List Nat}(hz:∀z∈zs,z<4294967296)(h0:0<zs.length)(k:Nat):(ZK hz h0 k).length=k:=by simp[ZK]
theorem qgH{zs:List Nat}(hz:∀z∈zs,z<4294967296)(h0:0<zs.length){m:Nat}(hm:m<zs.length) :
 ZK hz h0 (zs.length-m)=ZK hz h0 (zs.length-(m+1))++[⟨(m,zs[m]?.getD 0),hm,qce hz _⟩]:=by
 have h1:zs.length-m=zs.length-(m+1)+1:=by omega
 rw[h1,qgG]
 congr 2
 have h2:zs.length-1-(zs.length-(m+1))=m:=by omega
 exact Subtype.ext (by simp only[h2])
set_option maxRecDepth 100000 in
set_option maxHeartbeats 2000000 in
theorem qru(F:Fence)(n:Nat)(h7:F.fn 191)(hro:F.round=none)(hn:1≤n)(l Bs n₀ b off cap:Nat)(zs:List Nat)(hz:∀z∈zs,z<4294967296)(hl:0<zs.length)(hreach:zs.length≤549755813888)(hb:b<n₀)(J Jx:List (Wo zs.length)→World→Prop)
 (hY:∀pre x W,J pre W→pre.length<zs.length→YieldAt F (n-1) Tryz.prog l (enW x) W fun e W'=>
   (e = .returned (.bool true)∧J (pre++[x]) W'∧Kb n₀ Bs W W')∨(e = .returned (.bool false)∧Jx (pre++[x]) W'))
 (W:World) (hBs:W.cell? ⟨Bs,0,none⟩=some (.slice (some ⟨b,off,none⟩) zs.length cap)) (hc:∀j,j<zs.length→W.cell? ⟨b,off+j,none⟩=some (.int .u32 ((zs[j]?.getD 0:Nat):Int))) (h0:J [] W) :
 CallsIn F n Tryz.prog 191 #[.func (.yield l) #[] #[],.pointer (some ⟨Bs,0,none⟩)] W fun e W'=>(∃v,e = .returned v) ∧
  ((∃ys,ys=ZK hz hl zs.length∧J ys W')∨(∃pre,(∃k,k≤zs.length∧pre=ZK hz hl k)∧Jx pre W')):=by
 refine callsIn_of_wp Tryz.func191 rfl h7 ?_ hro
 simp only[Tryz.ntmps191,Ky,zf,zk,Nat.reduceAdd,Nat.reduceSub,Array.replicate_succ,Array.replicate_zero,List.push_toArray,List.append_toArray,zy,zD]
 gi_wp2
 gi_loopw [3] (fun i wr=>∃m:Nat,m≤zs.length∧i = .int .i64 ((m:Int)-1)∧J (ZK hz hl (zs.length-m)) wr∧Kb n₀ Bs W wr)
  (fun i _=>(intOf i+1).toNat)
 case atStart=>
  refine⟨zs.length,zI _,?_,?_,Kb.refl _ _ _⟩
  · rfl
  · rw[Ww];exact h0
 case round=>
  obtain⟨m,hm,rfl,hJs,hnx⟩:=hrel;have hBs':wr.cell? ⟨Bs,0,none⟩=some (.slice (some ⟨b,off,none⟩) zs.length cap):=(World.cell?_of_block (a:=⟨Bs,0,none⟩) hnx.2).trans hBs
  cases m with
  | zero=>
   have e0:(((0:Nat):Int)-1) = -1:=rfl
   rw[e0]
   gi_wp2
   go_end0
   exact⟨⟨_,rfl⟩,.inl ⟨_,rfl,hJs⟩⟩
  | succ m=>
   have e0:(((m+1:Nat):Int)-1)=(m:Int):=by omega
   rw[e0];have hcx:wr.cell? ⟨b,off+m,none⟩=some (.int .u32 ((zs[m]?.getD 0:Nat):Int)):=(hnx.1.cell (p:=⟨b,off+m,none⟩) hb).trans (hc m (by omega))
   obtain⟨fn,tmps,assign,body,hy,hR⟩:=hY _ ⟨(m,zs[m]?.getD 0),by simp only[];omega,qce hz _⟩ wr hJs (by rw[qrt];omega)
   dsimp only[enW]at hy
   gi_wp2
   refine hR.mono ?_
   rintro e W3 (⟨rfl,hJ3,hk3⟩|⟨rfl,hJx3⟩)
   · gi_wp2
     go_roundw
     case rel=>
      exact⟨m,by omega,rfl,by rw[qgH hz hl (by omega)];exact hJ3,hnx.trans hk3⟩
     case measure=>simp only[intOf];omega
   · gi_wp2
     refine bodyPost_ret (results_none rfl _ _ _) rfl ?_
     exact⟨⟨_,rfl⟩,.inr ⟨_,⟨zs.length-m,by omega,(qgH hz hl (by omega)).symm⟩,hJx3⟩⟩
theorem qjR(F:Fence)(n:Nat)(h7:F.fn 191)(hro:F.round=none)(l Bs:Nat)(sa:Option Addr)(cap:Nat)(K:World→Prop)(W:World)(hBs:W.cell? ⟨Bs,0,none⟩=some (.slice sa 0 cap))(h0:K W) :
 CallsIn F n Tryz.prog 191 #[.func (.yield l) #[] #[],.pointer (some ⟨Bs,0,none⟩)] W fun e W'=>(∃v,e = .returned v)∧K W':=by
 refine callsIn_of_wp Tryz.func191 rfl h7 ?_ hro
 simp only[Tryz.ntmps191,Ky,zf,zk,Nat.reduceAdd,Nat.reduceSub,Array.replicate_succ,Array.replicate_zero,List.push_toArray,List.append_toArray,zy,zD]
 gi_wp2
 gi_loopw [3] (fun i wr=>i = .int .i64 (-1)∧K wr) (fun _ _=>0)
 case atStart=>exact⟨rfl,h0⟩
 case round=>
  obtain⟨rfl,hJs⟩:=hrel
  gi_wp2
  go_end0
  exact⟨⟨_,rfl⟩,hJs⟩
set_option maxHeartbeats 1000000 in
theorem qjS(F:Fence)(n:Nat)(h5:F.fn 165)(hro:F.round=none)(a:Option Addr)(len cap:Nat)(w:World) :
 CallsIn F n Tryz.prog 165 #[.slice a len cap] w fun e w'=>e = .returned (.func (.func 191) #[] #[.pointer (some ⟨w.heap.size,0,none⟩)])∧w'=w.alloc (.cells #[.slice a len cap] 38):=by
 refine callsIn_of_wp Tryz.func165 rfl h5 ?_ hro
 simp only[Tryz.ntmps165,Ky,zf,zk,Nat.reduceAdd,Nat.reduceSub,Array.replicate_succ,Array.replicate_zero,List.push_toArray,List.append_toArray,zy,zD]
 gi_wp2
 go_ret
 exact⟨rfl,rfl⟩
def qgI(n₀:Nat)(W:World)(sv:Value)(zs:List Nat):Prop :=
 (zs=[]∧∃a cap,sv = .slice a 0 cap)∨∃b off cap,sv = .slice (some ⟨b,off,none⟩) zs.length cap∧b<n₀∧∀j,j<zs.length→W.cell? ⟨b,off+j,none⟩=some (.int .u32 ((zs[j]?.getD 0:Nat):Int))
theorem qgI.below{n₀:Nat}{A B:World}(h:Below n₀ A B){sv:Value}{zs:List Nat}:qgI n₀ A sv zs→qgI n₀ B sv zs
 | .inl e=>.inl e
 | .inr ⟨b,off,cap,e,hb,hc⟩=>.inr ⟨b,off,cap,e,hb,fun j hj=>(h.cell (p:=⟨b,off+j,none⟩) hb).trans (hc j hj)⟩
def All{zs:List Nat}(hz:∀z∈zs,z<4294967296)(ys:List (Wo zs.length)):Prop:=ys=[]∧zs.length=0∨∃hl:0<zs.length,ys=ZK hz hl zs.length
theorem qlg(F:Fence)(n:Nat)(h7:F.fn 191)(hro:F.round=none)(hn:1≤n)(Bs n₀:Nat)(sv:Value)(zs:List Nat)(hz:∀z∈zs,z<4294967296)(hreach:zs.length≤549755813888)(w:World)(hBs:Bs<w.heap.size)(hn₀:n₀≤w.heap.size)
 (hc:w.cell? ⟨Bs,0,none⟩=some sv) (hI:qgI n₀ w sv zs) :
 SeqStopsK F n Tryz.prog 191 #[.pointer (some ⟨Bs,0,none⟩)] (fun x:Wo zs.length=>enW x) (Kb n₀ Bs) (All hz) (fun _=>True) zs.length w:=fun l J Jx W hW _ _ hY h0=>by
 have hc':=(hW.cell (p:=⟨Bs,0,none⟩) hBs).trans hc
 rcases hI.below (hW.mono hn₀)with⟨h1,a,cap,rfl⟩|⟨b,off,cap,rfl,hb,hcs⟩
 · exact(qjR F n h7 hro l Bs a cap (J []) W hc' h0).mono fun e W' ⟨he,hj⟩=>⟨he,.inl ⟨_,.inl ⟨rfl,by rw[h1];rfl⟩,hj⟩⟩
 · by_cases hl:0<zs.length
   · refine(qru F n h7 hro hn l Bs n₀ b off cap zs hz hl hreach hb J Jx hY W hc' hcs h0).mono ?_
     rintro e W' ⟨he,⟨ys,rfl,hj⟩|⟨pre,_,hj⟩⟩
     · exact⟨he,.inl ⟨_,.inr ⟨hl,rfl⟩,hj⟩⟩
     · exact⟨he,.inr ⟨_,trivial,hj⟩⟩
   · have h2:zs.length=0:=by omega
     rw[h2]at hc';exact(qjR F n h7 hro l Bs _ cap (J []) W hc' h0).mono fun e W' ⟨he,hj⟩=>⟨he,.inl ⟨_,.inl ⟨rfl,h2⟩,hj⟩⟩
end Go.Proofs.Sho
end
