/-
  The law and its row.
-/
import Derived.Test.YtldhknmacepeiaaGreatDoorNT13
import Derived.Test.YtldhknmacepeiaaGreatDoorFlyM
import Derived.Test.YtldhknmacepeiaaGreatDoorTra
import Derived.Test.YtldhknmacepeiaaGreatDoorSuTb
import Derived.Test.YtldhknmacepeiaaGreatDoorNB02
import Derived.Test.YtldhknmacepeiaaGreatDoorNB06
set_option linter.unusedVariables false
set_option linter.unusedSimpArgs false
set_option maxRecDepth 10000
section
namespace Go.Proofs.Sho
open Go Go.RowKit Go.Shelf Go.Proofs
attribute [local go_sem] Oper.semAt_some
theorem qxF(n:Nat):madeCells (Value.int .u32 0).cells n=Array.replicate n (.int .u32 0):=by
 apply Array.ext
 · simp[size_madeCells]
 · intro i h1 h2
   simp[madeCells,Value.cells,Nat.mod_one]
theorem qtM:(Tryz.prog.info? 105).map (fun i=>(i.zero,i.size,i.bytes))=some (some (.int .u32 0),1,4):=by kernel_rfl
theorem qxG(n:Nat)(hn:n≤549755813888)(w:World) :
 (Instr.makeSlice 37 (.int .i64 (n:Int)) (.int .i64 (n:Int))).run Tryz.prog w = .ok (.slice (some ⟨w.heap.size,0,none⟩) n n) (w.alloc (.cells (Array.replicate n (.int .u32 0)) 105)):=by
 obtain⟨i,hi,h1,h2,h3⟩:=info_parts qtM;have h:=run_make (P:=Tryz.prog) w 37 105 i (.int .u32 0) (by kernel_rfl) hi h1 .i64 .i64 (n:Int) (n:Int) (by omega) (Int.le_refl _) (by rw[h3];omega) (by omega)
 rw[zn,h2,KW,qxF]at h;exact h
theorem qaK{W:World}{B:Nat}{o:Obj}(h:W.heap[B]?=some o)(o':Obj):(W.alloc o').heap[B]?=some o:=((World.grownBy_alloc W o' none).block B (zU.1 h).1 (by simp)).trans h
theorem qqQ(W:World)(k:Nat)(hk:W.heap.size=k)(o:Obj):(W.alloc o).heap[k]?=some o:=by subst hk;exact World.alloc_heap_new W o
theorem qdk{W:World}{a:Addr}{v:Value}{B:Nat}(h:a.block≠B):(W.setCell a v).heap[B]?=W.heap[B]?:=by
 show(W.heap.modify a.block _)[B]?=_
 rw[Array.getElem?_modify,zP h]
theorem qwu{W:World}{B i:Nat}{v:Value}{c:Array Value}{t:TypeId}{fr:Nat×Nat}(h:W.heap[B]?=some (.cells c t fr)):(W.setCell ⟨B,i,none⟩ v).heap[B]?=some (.cells (c.setIfInBounds i v) t fr):=by
 show(W.heap.modify B _)[B]?=_
 rw[Array.getElem?_modify,zZ rfl,h];rfl
theorem qab{W:World}{B i:Nat}{c:Array Value}{t:TypeId}{fr:Nat×Nat}{v:Value}(h:W.heap[B]?=some (.cells c t fr))(hi:c[i]?=some v):W.cell? ⟨B,i,none⟩=some v:=by
 simp[World.cell?,h,hi]
theorem qml{W:World}{B i:Nat}{c:Array Value}{t:TypeId}(h:W.heap[B]?=some (.cells c t (0,0))):W.frozen? ⟨B,i,none⟩=false:=by
 simp[World.frozen?,h]
theorem qmm{W W':World}{row:Option Nat}{B:Nat}{c:Array Value}{t:TypeId}{fr:Nat×Nat}(h:W.heap[B]?=some (.cells c t fr))(hg:W.grownBy W' row)(hr:∀r,row=some r→∃o:Obj,W.heap[r]?=some o∧o.isCells=false):W'.heap[B]?=some (.cells c t fr) :=
 (hg.block B (zU.1 h).1 (fun e=>by
   obtain⟨o,ho,hc⟩:=hr B e.symm;rw[h]at ho;cases ho;cases hc)).trans h
theorem qb1{n:Int}(h0:0≤n)(h1:n<18446744073709551616):IntKind.u64.wrap n=n:=by rw[IntKind.wrap_u64];omega
theorem qe7(n:Int):IntKind.u32.wrap n=n % 4294967296:=IntKind.wrap_u32 n
theorem qtN{x y r:Nat}(hr:x<2^r):x ||| y*2^r=x+y*2^r:=by
 have:=Nat.two_pow_add_eq_or_of_lt hr y
 rw[zI,Nat.or_comm,← this];omega
theorem qxH{R v:Nat}(hR:R<4294967296)(hv:v<4294967296):bits BinOp.or IntKind.u64 ((R:Int)*4294967296) (v:Int)=((R*4294967296+v:Nat):Int):=by
 have h:=Fly.qdY (a:=R*4294967296) (b:=v) (by omega) (by omega)
 rw[Nat.or_comm,qtN (x:=v) (y:=R) (r:=32) (by simpa using hv),VY v]at h;rw[← h,Vs];rfl
def stp(b:Nat){len:Nat}(s:Nat×List Nat)(x:Wo len):Nat×List Nat:=((s.1*4294967296+x.1.2) % b,s.2.set x.1.1 ((s.1*4294967296+x.1.2) / b % 4294967296))
def sf(b:Nat){len:Nat}(pre:List (Wo len)):Nat×List Nat:=pre.foldl (stp b) (0,List.replicate len 0)
theorem qhJ(b:Nat){len:Nat}(pre:List (Wo len))(x:Wo len):sf b (pre++[x])=stp b (sf b pre) x:=by simp[sf]
theorem qqR{b:Nat}(hb:0<b){len:Nat}(pre:List (Wo len)):(sf b pre).1<b:=by
 have:∀(l:List (Wo len)) (s:Nat×List Nat),s.1<b→(l.foldl (stp b) s).1<b:=by
  intro l;induction l with
  | nil=>exact fun s h=>h
  | cons x l ih=>exact fun s _=>ih _ (Va _ hb)
 exact this pre _ hb
theorem qkK(b:Nat){len:Nat}(pre:List (Wo len)):(sf b pre).2.length=len:=by
 have:∀(l:List (Wo len)) (s:Nat×List Nat),s.2.length=len→(l.foldl (stp b) s).2.length=len:=by
  intro l;induction l with
  | nil=>exact fun s h=>h
  | cons x l ih=>exact fun s h=>ih _ (by simp[stp,h])
 exact this pre _ (by simp)
def Hid(p:Prop):Prop:=p
def vW(n:Nat):Value:=.int .u32 (n:Int)
structure Inv (B b:Nat) {len:Nat} (pre:List (Wo len)) (W:World):Prop where
 h0:W.heap[B]?=some (Obj.cells #[.int .u32 (b:Int)] 105 (0,0))
 h1:W.heap[B+1]?=some (Obj.cells ((sf b pre).2.map vW).toArray 105 (0,0))
 h2:W.heap[B+2]?=some (Obj.cells #[.slice (some ⟨B+1,0,none⟩) len len] 37 (0,0))
 h3:W.heap[B+3]?=some (Obj.cells #[.int .u64 ((sf b pre).1:Int)] 22 (0,0))
theorem Inv.own(B b:Nat)(len:Nat):Own (fun(pre:List (Wo len)) W=>Inv B b pre W) :=
 fun _ _ _ _ hs hg hr=>⟨qmm hs.h0 hg hr,qmm hs.h1 hg hr,qmm hs.h2 hg hr,qmm hs.h3 hg hr⟩
def qqS:Code :=
 Code.region 9
  #[{ dst:=some 34,op:=Op.load 37 (Operand.tmp 6),type:=37,pos:="nat.go:158",after:=#[],
      guard:=none },
    { dst:=some 35,
      op:=Op.call { callee:=Callee.value (Operand.func 67),args:=#[Operand.tmp 34],argTypes:=#[37] },
      type:=38,pos:="nat.go:158",after:=#[{ on:=0,ground:=Ground.data }],guard:=none },
    { dst:=some 36,op:=Op.load 22 (Operand.tmp 7),type:=22,pos:="nat.go:158",after:=#[],
      guard:=none },
    { dst:=some 37,
      op:=Op.call { callee:=Callee.value (Operand.func 22),args:=#[Operand.tmp 36],argTypes:=#[22] },
      type:=38,pos:="nat.go:158",
      after:=#[{ on:=2,ground:=Ground.data },{ on:=1,ground:=Ground.chain }],guard:=none },
    { dst:=some 4,op:=Op.assign (Operand.tmp 35),type:=38,pos:="nat.go:158",
      after :=
       #[{ on:=1,ground:=Ground.data },{ on:=3,ground:=Ground.chain },
         { on:=0,ground:=Ground.phase },{ on:=1,ground:=Ground.phase },
         { on:=2,ground:=Ground.textOnly Departure.lateStores },
         { on:=3,ground:=Ground.textOnly Departure.lateStoresUnsure }],
      guard:=none },
    { dst:=some 5,op:=Op.assign (Operand.tmp 37),type:=38,pos:="nat.go:158",
      after :=
       #[{ on:=3,ground:=Ground.data },{ on:=4,ground:=Ground.chain },
         { on:=0,ground:=Ground.phase },{ on:=1,ground:=Ground.phase },
         { on:=2,ground:=Ground.phase },{ on:=3,ground:=Ground.phase },
         { on:=4,ground:=Ground.phase }],
      guard:=none }]
  true
def qwv(B D b:Nat)(sa:Option Addr)(len cap:Nat):Act :=
 { tmps:=#[.slice sa len cap,.int .u32 (b:Int),undef,.pointer (some ⟨B,0,none⟩),.slice none 0 0,.slice none 0 0,.pointer (some ⟨B+2,0,none⟩),.pointer (some ⟨B+3,0,none⟩),undef,undef,
    .slice sa len cap,.int .i64 (len:Int),.slice (some ⟨B+1,0,none⟩) len len,.slice sa len cap,.func (.func 191) #[] #[.pointer (some ⟨B+4,0,none⟩)],
    undef,undef,undef,undef,undef,undef,undef,undef,undef,undef,undef,undef,undef,undef,undef,undef,undef,undef,undef,undef,undef,undef,undef],defers:=[{ target:=.collected D,args:=#[] }] }
theorem qqT{b len i v m d r1:Nat}{pre:List (Wo len)}{w W W0 W1:World}{hi:i<len}{hv:v<4294967296}(hW1:W.setCell { block:=w.heap.size+3,off:=0 } (Value.int IntKind.u64 (r1:Int))=W1)
 (_h3:W.heap[w.heap.size+3]?=some (Obj.cells #[.int .u64 ((sf b pre).1:Int)] 22 (0,0)))
 (g0:W1.heap[w.heap.size]?=some (Obj.cells #[.int .u32 (b:Int)] 105 (0,0))) (g1:W1.heap[w.heap.size+1]?=some (Obj.cells ((sf b pre).2.map vW).toArray 105 (0,0)))
 (g2:W1.heap[w.heap.size+2]?=some (Obj.cells #[.slice (some ⟨w.heap.size+1,0,none⟩) len len] 37 (0,0))) (g3:W1.heap[w.heap.size+3]?=some (Obj.cells #[.int .u64 (r1:Int)] 22 (0,0)))
 (hst:Hid (stp b (sf b pre) (⟨(i,v),hi,hv⟩:Wo len)=(m,(sf b pre).2.set i d))) (hB:Below w.heap.size w W) (_hsz:W0.heap.size=w.heap.size+5) :
 KeepsFrom W0.heap.size W ((W1.setCell ⟨w.heap.size+1,i,none⟩ (.int .u32 (d:Int))).setCell ⟨w.heap.size+3,0,none⟩ (.int .u64 (m:Int))).drew ∧
  Kb w.heap.size (w.heap.size+4) W ((W1.setCell ⟨w.heap.size+1,i,none⟩ (.int .u32 (d:Int))).setCell ⟨w.heap.size+3,0,none⟩ (.int .u64 (m:Int))).drew ∧
  (Inv w.heap.size b (pre++[(⟨(i,v),hi,hv⟩:Wo len)]) ((W1.setCell ⟨w.heap.size+1,i,none⟩ (.int .u32 (d:Int))).setCell ⟨w.heap.size+3,0,none⟩ (.int .u64 (m:Int))).drew ∧
    Below w.heap.size w ((W1.setCell ⟨w.heap.size+1,i,none⟩ (.int .u32 (d:Int))).setCell ⟨w.heap.size+3,0,none⟩ (.int .u64 (m:Int))).drew):=by
 have hst:stp b (sf b pre) (⟨(i,v),hi,hv⟩:Wo len)=(m,(sf b pre).2.set i d):=hst
 have hbl:Below w.heap.size W ((W1.setCell ⟨w.heap.size+1,i,none⟩ (.int .u32 (d:Int))).setCell ⟨w.heap.size+3,0,none⟩ (.int .u64 (m:Int))).drew:=by
  rw[← hW1];exact((((Below.refl _ W).setCell (p:=⟨w.heap.size+3,0,none⟩) (by simp) _).setCell (p:=⟨w.heap.size+1,i,none⟩) (by simp) _).setCell (p:=⟨w.heap.size+3,0,none⟩) (by simp) _).drew
 refine⟨?_,⟨hbl,?_⟩,⟨?_,?_,?_,?_⟩,hB.trans hbl⟩
 · rw[← hW1]
   exact((((KeepsOthers.setCell _ _ _).trans (KeepsOthers.setCell _ _ _)).trans (KeepsOthers.setCell _ _ _)).trans (KeepsOthers.drew _)).from _
 · show((W1.setCell _ _).setCell _ _).heap[w.heap.size+4]?=_
   rw[qdk (by simp),qdk (by simp),← hW1,qdk (by simp)]
 · show((W1.setCell _ _).setCell _ _).heap[w.heap.size]?=_
   rw[qdk (by simp),qdk (by simp)];exact g0
 · show((W1.setCell _ _).setCell _ _).heap[w.heap.size+1]?=_
   rw[qdk (by simp),qwu g1,qhJ,hst];simp[Wu,vW]
 · show((W1.setCell _ _).setCell _ _).heap[w.heap.size+2]?=_
   rw[qdk (by simp),qdk (by simp)];exact g2
 · show((W1.setCell _ _).setCell _ _).heap[w.heap.size+3]?=_
   rw[qwu ((qdk (by simp)).trans g3),qhJ,hst];rfl
set_option maxRecDepth 100000 in
set_option maxHeartbeats 4000000 in
theorem qqU(F:Fence)(n:Nat)(h3:F.fn 112)(h5:F.fn 165)(h7:F.fn 191)(hro:F.round=none)(hn:3≤n)(sa:Option Addr)(cap:Nat)(b:Nat)(hb0:0<b)(hb1:b<4294967296)(zs:List Nat)(hz:∀z∈zs,z<4294967296)(hreach:zs.length≤549755813888)(w:World)
 (hI:qgo w.heap.size w (.slice sa zs.length cap) zs) {Q:Ending→World→Prop}
 (hdone:∀(D:Nat) (ys:List (Wo zs.length)) (W:World) (Kc:Act→World→Prop),(∀a w',Code.wpIn F n Tryz.prog Code.ret (bodyPostM F n Tryz.prog Tryz.f112 Q) a w'→Kc a w')→w.heap.size+5≤D→All hz ys→Inv w.heap.size b ys W→Below w.heap.size w W →
   W.heap[D]?=some (.deferred (some []))→Code.wpIn F n Tryz.prog qqS (Exit.then Kc (bodyPostM F n Tryz.prog Tryz.f112 Q)) (qwv w.heap.size D b sa zs.length cap) W) :
 CallsIn F n Tryz.prog 112 #[.slice sa zs.length cap,.int .u32 (b:Int)] w Q:=by
 have h1:1≤n:=by omega
 refine callsIn_of_wp_marks Tryz.func112 rfl h3 ?_ hro
 simp only[Tryz.ntmps112,KT,zm,zt,Nat.reduceAdd,Nat.reduceSub,Array.replicate_succ,Array.replicate_zero,List.push_toArray,List.append_toArray,zx,zA];have hmk:=qxG zs.length hreach
 gi_wp2_with (gi_at_call 165;refine(qjq F (n-1) h5 hro _ _ _ _).mono ?_;rintro e w' ⟨rfl,rfl⟩)
 obtain⟨W0,hW0⟩:∃W0,((((w.alloc (Obj.cells #[Value.int IntKind.u32 (b:Int)] 105)).alloc (Obj.cells (Array.replicate zs.length (Value.int IntKind.u32 0)) 105)).alloc
  (Obj.cells #[Value.slice (some { block:=w.heap.size+1,off:=0 }) zs.length zs.length] 37)).alloc (Obj.cells #[Value.int IntKind.u64 0] 22)).alloc (Obj.cells #[Value.slice sa zs.length cap] 38)=W0:=⟨_,rfl⟩
 rw[hW0];have hB0:Below w.heap.size w W0:=by rw[← hW0];exact(((((Below.refl _ w).alloc (zJ _) _).alloc (by simp) _).alloc (by simp;omega) _).alloc (by simp;omega) _).alloc (by simp;omega) _
 have hsz:W0.heap.size=w.heap.size+5:=by rw[← hW0];simp only[World.size_alloc]
 have hJ0:Inv w.heap.size b ([]:List (Wo zs.length)) W0:=by
  rw[← hW0];refine⟨qaK (qaK (qaK (qaK (qqQ _ _ rfl _) _) _) _) _,?_,qaK (qaK (qqQ _ _ (by simp only[World.size_alloc]) _) _) _,qaK (qqQ _ _ (by simp only[World.size_alloc]) _) _⟩
  have e:((sf b ([]:List (Wo zs.length))).2.map vW).toArray=Array.replicate zs.length (Value.int IntKind.u32 0):=by
   show((List.replicate zs.length 0).map vW).toArray=_
   rw[VM];exact List.toArray_replicate ..
  rw[e];exact qaK (qaK (qaK (qqQ _ _ (by simp only[World.size_alloc]) _) _) _) _
 have hbx:W0.cell? ⟨w.heap.size+4,0,none⟩=some (.slice sa zs.length cap):=by
  rw[← hW0];exact qab (qqQ _ _ (by simp only[World.size_alloc]) _) rfl
 refine wpIn_rangeFunc_ownG hro h1 (gf:=191) (lb:=#[.pointer (some ⟨w.heap.size+4,0,none⟩)]) rfl h7 (enters_of Tryz.func191 (by kernel_rfl) rfl)
  (qkJ F (n-1) h7 hro (by omega) (w.heap.size+4) w.heap.size _ zs hz hreach W0 (by omega) (by omega) hbx (hI.below hB0)) Kb.trans
  (fun W l o o' hl ho hc _=>⟨belowK_b (w:=w) (zJ _) W l o o' (by omega) ho hc (by assumption),World.putObj_heap_other (by omega)⟩) (Below.refl _ _) (fun _=>rfl)
  (fun pre W=>Inv w.heap.size b pre W∧Below w.heap.size w W)
  (fun _ _ _=>False)
  (OwnFrom.and ((Inv.own w.heap.size b zs.length).from _) (ownFrom_below (zJ _) (by omega)))
  (fun _ _ _ _ _ hs _ _=>hs)
  ⟨hJ0,hB0⟩
  (fun x=>{ tmps:=#[.slice sa zs.length cap,.int .u32 (b:Int),undef,.pointer (some ⟨w.heap.size,0,none⟩),.slice none 0 0,.slice none 0 0,.pointer (some ⟨w.heap.size+2,0,none⟩),.pointer (some ⟨w.heap.size+3,0,none⟩),.int .i64 (x.1.1:Int),.int .u32 (x.1.2:Int),
    .slice sa zs.length cap,.int .i64 (zs.length:Int),.slice (some ⟨w.heap.size+1,0,none⟩) zs.length zs.length,.slice sa zs.length cap,.func (.func 191) #[] #[.pointer (some ⟨w.heap.size+4,0,none⟩)],.int .i64 (x.1.1:Int),.int .u32 (x.1.2:Int),
    undef,undef,undef,undef,undef,undef,undef,undef,undef,undef,undef,undef,undef,undef,undef,undef,undef,undef,undef,undef,undef],defers:=[] }) ?assign ?body ?done ?stop
 case assign=>
  intro l x W K hK;dsimp only[enW]
  gi_wp2
  exact hK
 case body=>
  rintro l pre ⟨⟨i,v⟩,hi,hv⟩ W ⟨hS,hB⟩ _
  dsimp only at hi hv;have c0:=qab hS.h0 (i:=0) rfl
  have c2:=qab hS.h2 (i:=0) rfl
  have c3:=qab hS.h3 (i:=0) rfl
  have f3:=qml (i:=0) hS.h3
  have f1:=qml (i:=i) hS.h1
  have hr:=qqR hb0 pre;have hmx:Tryz.prog.follows .mixedOrders=true:=by kernel_rfl
  have hor:bits BinOp.or IntKind.u64 (((sf b pre).1:Int)*4294967296) (v:Int)=(((sf b pre).1*4294967296+v:Nat):Int):=qxH (by omega) hv
  gi_wp2
  obtain⟨r1,hr1⟩:∃r1:Nat,(sf b pre).1*4294967296+v=r1:=⟨_,rfl⟩
  have hr2:((sf b pre).1:Int)*4294967296+(v:Int)=(r1:Int):=by rw[← hr1];simp
  have hr3:r1<18446744073709551616:=by omega
  rw[hr2];clear hor hr2;obtain⟨W1,hW1⟩:∃W1,W.setCell { block:=w.heap.size+3,off:=0 } (Value.int IntKind.u64 (r1:Int))=W1:=⟨_,rfl⟩
  rw[hW1];have g0:W1.heap[w.heap.size]?=some (Obj.cells #[.int .u32 (b:Int)] 105 (0,0)):=by rw[← hW1,qdk (by simp)];exact hS.h0
  have g1:W1.heap[w.heap.size+1]?=some (Obj.cells ((sf b pre).2.map vW).toArray 105 (0,0)):=by rw[← hW1,qdk (by simp)];exact hS.h1
  have g2:W1.heap[w.heap.size+2]?=some (Obj.cells #[.slice (some ⟨w.heap.size+1,0,none⟩) zs.length zs.length] 37 (0,0)):=by rw[← hW1,qdk (by simp)];exact hS.h2
  have g3:W1.heap[w.heap.size+3]?=some (Obj.cells #[.int .u64 (r1:Int)] 22 (0,0)):=by rw[← hW1];exact qwu hS.h3
  have c0':=qab g0 (i:=0) rfl
  have c2':=qab g2 (i:=0) rfl
  have c3':=qab g3 (i:=0) rfl
  have f3':=qml (i:=0) g3
  have f1':=qml (i:=i) g1
  have hb2 : ¬((b:Int)=0):=by omega
  have hb3 : ¬(b=0):=by omega
  have hsl:=qkK b pre;obtain⟨Qi,hQi⟩:∃Qi,(sf b pre).2[i]?=some Qi:=⟨_,zB (by omega)⟩
  have c1':W1.cell? ⟨w.heap.size+1,i,none⟩=some (.int .u32 (Qi:Int)):=qab g1 (by rw[List.getElem?_toArray,Kr,hQi];rfl)
  have hwb:IntKind.u64.wrap (b:Int)=(b:Int):=qb1 (by omega) (by omega)
  obtain⟨q,hq⟩:∃q,r1 / b=q:=⟨_,rfl⟩
  have hql:q≤r1:=by rw[← hq];exact Vy _ _
  have hq1:IntKind.u64.wrap ((r1:Int) / (b:Int))=(q:Int):=by rw[← hq,← Int.natCast_ediv];exact qb1 (by omega) (by omega)
  obtain⟨d,hd⟩:∃d,q % 4294967296=d:=⟨_,rfl⟩
  have hd1:IntKind.u32.wrap (q:Int)=(d:Int):=by rw[qe7,← hd];omega
  obtain⟨m,hm⟩:∃m,r1 % b=m:=⟨_,rfl⟩
  have hm1:(r1:Int) % (b:Int)=(m:Int):=by rw[← hm,Int.natCast_emod]
  have hm2:(r1:Int).tmod (b:Int)=(m:Int):=by rw[Wc (by omega)];exact hm1
  have hst:Hid (stp b (sf b pre) (⟨(i,v),hi,hv⟩:Wo zs.length)=(m,(sf b pre).2.set i d)):=by
   show(((sf b pre).1*4294967296+v) % b,(sf b pre).2.set i (((sf b pre).1*4294967296+v) / b % 4294967296))=_
   rw[hr1,hm,hq,hd]
  clear hq hd hm
  gi_region_o
  all_goals gi_wp2
  all_goals exact qqT (hi:=hi) (hv:=hv) hW1 hS.h3 g0 g1 g2 g3 hst hB hsz
 case done=>
  rintro D ys W hD hA ⟨hS,hB⟩ hK
  gi_wp2
  exact hdone D ys W _ (by assumption) (by omega) hA hS hB hK
 case stop=>
  rintro D c pre W _ _ h _
  exact h.elim
end Go.Proofs.Sho
end
section
namespace Su
noncomputable section
open Go Go.Proofs Fly
set_option maxRecDepth 100000
def qjr:PrimD:=prim (d1 (cI .u64)) (dc cB (dc (cI .i64) (d1 (cI .u64)))) (qi4)
theorem qqV:OkT 58 qjr:=QW yD qho (fun a=>qkz a) (by kernel_rfl) (fun _ _=>by kernel_rfl) qnu
def qmn:PrimD:=prim (dc cB (dc (cI .i64) (d1 (cI .u64)))) (dc (cI .u64) (d1 (cI .i64))) (Zj)
theorem qtO:OkT 69 qmn:=QW yD qho (fun a=>qpQ a.1 a.2.1 a.2.2) (by kernel_rfl) (fun _ _=>by kernel_rfl) qpR
def qqW:jj:=Qh [(58,qjr),(69,qmn)] noPr
theorem qcJ:PkT qqW:=jd qho (qR qqV (qR qtO jy))
end
end Su
end
section
namespace Su
noncomputable section
open Go Go.Proofs Fly
set_option maxRecDepth 100000
def qjs:PrimD:=prim (d1 (cI .u64)) (d1 (cI .u8)) (qi5)
theorem qqX:OkT 16 qjs:=QW yD qcJ (fun a=>qkA a) (by kernel_rfl) (fun _ _=>by kernel_rfl) qnv
def qqY:PrimD:=prim (d1 cB) (d1 (cI .u64)) (qpS)
theorem qww:OkT 26 qqY:=QW yD qcJ (fun a=>pInf a) (by kernel_rfl) (fun _ _=>by kernel_rfl) qs9
def qqZ:jj:=Qh [(16,qjs),(26,qqY)] qqW
theorem qcK:PkT qqZ:=jd qcJ (qR qqX (qR qww jy))
end
end Su
end
section
namespace Su
noncomputable section
open Go Go.Proofs Fly
set_option maxRecDepth 100000
def qjt:PrimD:=prim (d1 (cI .u64)) (dc (cI .u64) (d1 (cI .i64))) (qi6)
theorem qq0:OkT 103 qjt:=QW yD qcK (fun a=>qkB a) (by kernel_rfl) (fun _ _=>by kernel_rfl) qnw
def qq1:PrimD:=prim (d1 (cI .u64)) (d1 cB) (qpT)
theorem qwx:OkT 61 qq1:=QW yD qcK (fun a=>qvT a) (by kernel_rfl) (fun _ _=>by kernel_rfl) qta
def qq2:jj:=Qh [(103,qjt),(61,qq1)] qqZ
theorem qgp:PkT qq2:=jd qcK (qR qq0 (qR qwx jy))
end
end Su
end
section
namespace Su
noncomputable section
open Go Go.Proofs Fly
set_option maxRecDepth 100000
def qq3:PrimD:=prim (d1 (cI .u64)) (d1 (cI .u64)) (qpU)
theorem qwy:OkT 18 qq3:=QW yD qgp (fun a=>qvU a) (by kernel_rfl) (fun _ _=>by kernel_rfl) qtb
def qq4:jj:=Qh [(18,qq3)] qq2
theorem qgq:PkT qq4:=jd qgp (qR qwy jy)
end
end Su
end
section
namespace Su
noncomputable section
open Go Go.Proofs Fly
set_option maxRecDepth 100000
def At_p:PrimD:=prim (dc (cQ 1 1) (d1 (cI .i64))) (d1 (cI .u64)) (fun a=>At a.1 a.2)
theorem At_c:OkT 113 At_p:=fnL yD qgq (by kernel_rfl) (fun _ _=>by kernel_rfl)
def qq5:jj:=Qh [(113,At_p)] qq4
theorem qgr:PkT qq5:=jd qgq (qR At_c jy)
end
end Su
end
section
namespace Su
noncomputable section
open Go Go.Proofs Fly
set_option maxRecDepth 100000
def qq6:PrimD:=prim (d1 (cQ 1 1)) (d1 (cQ 1 1)) (qhy)
theorem qq7:OkT 67 qq6:=YV yD qgr (fun fu a=>qvV fu a) (by kernel_rfl) (fun _ _=>by kernel_rfl) qtc
def qq8:jj:=Qh [(67,qq6)] qq5
theorem YZ:PkT qq8:=jd qgr (qR qq7 jy)
end
end Su
end
section
namespace Su
noncomputable section
open Go Go.Proofs Fly
set_option maxRecDepth 100000
def quI:PrimD:=prim (dc (cQ 1 1) (d1 (cQ 1 1))) (d1 (cQ 1 1)) (qgg)
theorem qxI:OkT 62 quI:=YV yD YZ (fun fu a=>Add fu a.1 a.2) (by kernel_rfl) (fun _ _=>by kernel_rfl) qvW
def quJ:PrimD:=prim (dc (cQ 1 1) (d1 (cQ 1 1))) (d1 (cI .i64)) (qux)
theorem qxJ:OkT 105 quJ:=YV yD YZ (fun fu a=>Cmp fu a.1 a.2) (by kernel_rfl) (fun _ _=>by kernel_rfl) qvX
def quK:PrimD:=prim (d1 (cI .u64)) (d1 (cQ 1 1)) (fun a=>New a)
theorem quL:OkT 22 quK:=fnL yD YZ (by kernel_rfl) (fun _ _=>by kernel_rfl)
def qmo:PrimD:=prim (d1 (cI .u32)) (d1 (cI .i64)) (fun a=>qi9 a)
theorem qtP:OkT 121 qmo:=fnL yD YZ (by kernel_rfl) (fun _ _=>by kernel_rfl)
def qq9:jj:=Qh [(62,quI),(105,quJ),(22,quK),(121,qmo)] qq8
theorem qaA:PkT qq9:=jd YZ (qR qxI (qR qxJ (qR quL (qR qtP jy))))
end
end Su
end
section
namespace Su
noncomputable section
open Go Go.Proofs Fly
set_option maxRecDepth 100000
def quM:PrimD:=prim (d1 (cQ 1 1)) (d1 (cI .i64)) (fun a=>Len a)
theorem qxK:OkT 63 quM:=fnL yD qaA (by kernel_rfl) (fun _ _=>by kernel_rfl)
def quN:PrimD:=prim (dc (cQ 1 1) (d1 (cI .i64))) (d1 (cI .u64)) (fun a=>Bit a.1 a.2)
theorem qxL:OkT 110 quN:=fnL yD qaA (by kernel_rfl) (fun _ _=>by kernel_rfl)
def quO:PrimD:=prim (dc (cQ 1 1) (d1 (cQ 1 1))) (d1 (cQ 1 1)) (y8)
theorem qxM:OkT 24 quO:=YV yD qaA (fun fu a=>Mul fu a.1 a.2) (by kernel_rfl) (fun _ _=>by kernel_rfl) qvY
def qra:jj:=Qh [(63,quM),(110,quN),(24,quO)] qq9
theorem qgs:PkT qra:=jd qaA (qR qxK (qR qxL (qR qxM jy)))
end
end Su
end
section
namespace Su
noncomputable section
open Go Go.Proofs Fly
set_option maxRecDepth 100000
def qrb:PrimD:=prim (d1 (cQ 1 1)) (dc (cI .u64) (d1 cB)) (fun a=>qtd a)
theorem qwz:OkT 109 qrb:=fnL yD qgs (by kernel_rfl) (fun _ _=>by kernel_rfl)
def qrc:jj:=Qh [(109,qrb)] qra
theorem qcL:PkT qrc:=jd qgs (qR qwz jy)
end
end Su
end
section
namespace Su
noncomputable section
open Go Go.Proofs Fly
set_option maxRecDepth 100000
def quP:PrimD:=prim (dc (cQ 1 1) (d1 (cI .i64))) (d1 (cQ 1 1)) (quy)
theorem qxN:OkT 161 quP:=YV yD qcL (fun fu a=>Shr fu a.1 a.2) (by kernel_rfl) (fun _ _=>by kernel_rfl) qvZ
def quQ:PrimD:=prim (dc (cQ 1 1) (d1 (cI .i64))) (dc (cQ 1 1) (d1 (cI .i64))) (qeT)
theorem qxO:OkT 104 quQ:=YV yD qcL (fun fu a=>Shl fu a.1 a.2) (by kernel_rfl) (fun _ _=>by kernel_rfl) qv1
def qrd:jj:=Qh [(161,quP),(104,quQ)] qrc
theorem qnK:PkT qrd:=jd qcL (qR qxN (qR qxO jy))
end
end Su
end
section
namespace Su
open Go Go.Proofs Fly
set_option maxRecDepth 100000
noncomputable def qre:jj:=Qh [] qrd
theorem qnL:PkT qre:=jd qnK jy
end Su
end
section
namespace Go.Proofs.Sho
open Go Go.RowKit Go.Shelf Go.Proofs Fly Su
attribute [local go_sem] Oper.semAt_some
abbrev HX(V:qa)(w:World)(V':qa)(W:World):Prop:=Holds ⟨fun _=>False,w,V,fun _ _ _=>False⟩ V' [] W
theorem HX.trans{V V1 V2:qa}{w W W2:World}{G:Fly.Own}(h:HX V w V1 W)(k:Holds ⟨fun _=>False,W,V1,fun _ _ _=>False⟩ V2 G W2):HX V w V2 W2 :=
 ⟨h.ext.trans k.ext,k.view,(fun _ hp=>(KP hp).elim),(fun _ hp=>(KP hp).elim),.nil,h.sub.trans k.sub,fun r h1 h2=>by
   by_cases h3:V1 r=none
   · rcases k.newer r h3 h2 with h4 | h4
     · exact .inl (KF h.ext.size h4)
     · exact h4.elim
   · exact h.newer r h1 h3⟩
theorem HX.drew{V V1:qa}{w W:World}(h:HX V w V1 W):HX V w V1 W.drew :=
 ⟨⟨h.ext.os,h.ext.tape,h.ext.output,h.ext.size,h.ext.block⟩,h.view,(fun _ hp=>(KP hp).elim),(fun _ hp=>(KP hp).elim),.nil,h.sub,h.newer⟩
theorem HX.add{V:qa}{w W:World}{B:Nat}{o:Obj}(hs:qaM V w)(hb:Below w.heap.size w W)(hB:w.heap.size≤B)(ho:W.heap[B]?=some o):HX V w (addV V B o) W:=by
 have hlt:∀r o,V r=some o→r<w.heap.size:=fun r o h=>(zU.1 (hs r o h)).1
 have hn:V B=none:=by
  cases h:V B with
  | none=>rfl
  | some o=>have:=hlt _ _ h;omega
 refine⟨⟨hb.os,hb.tape,hb.output,hb.size,fun k hk _=>hb.block k hk⟩,fun r u hr=>?_,(fun _ hp=>(KP hp).elim),(fun _ hp=>(KP hp).elim),.nil,Fly.Sub.addV hn,fun r h1 h2=>?_⟩
 · unfold addV at hr
   by_cases e:r=B
   · rw[zZ e]at hr;subst e;rw[ho];exact hr
   · rw[zP e]at hr;exact(hb.block r (hlt _ _ hr)).trans (hs r u hr)
 · unfold addV at h2
   by_cases e:r=B
   · exact .inl (by show w.heap.size≤r;omega)
   · rw[zP e]at h2;exact absurd h1 h2
theorem qtQ(r:Nat)(h:r<18446744073709551616):New (r:Int)=some (ofN r):=by
 have e1:IntKind.u32.wrap (r:Int)=((r % 4294967296:Nat):Int):=by rw[Su.wrap_u32];omega
 have e2:Int.fdiv (r:Int) (2^32)=((r / 4294967296:Nat):Int):=by
  have:=Zn r 32;rwa [show(2:Nat)^32=4294967296 from rfl]at this
 have e3:IntKind.u32.wrap ((r / 4294967296:Nat):Int)=((r / 4294967296:Nat):Int):=Su.qiR (by omega) (by omega)
 unfold New;rw[e1,e2,e3];simp only[qd,zn]
 congr 2;omega
theorem qkL{V:qa}{W:World}{v:Value}{a:List Int}(hgk:GOK Su.tb V)(hs:qaM V W)(hr:Rep V (.ql 1 1 a) v):Calls Tryz.prog 67 #[v] W fun e W'=>∃v' V',e = .returned v'∧HX V W V' W'∧Rep V' (.ql 1 1 (ofN (qd a))) v':=by
 have h:∀xs y,((d1 (cQ 1 1)).dec xs).bind qhy=some y→∀V vs,GOK Su.tb V→RepA V xs vs→jl Tryz.prog 67 vs.toArray V [] fun v V' _=>∃rvs,RepA V' ((d1 (cQ 1 1)).enc y) rvs∧v=YA rvs:=qq7.2.1
 have h2:((d1 (cQ 1 1)).dec [T.ql 1 1 a]).bind qhy=some (ofN (qd a)):=by
  rw[show(d1 (cQ 1 1)).dec [T.ql 1 1 a]=some a from(d1 (cQ 1 1)).de a];rfl
 refine(h _ _ h2 V [v] hgk (.cons hr .nil) W hs (fun _ hp=>(KP hp).elim) (fun _ hp=>(KP hp).elim) .nil).mono ?_
 rintro e W' ⟨v',V',G',rfl,hh,rvs,m1,rfl⟩
 cases m1 with | cons k1 k2=>cases k2 with | nil=>
 exact⟨_,V',rfl,⟨⟨hh.ext.os,hh.ext.tape,hh.ext.output,hh.ext.size,fun k hk _=>hh.ext.block k hk (by simp[keys])⟩,hh.view,(fun _ hp=>(KP hp).elim),(fun _ hp=>(KP hp).elim),.nil,hh.sub,fun r h1 h2=>(hh.newer r h1 h2).imp id (fun hm=>by simp[keys]at hm)⟩,k1⟩
theorem qnM{V:qa}{W:World}{r:Nat}(hgk:GOK Su.tb V)(hl:r<18446744073709551616)(hs:qaM V W):Calls Tryz.prog 22 #[.int .u64 (r:Int)] W fun e W'=>∃v' V',e = .returned v'∧HX V W V' W'∧Rep V' (.ql 1 1 (ofN r)) v':=by
 have h:∀xs y,((d1 (cI .u64)).dec xs).bind (fun a=>New a)=some y→∀V vs,GOK Su.tb V→RepA V xs vs→jl Tryz.prog 22 vs.toArray V [] fun v V' _=>∃rvs,RepA V' ((d1 (cQ 1 1)).enc y) rvs∧v=YA rvs:=quL.2.1
 have h2:((d1 (cI .u64)).dec [T.s (.int .u64 (r:Int))]).bind (fun a=>New a)=some (ofN r):=by
  rw[show(d1 (cI .u64)).dec [T.s (.int .u64 (r:Int))]=some (r:Int) from(d1 (cI .u64)).de (r:Int)];exact qtQ r hl
 refine(h _ _ h2 V [.int .u64 (r:Int)] hgk (.cons (.s (by show inR .u64 (r:Int)=true;exact qhp.2 ⟨by omega,by omega⟩)) .nil) W hs (fun _ hp=>(KP hp).elim) (fun _ hp=>(KP hp).elim) .nil).mono ?_
 rintro e W' ⟨v',V',G',rfl,hh,rvs,m1,rfl⟩
 cases m1 with | cons k1 k2=>cases k2 with | nil=>
 exact⟨_,V',rfl,⟨⟨hh.ext.os,hh.ext.tape,hh.ext.output,hh.ext.size,fun k hk _=>hh.ext.block k hk (by simp[keys])⟩,hh.view,(fun _ hp=>(KP hp).elim),(fun _ hp=>(KP hp).elim),.nil,hh.sub,fun r h1 h2=>(hh.newer r h1 h2).imp id (fun hm=>by simp[keys]at hm)⟩,k1⟩
def wI(qs:List Nat):List Int:=qs.map fun z=>((z:Nat):Int)
theorem qgt(qs:List Nat):(wI qs).length=qs.length:=zR ..
theorem qwA(qs:List Nat):(List.map (α:=U 1) (view 1) (wI qs)).length=qs.length:=(zR (α:=U 1) ..).trans (qgt qs)
theorem qb2:∀qs:List Nat,(List.map (α:=U 1) (view 1) (wI qs)).flatMap T.cells=qs.map fun z=>T.s (vW z)
 | []=>rfl
 | x::l=>by
  show T.s (vW x)::(List.map (α:=U 1) (view 1) (wI l)).flatMap T.cells=_
  rw[qb2 l];rfl
theorem qrf:∀(qs:List Nat) (x:T),x∈List.map (α:=U 1) (view 1) (wI qs)→x.cells.length=1
 | [],x,h=>by cases h
 | y::l,x,h=>by
  rcases zO.1 (show x∈view 1 ((y:Nat):Int)::List.map (α:=U 1) (view 1) (wI l) from h)with rfl | h
  · rfl
  · exact qrf l x h
theorem qnN{V:qa}{B off:Nat}{qs:List Nat}{len cap:Nat}(h:∀(j:Nat) (c:Value),(qs.map vW)[j]?=some c→rd V B (off+j) c)(hqw:∀z∈qs,z<4294967296)(hql:qs.length=len)(hlen:len≤cap)(hcap:cap≤maxLen) :
 Rep V (.ql 1 1 (wI qs)) (.slice (some ⟨B,off,none⟩) len cap):=by
 have hw:∀l:List Nat,(∀z∈l,z<4294967296)→RepA V (l.map fun z=>T.s (vW z)) (l.map vW):=by
  intro l;induction l with
  | nil=>exact fun _=>.nil
  | cons x l ih=>
   intro hx;have hx0:=hx x (zL ..)
   exact .cons (.s (show inR .u32 (x:Int)=true from qdF.2 ⟨by omega,by omega⟩)) (ih fun z hz=>hx z (zD _ hz))
 have hl:=qwA qs;have h2:=Rep.sl (V:=V) (k:=1) (l:=List.map (α:=U 1) (view 1) (wI qs)) (vs:=qs.map vW) (a:=some ⟨B,off,none⟩) (cap:=cap) (by rw[qb2];exact hw qs hqw)
  (by rw[qb2];intro x hx;obtain⟨z,_,rfl⟩:=KH.1 hx;rfl) (qrf qs) (by omega) hcap (.inr ⟨B,off,rfl,h⟩)
 rw[hl,hql]at h2;exact .ql h2
set_option maxRecDepth 100000 in
set_option maxHeartbeats 4000000 in
theorem qtR{V:qa}{w W:World}{B D b len cap rr:Nat}{sa:Option Addr}{qs:List Nat}{Q:Ending→World→Prop}{Kc:Act→World→Prop}(hgk:GOK Su.tb V)(hs:qaM V w)(hB:Below w.heap.size w W)(hBw:w.heap.size≤B)(hDB:B+5≤D)
 (g1:W.heap[B+1]?=some (Obj.cells (qs.map vW).toArray 105 (0,0))) (hql:qs.length=len) (hqw:∀z∈qs,z<4294967296) (hlen:len≤549755813888) (g2:W.heap[B+2]?=some (Obj.cells #[.slice (some ⟨B+1,0,none⟩) len len] 37 (0,0)))
 (g3:W.heap[B+3]?=some (Obj.cells #[.int .u64 (rr:Int)] 22 (0,0))) (hrr:rr<18446744073709551616) (hD:W.heap[D]?=some (.deferred (some [])))
 (hK:∀a w',Code.wpIn Fence.wide 3 Tryz.prog Code.ret (bodyPostM Fence.wide 3 Tryz.prog Tryz.f112 Q) a w'→Kc a w')
 (hQ:∀v1 v2 V1 V2 W2,HX V w V1 W2→Rep V1 (.ql 1 1 (ofN (qd (wI qs)))) v1→Rep V1 (.ql 1 1 (ofN rr)) v2→W2.heap[D]?=some (.deferred (some []))→V2=V1→Q (.returned (.tuple #[v1,v2])) (W2.putObj D (.deferred none))) :
 Code.wpIn Fence.wide 3 Tryz.prog qqS (Exit.then Kc (bodyPostM Fence.wide 3 Tryz.prog Tryz.f112 Q)) (qwv B D b sa len cap) W:=by
 have hx0:HX V w (addV V (B+1) (Obj.cells (qs.map vW).toArray 105 (0,0))) W:=HX.add hs hB (by omega) g1
 have hrep:Rep (addV V (B+1) (Obj.cells (qs.map vW).toArray 105 (0,0))) (.ql 1 1 (wI qs)) (.slice (some ⟨B+1,0,none⟩) len len):=qnN (fun j c hj=>⟨_,_,_,by unfold addV;rw[zZ rfl],by rw[List.getElem?_toArray,zr];exact hj⟩) hqw hql (zJ _) (by simp[maxLen];omega)
 obtain⟨V0,hV0⟩:∃V0,addV V (B+1) (Obj.cells (qs.map vW).toArray 105 (0,0))=V0:=⟨_,rfl⟩
 rw[hV0]at hx0 hrep;have c2:=qab g2 (i:=0) rfl
 have c3:=qab g3 (i:=0) rfl
 unfold qqS qwv;have hmx:Tryz.prog.follows .mixedOrders=true:=by kernel_rfl
 refine Code.wpIn_mono (Q:=Exit.then Kc (fun _ _ _=>False)) (fun e a w h=>by cases e <;> first | exact h | exact h.elim) ?_
 gi_region_with_o (first
  | (refine⟨trivial,?_⟩;gi_at_call 67;refine(callsIn_wide.2 (qkL (V:=V0) (W:=W.drew) (hgk.mono hx0.sub) hx0.view hrep)).mono ?_;rintro e w1 ⟨v1,V1,rfl,hx1,hr1⟩;have c3':=(hx1.ext.below.cell (p:=⟨B+3,0,none⟩) (zU.1 g3).1).trans c3)
  | (refine⟨trivial,?_⟩;gi_at_call 22;refine(callsIn_wide.2 (qnM (V:=V1) (W:=w1) ((hgk.mono hx0.sub).mono hx1.sub) hrr hx1.view)).mono ?_;rintro e w2 ⟨v2,V2,rfl,hx2,hr2⟩))
 all_goals (
  refine hK _ _ ?_
  have hD1:w1.heap[D]?=some (.deferred (some [])):=(hx1.ext.block D (zU.1 hD).1 (fun h=>h)).trans hD
  have hD2:w2.heap[D]?=some (.deferred (some [])):=(hx2.ext.block D (zU.1 hD1).1 (fun h=>h)).trans hD1
  gi_wp2
  refine⟨by simp,.inl ⟨_,_,rfl,run_takeDeferred hD2,?_⟩⟩
  refine⟨_,results_tmp2 (t:=4) (u:=5) rfl _ _ _,hQ v1 v2 V2 V2 w2 ((hx0.drew.trans hx1).trans hx2) (Rep.mono hx2.sub hr1) hr2 hD2 rfl⟩)
theorem qxP{b:Nat}{len:Nat}(pre:List (Wo len)):∀z∈(sf b pre).2,z<4294967296:=by
 have:∀(l:List (Wo len)) (s:Nat×List Nat),(∀z∈s.2,z<4294967296)→∀z∈(l.foldl (stp b) s).2,z<4294967296:=by
  intro l;induction l with
  | nil=>exact fun s h=>h
  | cons x l ih=>
   refine fun s h=>ih _ fun z hz=>?_
   rcases Wg hz with hz | rfl
   · exact h z hz
   · exact Va _ (by omega)
 exact this pre _ fun z hz=>by rw[(K9.1 hz).2];omega
theorem qwB(qs:List Nat)(j:Nat):nth (wI qs) j=((qs[j]?.getD 0:Nat):Int):=by
 unfold nth;have:(wI qs)[j]?=(qs[j]?).map fun z=>((z:Nat):Int):=Kr ..
 rw[this];cases qs[j]? <;> rfl
theorem qwC(qs:List Nat)(j y:Nat):wI (qs.set j y)=List.set (wI qs) j ((y:Nat):Int):=Wu ..
theorem qtS(zs:List Nat)(m:Nat)(h:m<zs.length):qd (wI (zs.drop m))=zs[m]?.getD 0+4294967296*qd (wI (zs.drop (m+1))):=by
 rw[Kg h,zB h];show qd (((zs[m]:Nat):Int)::wI (zs.drop (m+1)))=_
 rw[qd,zn];rfl
theorem qmp{zs:List Nat}(hz:∀z∈zs,z<4294967296)(h0:0<zs.length){b:Nat}(hb:0<b):∀k,k≤zs.length →
 (sf b (ZB hz h0 k)).1=qd (wI (zs.drop (zs.length-k))) % b∧qd (wI (sf b (ZB hz h0 k)).2)=qd (wI (zs.drop (zs.length-k))) / b*4294967296^(zs.length-k)∧∀j,j<zs.length-k→(sf b (ZB hz h0 k)).2[j]?.getD 0=0
 | 0,_=>by
  have e:sf b (ZB hz h0 0)=(0,List.replicate zs.length 0):=rfl
  have ev:qd (wI ([]:List Nat))=0:=rfl
  have ez:wI (List.replicate zs.length 0)=List.replicate zs.length 0:=VM ..
  rw[e,Vv,List.drop_length,ev];refine⟨(Nat.zero_mod b).symm,?_,fun j hj=>?_⟩
  · show qd (wI (List.replicate zs.length 0))=_
    rw[ez,Zm,Nat.zero_div,Vb]
  · show(List.replicate zs.length 0)[j]?.getD 0=0
    rw[K6];split <;> rfl
 | k+1,hk=>by
  obtain⟨i1,i2,i3⟩:=qmp hz h0 hb k (by omega)
  obtain⟨m,hm⟩:∃m,m=zs.length-1-k:=⟨_,rfl⟩
  have e1:zs.length-k=m+1:=by omega
  have e2:zs.length-(k+1)=m:=by omega
  rw[e1]at i1 i2 i3;rw[e2,qgm,qhJ];have hml:m<zs.length:=by omega
  have hq:=i3 m (by omega)
  have hlen:=qkK b (ZB hz h0 k)
  have hlt:=qqR hb (ZB hz h0 k)
  generalize sf b (ZB hz h0 k)=s at *
  obtain⟨R,Q⟩:=s;simp only at i1 i2 i3 hq hlen hlt;have hx:=qb0 hz m;have hA:=qtS zs m hml;simp only[← hm];show(R*4294967296+zs[m]?.getD 0) % b=_∧qd (wI (Q.set m ((R*4294967296+zs[m]?.getD 0) / b % 4294967296)))=_∧∀j,j<m→(Q.set m ((R*4294967296+zs[m]?.getD 0) / b % 4294967296))[j]?.getD 0=0
  generalize zs[m]?.getD 0=x at *
  generalize hA0:qd (wI (zs.drop (m+1)))=A at *
  rw[hA];have hdiv:=K8 A b;have hr1:x+4294967296*A=b*(4294967296*(A / b))+(R*4294967296+x):=by
   rw[i1];generalize A / b=p at *
   generalize A % b=t at *
   rw[← hdiv];grind
  have hr1b:(R*4294967296+x) / b<4294967296:=by
   rw[KB hb];have:=zF 4294967296 (show R+1≤b by omega)
   rw[zI 4294967296 b];omega
  rw[hr1];refine⟨?_,?_,fun j hj=>?_⟩
  · rw[Nat.mul_add_mod]
  · rw[KQ hr1b,Nat.mul_add_div hb,qwC]
    have hs:=Z2 (wI Q) m (((R*4294967296+x) / b:Nat):Int) (by rw[qgt];omega)
    rw[qwB,hq,zn,i2,z7]at hs;generalize (R*4294967296+x) / b=d at *
    generalize A / b=p at *
    generalize 4294967296^m=P at *
    have hs:qd (List.set (wI Q) m (d:Int))+P*0=p*(P*4294967296)+P*d:=hs
    rw[Vz,KN]at hs;rw[hs];grind
  · rw[Ke (by omega)];exact i3 j (by omega)
theorem qwD{zs:List Nat}(hz:∀z∈zs,z<4294967296){b:Nat}(hb:0<b){ys:List (Wo zs.length)}(h:All hz ys):(sf b ys).1=qd (wI zs) % b∧qd (wI (sf b ys).2)=qd (wI zs) / b:=by
 rcases h with⟨rfl,h0⟩ | ⟨hl,rfl⟩
 · have:zs=[]:=Vg h0
   subst this;exact⟨(Nat.zero_mod b).symm,(Nat.zero_div b).symm⟩
 · obtain⟨h1,h2,_⟩:=qmp hz hl hb zs.length (zJ _)
   rw[Wm,Vk]at h1 h2;rw[Vc,KW]at h2;exact⟨h1,h2⟩
theorem qmq{V V':qa}:∀ {l:List T} {vs:List Value},(∀x∈l,∃v,x=T.s v)→RepA V l vs→RepA V' l vs
 | [],vs,_,h=>by cases h;exact .nil
 | x::l,vs,h,hr=>by
  cases hr with | cons h1 h2=>
  obtain⟨v,rfl⟩:=h x (zL ..)
  cases h1 with | s h1=>exact .cons (.s h1) (qmq (fun y hy=>h y (zD _ hy)) h2)
theorem qju:∀(l:List (U 1)) (x:T),x∈(l.map (view 1)).flatMap T.cells→∃v,x=T.s v
 | [],x,h=>by cases h
 | y::l,x,h=>by
  rcases zO.1 (show x∈T.s (.int .u32 y)::(l.map (view 1)).flatMap T.cells from h)with rfl | h
  · exact⟨_,rfl⟩
  · exact qju l x h
def qgu(V:qa)(D:Nat):qa:=fun r=>if r=D then none else V r
theorem qjv{V:qa}{D:Nat}{l:List (U 1)}{v:Value}(hD:∀arr e fr,V D≠some (.cells arr e fr))(h:Rep V (.ql 1 1 l) v):Rep (qgu V D) (.ql 1 1 l) v:=by
 cases h with | ql h=>
 cases h with | sl a1 a2 a3 a4 a5 a6=>
 refine .ql (.sl (qmq (qju l) a1) a2 a3 a4 a5 (a6.imp id ?_))
 rintro⟨b,off,e,h⟩
 refine⟨b,off,e,fun j c hj=>?_⟩
 obtain⟨arr,e,fr,h1,h2⟩:=h j c hj;refine⟨arr,e,fr,?_,h2⟩
 unfold qgu;rw[zP (fun e2=>by subst e2;exact hD _ _ _ h1)];exact h1
theorem qtT{a:List Int}(h:Wd a):wI (a.map Int.toNat)=a:=by
 induction a with
 | nil=>rfl
 | cons x l ih=>
  have hx:=h.head;show((x.toNat:Nat):Int)::wI (l.map Int.toNat)=_
  rw[ih h.tail];congr 1;omega
theorem short_fing{V:qa}{a:List Int}{b:Nat}{v:Value}(hgk:GOK Su.tb V)(ha:Wd a)(hb0:0<b)(hb1:b<4294967296)(hlen:a.length≤549755813888)(hr:Rep V (.ql 1 1 a) v) :
 jl Tryz.prog 112 #[v,.int .u32 (b:Int)] V [] fun v V' _=>∃rvs,RepA V' [.ql 1 1 (ofN (qd a / b)),.ql 1 1 (ofN (qd a % b))] rvs∧v=YA rvs:=by
 intro w hs _ _ _;obtain⟨zs,hzs⟩:∃zs,a.map Int.toNat=zs:=⟨_,rfl⟩
 have hzl:zs.length=a.length:=by rw[← hzs,zR]
 have hz:∀z∈zs,z<4294967296:=by
  intro z hz;rw[← hzs]at hz;obtain⟨x,hx,rfl⟩:=KH.1 hz;have:=ha x hx;omega
 have hwz:wI zs=a:=by rw[← hzs];exact qtT ha
 have hW:∃sa cap,v = .slice sa zs.length cap∧qgo w.heap.size w (.slice sa zs.length cap) zs:=by
  cases hr with | ql hr=>
  cases hr with | @sl _ _ vs ad cap a1 a2 a3 a4 a5 a6=>
  have hl:(List.map (α:=U 1) (view 1) a).length=zs.length:=by rw[hzl];exact zR ..
  refine⟨ad,cap,by rw[hl],?_⟩
  rcases a6 with a6 | ⟨b2,off,rfl,a6⟩
  · have:zs.length=0:=by rw[← hl,a6];rfl
    exact .inl ⟨Vg this,ad,cap,by rw[this]⟩
  · by_cases h0:zs.length=0
    · exact .inl ⟨Vg h0,_,cap,by rw[h0]⟩
    have hvs:vs=zs.map vW:=by
     have e:=qb2 zs;rw[hwz]at e;rw[e]at a1;clear e a6 hl hzs hzl hwz h0;induction zs generalizing vs with
     | nil=>cases a1;rfl
     | cons x l ih=>
      cases a1 with | cons k1 k2=>
      cases k1 with | s k1=>
      rw[KD,ih (fun z hz2=>hz z (zD _ hz2)) k2]
    have hrd:∀j,j<zs.length→rd V b2 (off+j) (vW (zs[j]?.getD 0)):=fun j hj=>a6 j _ (by rw[hvs,Kr,zB hj];rfl)
    refine .inr ⟨b2,off,cap,rfl,?_,fun j hj=>?_⟩
    · obtain⟨arr,e,fr,h1,_⟩:=hrd 0 (by omega)
      exact(zU.1 (hs _ _ h1)).1
    · obtain⟨arr,e,fr,h1,h2⟩:=hrd j hj
      exact qab (hs _ _ h1) h2
 obtain⟨sa,cap,rfl,hI⟩:=hW;refine callsIn_wide.1 (qqU Fence.wide 3 trivial trivial trivial rfl (zJ _) sa cap b hb0 hb1 zs hz (by omega) w hI ?_)
 intro D ys W Kc hK hD hA hInv hB hDh;have hlt:=qqR hb0 ys;obtain⟨m1,m2⟩:=qwD hz hb0 hA;rw[hwz]at m1 m2;refine qtR hgk hs hB (zJ _) hD hInv.h1 (qkK b ys) (qxP ys) (by omega) hInv.h2 hInv.h3 (by omega) hDh hK ?_
 rintro v1 v2 V1 V2 W2 hx r1 r2 hD2 _
 rw[m2]at r1;rw[m1]at r2;have hnD:∀arr e fr,V1 D≠some (.cells arr e fr):=fun arr e fr h=>by
  have:=hx.view D _ h
  rw[hD2]at this;cases this
 have hoth:∀r,r≠D→(W2.putObj D (.deferred none)).heap[r]?=W2.heap[r]?:=fun r hr=>World.putObj_heap_other hr
 refine⟨_,qgu V1 D,[],rfl,⟨⟨hx.ext.os,hx.ext.tape,hx.ext.output,by have:=hx.ext.size;simpa using this,fun k hk _=>(hoth k (by have:k<w.heap.size:=hk;omega)).trans (hx.ext.block k hk (fun h=>h))⟩,
  fun r o hr=>?_,(fun _ hp=>(KP hp).elim),(fun _ hp=>(KP hp).elim),.nil,fun r o hr=>?_,fun r h1 h2=>?_⟩,[v1,v2],.cons (qjv hnD r1) (.cons (qjv hnD r2) .nil),rfl⟩
 · unfold qgu at hr
   by_cases e:r=D
   · rw[zZ e]at hr;cases hr
   · rw[zP e]at hr;exact(hoth r e).trans (hx.view r o hr)
 · have hlt2:r<w.heap.size:=(zU.1 (hs r o hr)).1
   unfold qgu;rw[zP (by omega)];exact hx.sub r o hr
 · unfold qgu at h2
   by_cases e:r=D
   · rw[zZ e]at h2;exact absurd rfl h2
   · rw[zP e]at h2
     exact(hx.newer r h1 h2).imp id False.elim
end Go.Proofs.Sho
end
