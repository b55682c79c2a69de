/-
  The law and its row.
-/
import Derived.Test.YtldhknmacepeiaaGreatDoorNT13
set_option linter.unusedVariables false
set_option linter.unusedSimpArgs false
set_option maxRecDepth 10000
section
namespace Go.Proofs.Sho
open Go Go.RowKit Go.Shelf Go.Proofs
attribute [local go_sem] Oper.semAt_some
theorem qyV(n:Nat):madeCells (Value.int .u32 0).cells n=Array.replicate n (.int .u32 0):=by
 apply Array.ext
 · simp[size_madeCells]
 · intro i h1 h2
   simp[madeCells,Value.cells,Nat.mod_one]
theorem quD:(Tryz.prog.info? 105).map (fun i=>(i.zero,i.size,i.bytes))=some (some (.int .u32 0),1,4):=by kernel_rfl
theorem qyW(n:Nat)(hn:n≤549755813888)(w:World) :
 (Instr.makeSlice 37 (.int .i64 (n:Int)) (.int .i64 (n:Int))).run Tryz.prog w = .ok (.slice (some ⟨w.heap.size,0,none⟩) n n) (w.alloc (.cells (Array.replicate n (.int .u32 0)) 105)):=by
 obtain⟨i,hi,h1,h2,h3⟩:=info_parts quD;have h:=run_make (P:=Tryz.prog) w 37 105 i (.int .u32 0) (by kernel_rfl) hi h1 .i64 .i64 (n:Int) (n:Int) (by omega) (Int.le_refl _) (by rw[h3];omega) (by omega)
 rw[zn,h2,KK,qyV]at h;exact h
theorem qaQ{W:World}{B:Nat}{o:Obj}(h:W.heap[B]?=some o)(o':Obj):(W.alloc o').heap[B]?=some o:=((World.grownBy_alloc W o' none).block B (zX.1 h).1 (by simp)).trans h
theorem qrv(W:World)(k:Nat)(hk:W.heap.size=k)(o:Obj):(W.alloc o).heap[k]?=some o:=by subst hk;exact World.alloc_heap_new W o
theorem qdo{W:World}{a:Addr}{v:Value}{B:Nat}(h:a.block≠B):(W.setCell a v).heap[B]?=W.heap[B]?:=by
 show(W.heap.modify a.block _)[B]?=_
 rw[Array.getElem?_modify,zQ h]
theorem qxA{W:World}{B i:Nat}{v:Value}{c:Array Value}{t:TypeId}{fr:Nat×Nat}(h:W.heap[B]?=some (.cells c t fr)):(W.setCell ⟨B,i,none⟩ v).heap[B]?=some (.cells (c.setIfInBounds i v) t fr):=by
 show(W.heap.modify B _)[B]?=_
 rw[Array.getElem?_modify,z6 rfl,h];rfl
theorem qaf{W:World}{B i:Nat}{c:Array Value}{t:TypeId}{fr:Nat×Nat}{v:Value}(h:W.heap[B]?=some (.cells c t fr))(hi:c[i]?=some v):W.cell? ⟨B,i,none⟩=some v:=by
 simp[World.cell?,h,hi]
theorem qmT{W:World}{B i:Nat}{c:Array Value}{t:TypeId}(h:W.heap[B]?=some (.cells c t (0,0))):W.frozen? ⟨B,i,none⟩=false:=by
 simp[World.frozen?,h]
theorem qmU{W W':World}{row:Option Nat}{B:Nat}{c:Array Value}{t:TypeId}{fr:Nat×Nat}(h:W.heap[B]?=some (.cells c t fr))(hg:W.grownBy W' row)(hr:∀r,row=some r→∃o:Obj,W.heap[r]?=some o∧o.isCells=false):W'.heap[B]?=some (.cells c t fr) :=
 (hg.block B (zX.1 h).1 (fun e=>by
   obtain⟨o,ho,hc⟩:=hr B e.symm;rw[h]at ho;cases ho;cases hc)).trans h
theorem qcf{n:Int}(h0:0≤n)(h1:n<18446744073709551616):IntKind.u64.wrap n=n:=by rw[IntKind.wrap_u64];omega
theorem qfq(n:Int):IntKind.u32.wrap n=n % 4294967296:=IntKind.wrap_u32 n
theorem quE{x y r:Nat}(hr:x<2^r):x ||| y*2^r=x+y*2^r:=by
 have:=Nat.two_pow_add_eq_or_of_lt hr y
 rw[zL,Nat.or_comm,← this];omega
theorem qyX{R v:Nat}(hR:R<4294967296)(hv:v<4294967296):bits BinOp.or IntKind.u64 ((R:Int)*4294967296) (v:Int)=((R*4294967296+v:Nat):Int):=by
 have h:=Fly.qd8 (a:=R*4294967296) (b:=v) (by omega) (by omega)
 rw[Nat.or_comm,quE (x:=v) (y:=R) (r:=32) (by simpa using hv),Wh v]at h;rw[← h,Vw];rfl
def stp(b:Nat){len:Nat}(s:Nat×List Nat)(x:Wo len):Nat×List Nat:=((s.1*4294967296+x.1.2) % b,s.2.set x.1.1 ((s.1*4294967296+x.1.2) / b % 4294967296))
def sf(b:Nat){len:Nat}(pre:List (Wo len)):Nat×List Nat:=pre.foldl (stp b) (0,List.replicate len 0)
theorem qh9(b:Nat){len:Nat}(pre:List (Wo len))(x:Wo len):sf b (pre++[x])=stp b (sf b pre) x:=by simp[sf]
theorem qrw{b:Nat}(hb:0<b){len:Nat}(pre:List (Wo len)):(sf b pre).1<b:=by
 have:∀(l:List (Wo len)) (s:Nat×List Nat),s.1<b→(l.foldl (stp b) s).1<b:=by
  intro l;induction l with
  | nil=>exact fun s h=>h
  | cons x l ih=>exact fun s _=>ih _ (Vd _ hb)
 exact this pre _ hb
theorem qlh(b:Nat){len:Nat}(pre:List (Wo len)):(sf b pre).2.length=len:=by
 have:∀(l:List (Wo len)) (s:Nat×List Nat),s.2.length=len→(l.foldl (stp b) s).2.length=len:=by
  intro l;induction l with
  | nil=>exact fun s h=>h
  | cons x l ih=>exact fun s h=>ih _ (by simp[stp,h])
 exact this pre _ (by simp)
def Hid(p:Prop):Prop:=p
def vW(n:Nat):Value:=.int .u32 (n:Int)
structure Inv (B b:Nat) {len:Nat} (pre:List (Wo len)) (W:World):Prop where
 h0:W.heap[B]?=some (Obj.cells #[.int .u32 (b:Int)] 105 (0,0))
 h1:W.heap[B+1]?=some (Obj.cells ((sf b pre).2.map vW).toArray 105 (0,0))
 h2:W.heap[B+2]?=some (Obj.cells #[.slice (some ⟨B+1,0,none⟩) len len] 37 (0,0))
 h3:W.heap[B+3]?=some (Obj.cells #[.int .u64 ((sf b pre).1:Int)] 22 (0,0))
theorem Inv.own(B b:Nat)(len:Nat):Own (fun(pre:List (Wo len)) W=>Inv B b pre W) :=
 fun _ _ _ _ hs hg hr=>⟨qmU hs.h0 hg hr,qmU hs.h1 hg hr,qmU hs.h2 hg hr,qmU hs.h3 hg hr⟩
def qrx:Code :=
 Code.region 9
  #[{ dst:=some 34,op:=Op.load 37 (Operand.tmp 6),type:=37,pos:="nat.go:158",after:=#[],
      guard:=none },
    { dst:=some 35,
      op:=Op.call { callee:=Callee.value (Operand.func 67),args:=#[Operand.tmp 34],argTypes:=#[37] },
      type:=38,pos:="nat.go:158",after:=#[{ on:=0,ground:=Ground.data }],guard:=none },
    { dst:=some 36,op:=Op.load 22 (Operand.tmp 7),type:=22,pos:="nat.go:158",after:=#[],
      guard:=none },
    { dst:=some 37,
      op:=Op.call { callee:=Callee.value (Operand.func 22),args:=#[Operand.tmp 36],argTypes:=#[22] },
      type:=38,pos:="nat.go:158",
      after:=#[{ on:=2,ground:=Ground.data },{ on:=1,ground:=Ground.chain }],guard:=none },
    { dst:=some 4,op:=Op.assign (Operand.tmp 35),type:=38,pos:="nat.go:158",
      after :=
       #[{ on:=1,ground:=Ground.data },{ on:=3,ground:=Ground.chain },
         { on:=0,ground:=Ground.phase },{ on:=1,ground:=Ground.phase },
         { on:=2,ground:=Ground.textOnly Departure.lateStores },
         { on:=3,ground:=Ground.textOnly Departure.lateStoresUnsure }],
      guard:=none },
    { dst:=some 5,op:=Op.assign (Operand.tmp 37),type:=38,pos:="nat.go:158",
      after :=
       #[{ on:=3,ground:=Ground.data },{ on:=4,ground:=Ground.chain },
         { on:=0,ground:=Ground.phase },{ on:=1,ground:=Ground.phase },
         { on:=2,ground:=Ground.phase },{ on:=3,ground:=Ground.phase },
         { on:=4,ground:=Ground.phase }],
      guard:=none }]
  true
def qxB(B D b:Nat)(sa:Option Addr)(len cap:Nat):Act :=
 { tmps:=#[.slice sa len cap,.int .u32 (b:Int),undef,.pointer (some ⟨B,0,none⟩),.slice none 0 0,.slice none 0 0,.pointer (some ⟨B+2,0,none⟩),.pointer (some ⟨B+3,0,none⟩),undef,undef,
    .slice sa len cap,.int .i64 (len:Int),.slice (some ⟨B+1,0,none⟩) len len,.slice sa len cap,.func (.func 191) #[] #[.pointer (some ⟨B+4,0,none⟩)],
    undef,undef,undef,undef,undef,undef,undef,undef,undef,undef,undef,undef,undef,undef,undef,undef,undef,undef,undef,undef,undef,undef,undef],defers:=[{ target:=.collected D,args:=#[] }] }
theorem qry{b len i v m d r1:Nat}{pre:List (Wo len)}{w W W0 W1:World}{hi:i<len}{hv:v<4294967296}(hW1:W.setCell { block:=w.heap.size+3,off:=0 } (Value.int IntKind.u64 (r1:Int))=W1)
 (_h3:W.heap[w.heap.size+3]?=some (Obj.cells #[.int .u64 ((sf b pre).1:Int)] 22 (0,0)))
 (g0:W1.heap[w.heap.size]?=some (Obj.cells #[.int .u32 (b:Int)] 105 (0,0))) (g1:W1.heap[w.heap.size+1]?=some (Obj.cells ((sf b pre).2.map vW).toArray 105 (0,0)))
 (g2:W1.heap[w.heap.size+2]?=some (Obj.cells #[.slice (some ⟨w.heap.size+1,0,none⟩) len len] 37 (0,0))) (g3:W1.heap[w.heap.size+3]?=some (Obj.cells #[.int .u64 (r1:Int)] 22 (0,0)))
 (hst:Hid (stp b (sf b pre) (⟨(i,v),hi,hv⟩:Wo len)=(m,(sf b pre).2.set i d))) (hB:Below w.heap.size w W) (_hsz:W0.heap.size=w.heap.size+5) :
 KeepsFrom W0.heap.size W ((W1.setCell ⟨w.heap.size+1,i,none⟩ (.int .u32 (d:Int))).setCell ⟨w.heap.size+3,0,none⟩ (.int .u64 (m:Int))).drew ∧
  Kb w.heap.size (w.heap.size+4) W ((W1.setCell ⟨w.heap.size+1,i,none⟩ (.int .u32 (d:Int))).setCell ⟨w.heap.size+3,0,none⟩ (.int .u64 (m:Int))).drew ∧
  (Inv w.heap.size b (pre++[(⟨(i,v),hi,hv⟩:Wo len)]) ((W1.setCell ⟨w.heap.size+1,i,none⟩ (.int .u32 (d:Int))).setCell ⟨w.heap.size+3,0,none⟩ (.int .u64 (m:Int))).drew ∧
    Below w.heap.size w ((W1.setCell ⟨w.heap.size+1,i,none⟩ (.int .u32 (d:Int))).setCell ⟨w.heap.size+3,0,none⟩ (.int .u64 (m:Int))).drew):=by
 have hst:stp b (sf b pre) (⟨(i,v),hi,hv⟩:Wo len)=(m,(sf b pre).2.set i d):=hst
 have hbl:Below w.heap.size W ((W1.setCell ⟨w.heap.size+1,i,none⟩ (.int .u32 (d:Int))).setCell ⟨w.heap.size+3,0,none⟩ (.int .u64 (m:Int))).drew:=by
  rw[← hW1];exact((((Below.refl _ W).setCell (p:=⟨w.heap.size+3,0,none⟩) (by simp) _).setCell (p:=⟨w.heap.size+1,i,none⟩) (by simp) _).setCell (p:=⟨w.heap.size+3,0,none⟩) (by simp) _).drew
 refine⟨?_,⟨hbl,?_⟩,⟨?_,?_,?_,?_⟩,hB.trans hbl⟩
 · rw[← hW1]
   exact((((KeepsOthers.setCell _ _ _).trans (KeepsOthers.setCell _ _ _)).trans (KeepsOthers.setCell _ _ _)).trans (KeepsOthers.drew _)).from _
 · show((W1.setCell _ _).setCell _ _).heap[w.heap.size+4]?=_
   rw[qdo (by simp),qdo (by simp),← hW1,qdo (by simp)]
 · show((W1.setCell _ _).setCell _ _).heap[w.heap.size]?=_
   rw[qdo (by simp),qdo (by simp)];exact g0
 · show((W1.setCell _ _).setCell _ _).heap[w.heap.size+1]?=_
   rw[qdo (by simp),qxA g1,qh9,hst];simp[WF,vW]
 · show((W1.setCell _ _).setCell _ _).heap[w.heap.size+2]?=_
   rw[qdo (by simp),qdo (by simp)];exact g2
 · show((W1.setCell _ _).setCell _ _).heap[w.heap.size+3]?=_
   rw[qxA ((qdo (by simp)).trans g3),qh9,hst];rfl
set_option maxRecDepth 100000 in
set_option maxHeartbeats 4000000 in
theorem qrz(F:Fence)(n:Nat)(h3:F.fn 112)(h5:F.fn 165)(h7:F.fn 191)(hro:F.round=none)(hn:3≤n)(sa:Option Addr)(cap:Nat)(b:Nat)(hb0:0<b)(hb1:b<4294967296)(zs:List Nat)(hz:∀z∈zs,z<4294967296)(hreach:zs.length≤549755813888)(w:World)
 (hI:qgI w.heap.size w (.slice sa zs.length cap) zs) {Q:Ending→World→Prop}
 (hdone:∀(D:Nat) (ys:List (Wo zs.length)) (W:World) (Kc:Act→World→Prop),(∀a w',Code.wpIn F n Tryz.prog Code.ret (bodyPostM F n Tryz.prog Tryz.f112 Q) a w'→Kc a w')→w.heap.size+5≤D→All hz ys→Inv w.heap.size b ys W→Below w.heap.size w W →
   W.heap[D]?=some (.deferred (some []))→Code.wpIn F n Tryz.prog qrx (Exit.then Kc (bodyPostM F n Tryz.prog Tryz.f112 Q)) (qxB w.heap.size D b sa zs.length cap) W) :
 CallsIn F n Tryz.prog 112 #[.slice sa zs.length cap,.int .u32 (b:Int)] w Q:=by
 have h1:1≤n:=by omega
 refine callsIn_of_wp_marks Tryz.func112 rfl h3 ?_ hro
 simp only[Tryz.ntmps112,Ky,zf,zk,Nat.reduceAdd,Nat.reduceSub,Array.replicate_succ,Array.replicate_zero,List.push_toArray,List.append_toArray,zy,zD];have hmk:=qyW zs.length hreach
 gi_wp2_with (gi_at_call 165;refine(qjS F (n-1) h5 hro _ _ _ _).mono ?_;rintro e w' ⟨rfl,rfl⟩)
 obtain⟨W0,hW0⟩:∃W0,((((w.alloc (Obj.cells #[Value.int IntKind.u32 (b:Int)] 105)).alloc (Obj.cells (Array.replicate zs.length (Value.int IntKind.u32 0)) 105)).alloc
  (Obj.cells #[Value.slice (some { block:=w.heap.size+1,off:=0 }) zs.length zs.length] 37)).alloc (Obj.cells #[Value.int IntKind.u64 0] 22)).alloc (Obj.cells #[Value.slice sa zs.length cap] 38)=W0:=⟨_,rfl⟩
 rw[hW0];have hB0:Below w.heap.size w W0:=by rw[← hW0];exact(((((Below.refl _ w).alloc (zI _) _).alloc (by simp) _).alloc (by simp;omega) _).alloc (by simp;omega) _).alloc (by simp;omega) _
 have hsz:W0.heap.size=w.heap.size+5:=by rw[← hW0];simp only[World.size_alloc]
 have hJ0:Inv w.heap.size b ([]:List (Wo zs.length)) W0:=by
  rw[← hW0];refine⟨qaQ (qaQ (qaQ (qaQ (qrv _ _ rfl _) _) _) _) _,?_,qaQ (qaQ (qrv _ _ (by simp only[World.size_alloc]) _) _) _,qaQ (qrv _ _ (by simp only[World.size_alloc]) _) _⟩
  have e:((sf b ([]:List (Wo zs.length))).2.map vW).toArray=Array.replicate zs.length (Value.int IntKind.u32 0):=by
   show((List.replicate zs.length 0).map vW).toArray=_
   rw[VX];exact List.toArray_replicate ..
  rw[e];exact qaQ (qaQ (qaQ (qrv _ _ (by simp only[World.size_alloc]) _) _) _) _
 have hbx:W0.cell? ⟨w.heap.size+4,0,none⟩=some (.slice sa zs.length cap):=by
  rw[← hW0];exact qaf (qrv _ _ (by simp only[World.size_alloc]) _) rfl
 refine wpIn_rangeFunc_ownG hro h1 (gf:=191) (lb:=#[.pointer (some ⟨w.heap.size+4,0,none⟩)]) rfl h7 (enters_of Tryz.func191 (by kernel_rfl) rfl)
  (qlg F (n-1) h7 hro (by omega) (w.heap.size+4) w.heap.size _ zs hz hreach W0 (by omega) (by omega) hbx (hI.below hB0)) Kb.trans
  (fun W l o o' hl ho hc _=>⟨belowK_b (w:=w) (zI _) W l o o' (by omega) ho hc (by assumption),World.putObj_heap_other (by omega)⟩) (Below.refl _ _) (fun _=>rfl)
  (fun pre W=>Inv w.heap.size b pre W∧Below w.heap.size w W)
  (fun _ _ _=>False)
  (OwnFrom.and ((Inv.own w.heap.size b zs.length).from _) (ownFrom_below (zI _) (by omega)))
  (fun _ _ _ _ _ hs _ _=>hs)
  ⟨hJ0,hB0⟩
  (fun x=>{ tmps:=#[.slice sa zs.length cap,.int .u32 (b:Int),undef,.pointer (some ⟨w.heap.size,0,none⟩),.slice none 0 0,.slice none 0 0,.pointer (some ⟨w.heap.size+2,0,none⟩),.pointer (some ⟨w.heap.size+3,0,none⟩),.int .i64 (x.1.1:Int),.int .u32 (x.1.2:Int),
    .slice sa zs.length cap,.int .i64 (zs.length:Int),.slice (some ⟨w.heap.size+1,0,none⟩) zs.length zs.length,.slice sa zs.length cap,.func (.func 191) #[] #[.pointer (some ⟨w.heap.size+4,0,none⟩)],.int .i64 (x.1.1:Int),.int .u32 (x.1.2:Int),
    undef,undef,undef,undef,undef,undef,undef,undef,undef,undef,undef,undef,undef,undef,undef,undef,undef,undef,undef,undef,undef],defers:=[] }) ?assign ?body ?done ?stop
 case assign=>
  intro l x W K hK;dsimp only[enW]
  gi_wp2
  exact hK
 case body=>
  rintro l pre ⟨⟨i,v⟩,hi,hv⟩ W ⟨hS,hB⟩ _
  dsimp only at hi hv;have c0:=qaf hS.h0 (i:=0) rfl
  have c2:=qaf hS.h2 (i:=0) rfl
  have c3:=qaf hS.h3 (i:=0) rfl
  have f3:=qmT (i:=0) hS.h3
  have f1:=qmT (i:=i) hS.h1
  have hr:=qrw hb0 pre;have hmx:Tryz.prog.follows .mixedOrders=true:=by kernel_rfl
  have hor:bits BinOp.or IntKind.u64 (((sf b pre).1:Int)*4294967296) (v:Int)=(((sf b pre).1*4294967296+v:Nat):Int):=qyX (by omega) hv
  gi_wp2
  obtain⟨r1,hr1⟩:∃r1:Nat,(sf b pre).1*4294967296+v=r1:=⟨_,rfl⟩
  have hr2:((sf b pre).1:Int)*4294967296+(v:Int)=(r1:Int):=by rw[← hr1];simp
  have hr3:r1<18446744073709551616:=by omega
  rw[hr2];clear hor hr2;obtain⟨W1,hW1⟩:∃W1,W.setCell { block:=w.heap.size+3,off:=0 } (Value.int IntKind.u64 (r1:Int))=W1:=⟨_,rfl⟩
  rw[hW1];have g0:W1.heap[w.heap.size]?=some (Obj.cells #[.int .u32 (b:Int)] 105 (0,0)):=by rw[← hW1,qdo (by simp)];exact hS.h0
  have g1:W1.heap[w.heap.size+1]?=some (Obj.cells ((sf b pre).2.map vW).toArray 105 (0,0)):=by rw[← hW1,qdo (by simp)];exact hS.h1
  have g2:W1.heap[w.heap.size+2]?=some (Obj.cells #[.slice (some ⟨w.heap.size+1,0,none⟩) zs.length zs.length] 37 (0,0)):=by rw[← hW1,qdo (by simp)];exact hS.h2
  have g3:W1.heap[w.heap.size+3]?=some (Obj.cells #[.int .u64 (r1:Int)] 22 (0,0)):=by rw[← hW1];exact qxA hS.h3
  have c0':=qaf g0 (i:=0) rfl
  have c2':=qaf g2 (i:=0) rfl
  have c3':=qaf g3 (i:=0) rfl
  have f3':=qmT (i:=0) g3
  have f1':=qmT (i:=i) g1
  have hb2 : ¬((b:Int)=0):=by omega
  have hb3 : ¬(b=0):=by omega
  have hsl:=qlh b pre;obtain⟨Qi,hQi⟩:∃Qi,(sf b pre).2[i]?=some Qi:=⟨_,zA (by omega)⟩
  have c1':W1.cell? ⟨w.heap.size+1,i,none⟩=some (.int .u32 (Qi:Int)):=qaf g1 (by rw[List.getElem?_toArray,Ku,hQi];rfl)
  have hwb:IntKind.u64.wrap (b:Int)=(b:Int):=qcf (by omega) (by omega)
  obtain⟨q,hq⟩:∃q,r1 / b=q:=⟨_,rfl⟩
  have hql:q≤r1:=by rw[← hq];exact VF _ _
  have hq1:IntKind.u64.wrap ((r1:Int) / (b:Int))=(q:Int):=by rw[← hq,← Int.natCast_ediv];exact qcf (by omega) (by omega)
  obtain⟨d,hd⟩:∃d,q % 4294967296=d:=⟨_,rfl⟩
  have hd1:IntKind.u32.wrap (q:Int)=(d:Int):=by rw[qfq,← hd];omega
  obtain⟨m,hm⟩:∃m,r1 % b=m:=⟨_,rfl⟩
  have hm1:(r1:Int) % (b:Int)=(m:Int):=by rw[← hm,Int.natCast_emod]
  have hm2:(r1:Int).tmod (b:Int)=(m:Int):=by rw[Wl (by omega)];exact hm1
  have hst:Hid (stp b (sf b pre) (⟨(i,v),hi,hv⟩:Wo zs.length)=(m,(sf b pre).2.set i d)):=by
   show(((sf b pre).1*4294967296+v) % b,(sf b pre).2.set i (((sf b pre).1*4294967296+v) / b % 4294967296))=_
   rw[hr1,hm,hq,hd]
  clear hq hd hm
  gi_region_o
  all_goals gi_wp2
  all_goals exact qry (hi:=hi) (hv:=hv) hW1 hS.h3 g0 g1 g2 g3 hst hB hsz
 case done=>
  rintro D ys W hD hA ⟨hS,hB⟩ hK
  gi_wp2
  exact hdone D ys W _ (by assumption) (by omega) hA hS hB hK
 case stop=>
  rintro D c pre W _ _ h _
  exact h.elim
end Go.Proofs.Sho
end
section
namespace Su
noncomputable section
open Go Go.Proofs Fly
set_option maxRecDepth 100000
def qjT:PrimD:=prim (d1 (cI .u64)) (dc cB (dc (cI .i64) (d1 (cI .u64)))) (qjw)
theorem qrA:OkT 58 qjT:=Q0 yI qhN (fun a=>qk6 a) (by kernel_rfl) (fun _ _=>by kernel_rfl) qn8
def qmV:PrimD:=prim (dc cB (dc (cI .i64) (d1 (cI .u64)))) (dc (cI .u64) (d1 (cI .i64))) (Zq)
theorem quF:OkT 69 qmV:=Q0 yI qhN (fun a=>qqv a.1 a.2.1 a.2.2) (by kernel_rfl) (fun _ _=>by kernel_rfl) qqw
def qrB:jl:=Ql [(58,qjT),(69,qmV)] noPr
theorem qcP:PkT qrB:=jc qhN (qQ qrA (qQ quF jx))
end
end Su
end
section
namespace Su
noncomputable section
open Go Go.Proofs Fly
set_option maxRecDepth 100000
def qjU:PrimD:=prim (d1 (cI .u64)) (d1 (cI .u8)) (qjx)
theorem qrC:OkT 16 qjU:=Q0 yI qcP (fun a=>qk7 a) (by kernel_rfl) (fun _ _=>by kernel_rfl) qn9
def qrD:PrimD:=prim (d1 cB) (d1 (cI .u64)) (qqx)
theorem qxC:OkT 26 qrD:=Q0 yI qcP (fun a=>pInf a) (by kernel_rfl) (fun _ _=>by kernel_rfl) qtZ
def qrE:jl:=Ql [(16,qjU),(26,qrD)] qrB
theorem qcQ:PkT qrE:=jc qcP (qQ qrC (qQ qxC jx))
end
end Su
end
section
namespace Su
noncomputable section
open Go Go.Proofs Fly
set_option maxRecDepth 100000
def qjV:PrimD:=prim (d1 (cI .u64)) (dc (cI .u64) (d1 (cI .i64))) (qjy)
theorem qrF:OkT 103 qjV:=Q0 yI qcQ (fun a=>qk8 a) (by kernel_rfl) (fun _ _=>by kernel_rfl) qoa
def qrG:PrimD:=prim (d1 (cI .u64)) (d1 cB) (qqy)
theorem qxD:OkT 61 qrG:=Q0 yI qcQ (fun a=>qwZ a) (by kernel_rfl) (fun _ _=>by kernel_rfl) qt0
def qrH:jl:=Ql [(103,qjV),(61,qrG)] qrE
theorem qgJ:PkT qrH:=jc qcQ (qQ qrF (qQ qxD jx))
end
end Su
end
section
namespace Su
noncomputable section
open Go Go.Proofs Fly
set_option maxRecDepth 100000
def qrI:PrimD:=prim (d1 (cI .u64)) (d1 (cI .u64)) (qqz)
theorem qxE:OkT 18 qrI:=Q0 yI qgJ (fun a=>qw0 a) (by kernel_rfl) (fun _ _=>by kernel_rfl) qt1
def qrJ:jl:=Ql [(18,qrI)] qrH
theorem qgK:PkT qrJ:=jc qgJ (qQ qxE jx)
end
end Su
end
section
namespace Su
noncomputable section
open Go Go.Proofs Fly
set_option maxRecDepth 100000
def At_p:PrimD:=prim (dc (cQ 1 1) (d1 (cI .i64))) (d1 (cI .u64)) (fun a=>At a.1 a.2)
theorem At_c:OkT 113 At_p:=fnL yI qgK (by kernel_rfl) (fun _ _=>by kernel_rfl)
def qrK:jl:=Ql [(113,At_p)] qrJ
theorem qgL:PkT qrK:=jc qgK (qQ At_c jx)
end
end Su
end
section
namespace Su
noncomputable section
open Go Go.Proofs Fly
set_option maxRecDepth 100000
def qrL:PrimD:=prim (d1 (cQ 1 1)) (d1 (cQ 1 1)) (qhY)
theorem qrM:OkT 67 qrL:=YA yI qgL (fun fu a=>qw1 fu a) (by kernel_rfl) (fun _ _=>by kernel_rfl) qt2
def qrN:jl:=Ql [(67,qrL)] qrK
theorem Y7:PkT qrN:=jc qgL (qQ qrM jx)
end
end Su
end
section
namespace Su
noncomputable section
open Go Go.Proofs Fly
set_option maxRecDepth 100000
def qvC:PrimD:=prim (dc (cQ 1 1) (d1 (cQ 1 1))) (d1 (cQ 1 1)) (qgA)
theorem qyY:OkT 62 qvC:=YA yI Y7 (fun fu a=>Add fu a.1 a.2) (by kernel_rfl) (fun _ _=>by kernel_rfl) qw2
def qvD:PrimD:=prim (dc (cQ 1 1) (d1 (cQ 1 1))) (d1 (cI .i64)) (qvr)
theorem qyZ:OkT 105 qvD:=YA yI Y7 (fun fu a=>Cmp fu a.1 a.2) (by kernel_rfl) (fun _ _=>by kernel_rfl) qw3
def qvE:PrimD:=prim (d1 (cI .u64)) (d1 (cQ 1 1)) (fun a=>New a)
theorem qvF:OkT 22 qvE:=fnL yI Y7 (by kernel_rfl) (fun _ _=>by kernel_rfl)
def qmW:PrimD:=prim (d1 (cI .u32)) (d1 (cI .i64)) (fun a=>qjB a)
theorem quG:OkT 121 qmW:=fnL yI Y7 (by kernel_rfl) (fun _ _=>by kernel_rfl)
def qrO:jl:=Ql [(62,qvC),(105,qvD),(22,qvE),(121,qmW)] qrN
theorem qaG:PkT qrO:=jc Y7 (qQ qyY (qQ qyZ (qQ qvF (qQ quG jx))))
end
end Su
end
section
namespace Su
noncomputable section
open Go Go.Proofs Fly
set_option maxRecDepth 100000
def qvG:PrimD:=prim (d1 (cQ 1 1)) (d1 (cI .i64)) (fun a=>Len a)
theorem qy0:OkT 63 qvG:=fnL yI qaG (by kernel_rfl) (fun _ _=>by kernel_rfl)
def qvH:PrimD:=prim (dc (cQ 1 1) (d1 (cI .i64))) (d1 (cI .u64)) (fun a=>Bit a.1 a.2)
theorem qy1:OkT 110 qvH:=fnL yI qaG (by kernel_rfl) (fun _ _=>by kernel_rfl)
def qvI:PrimD:=prim (dc (cQ 1 1) (d1 (cQ 1 1))) (d1 (cQ 1 1)) (Qo)
theorem qy2:OkT 24 qvI:=YA yI qaG (fun fu a=>Mul fu a.1 a.2) (by kernel_rfl) (fun _ _=>by kernel_rfl) qw4
def qrP:jl:=Ql [(63,qvG),(110,qvH),(24,qvI)] qrO
theorem qgM:PkT qrP:=jc qaG (qQ qy0 (qQ qy1 (qQ qy2 jx)))
end
end Su
end
section
namespace Su
noncomputable section
open Go Go.Proofs Fly
set_option maxRecDepth 100000
def qrQ:PrimD:=prim (d1 (cQ 1 1)) (dc (cI .u64) (d1 cB)) (fun a=>qt3 a)
theorem qxF:OkT 109 qrQ:=fnL yI qgM (by kernel_rfl) (fun _ _=>by kernel_rfl)
def qrR:jl:=Ql [(109,qrQ)] qrP
theorem qcR:PkT qrR:=jc qgM (qQ qxF jx)
end
end Su
end
section
namespace Su
noncomputable section
open Go Go.Proofs Fly
set_option maxRecDepth 100000
def qvJ:PrimD:=prim (dc (cQ 1 1) (d1 (cI .i64))) (d1 (cQ 1 1)) (qvs)
theorem qy3:OkT 161 qvJ:=YA yI qcR (fun fu a=>Shr fu a.1 a.2) (by kernel_rfl) (fun _ _=>by kernel_rfl) qw5
def qvK:PrimD:=prim (dc (cQ 1 1) (d1 (cI .i64))) (dc (cQ 1 1) (d1 (cI .i64))) (qfc)
theorem qy4:OkT 104 qvK:=YA yI qcR (fun fu a=>Shl fu a.1 a.2) (by kernel_rfl) (fun _ _=>by kernel_rfl) qw7
def qrS:jl:=Ql [(161,qvJ),(104,qvK)] qrR
theorem qoo:PkT qrS:=jc qcR (qQ qy3 (qQ qy4 jx))
end
end Su
end
section
namespace Su
open Go Go.Proofs Fly
set_option maxRecDepth 100000
noncomputable def qrT:jl:=Ql [] qrS
theorem qop:PkT qrT:=jc qoo jx
end Su
end
section
namespace Go.Proofs.Sho
open Go Go.RowKit Go.Shelf Go.Proofs Fly Su
attribute [local go_sem] Oper.semAt_some
abbrev HX(V:qc)(w:World)(V':qc)(W:World):Prop:=Holds ⟨fun _=>False,w,V,fun _ _ _=>False⟩ V' [] W
theorem HX.trans{V V1 V2:qc}{w W W2:World}{G:Fly.Own}(h:HX V w V1 W)(k:Holds ⟨fun _=>False,W,V1,fun _ _ _=>False⟩ V2 G W2):HX V w V2 W2 :=
 ⟨h.ext.trans k.ext,k.view,(fun _ hp=>(KS hp).elim),(fun _ hp=>(KS hp).elim),.nil,h.sub.trans k.sub,fun r h1 h2=>by
   by_cases h3:V1 r=none
   · rcases k.newer r h3 h2 with h4|h4
     · exact .inl (KF h.ext.size h4)
     · exact h4.elim
   · exact h.newer r h1 h3⟩
theorem HX.drew{V V1:qc}{w W:World}(h:HX V w V1 W):HX V w V1 W.drew :=
 ⟨⟨h.ext.os,h.ext.tape,h.ext.output,h.ext.size,h.ext.block⟩,h.view,(fun _ hp=>(KS hp).elim),(fun _ hp=>(KS hp).elim),.nil,h.sub,h.newer⟩
theorem HX.add{V:qc}{w W:World}{B:Nat}{o:Obj}(hs:qaS V w)(hb:Below w.heap.size w W)(hB:w.heap.size≤B)(ho:W.heap[B]?=some o):HX V w (addV V B o) W:=by
 have hlt:∀r o,V r=some o→r<w.heap.size:=fun r o h=>(zX.1 (hs r o h)).1
 have hn:V B=none:=by
  cases h:V B with
  | none=>rfl
  | some o=>have:=hlt _ _ h;omega
 refine⟨⟨hb.os,hb.tape,hb.output,hb.size,fun k hk _=>hb.block k hk⟩,fun r u hr=>?_,(fun _ hp=>(KS hp).elim),(fun _ hp=>(KS hp).elim),.nil,Fly.Sub.addV hn,fun r h1 h2=>?_⟩
 · unfold addV at hr
   by_cases e:r=B
   · rw[z6 e]at hr;subst e;rw[ho];exact hr
   · rw[zQ e]at hr;exact(hb.block r (hlt _ _ hr)).trans (hs r u hr)
 · unfold addV at h2
   by_cases e:r=B
   · exact .inl (by show w.heap.size≤r;omega)
   · rw[zQ e]at h2;exact absurd h1 h2
theorem quH(r:Nat)(h:r<18446744073709551616):New (r:Int)=some (ofN r):=by
 have e1:IntKind.u32.wrap (r:Int)=((r % 4294967296:Nat):Int):=by rw[Su.wrap_u32];omega
 have e2:Int.fdiv (r:Int) (2^32)=((r / 4294967296:Nat):Int):=by
  have:=Zu r 32;rwa [show(2:Nat)^32=4294967296 from rfl]at this
 have e3:IntKind.u32.wrap ((r / 4294967296:Nat):Int)=((r / 4294967296:Nat):Int):=Su.qjj (by omega) (by omega)
 unfold New;rw[e1,e2,e3];simp only[qk,zn]
 congr 2;omega
theorem qli{V:qc}{W:World}{v:Value}{a:List Int}(hgk:GOK Su.tb V)(hs:qaS V W)(hr:Rep V (.ql 1 1 a) v):Calls Tryz.prog 67 #[v] W fun e W'=>∃v' V',e = .returned v'∧HX V W V' W'∧Rep V' (.ql 1 1 (ofN (qk a))) v':=by
 have h:∀xs y,((d1 (cQ 1 1)).dec xs).bind qhY=some y→∀V vs,GOK Su.tb V→RepA V xs vs→jk Tryz.prog 67 vs.toArray V [] fun v V' _=>∃rvs,RepA V' ((d1 (cQ 1 1)).enc y) rvs∧v=YJ rvs:=qrM.2.1
 have h2:((d1 (cQ 1 1)).dec [T.ql 1 1 a]).bind qhY=some (ofN (qk a)):=by
  rw[show(d1 (cQ 1 1)).dec [T.ql 1 1 a]=some a from(d1 (cQ 1 1)).de a];rfl
 refine(h _ _ h2 V [v] hgk (.cons hr .nil) W hs (fun _ hp=>(KS hp).elim) (fun _ hp=>(KS hp).elim) .nil).mono ?_
 rintro e W' ⟨v',V',G',rfl,hh,rvs,m1,rfl⟩
 cases m1 with|cons k1 k2=>cases k2 with|nil=>
 exact⟨_,V',rfl,⟨⟨hh.ext.os,hh.ext.tape,hh.ext.output,hh.ext.size,fun k hk _=>hh.ext.block k hk (by simp[keys])⟩,hh.view,(fun _ hp=>(KS hp).elim),(fun _ hp=>(KS hp).elim),.nil,hh.sub,fun r h1 h2=>(hh.newer r h1 h2).imp id (fun hm=>by simp[keys]at hm)⟩,k1⟩
theorem qoq{V:qc}{W:World}{r:Nat}(hgk:GOK Su.tb V)(hl:r<18446744073709551616)(hs:qaS V W):Calls Tryz.prog 22 #[.int .u64 (r:Int)] W fun e W'=>∃v' V',e = .returned v'∧HX V W V' W'∧Rep V' (.ql 1 1 (ofN r)) v':=by
 have h:∀xs y,((d1 (cI .u64)).dec xs).bind (fun a=>New a)=some y→∀V vs,GOK Su.tb V→RepA V xs vs→jk Tryz.prog 22 vs.toArray V [] fun v V' _=>∃rvs,RepA V' ((d1 (cQ 1 1)).enc y) rvs∧v=YJ rvs:=qvF.2.1
 have h2:((d1 (cI .u64)).dec [T.s (.int .u64 (r:Int))]).bind (fun a=>New a)=some (ofN r):=by
  rw[show(d1 (cI .u64)).dec [T.s (.int .u64 (r:Int))]=some (r:Int) from(d1 (cI .u64)).de (r:Int)];exact quH r hl
 refine(h _ _ h2 V [.int .u64 (r:Int)] hgk (.cons (.s (by show inR .u64 (r:Int)=true;exact qdI.2 ⟨by omega,by omega⟩)) .nil) W hs (fun _ hp=>(KS hp).elim) (fun _ hp=>(KS hp).elim) .nil).mono ?_
 rintro e W' ⟨v',V',G',rfl,hh,rvs,m1,rfl⟩
 cases m1 with|cons k1 k2=>cases k2 with|nil=>
 exact⟨_,V',rfl,⟨⟨hh.ext.os,hh.ext.tape,hh.ext.output,hh.ext.size,fun k hk _=>hh.ext.block k hk (by simp[keys])⟩,hh.view,(fun _ hp=>(KS hp).elim),(fun _ hp=>(KS hp).elim),.nil,hh.sub,fun r h1 h2=>(hh.newer r h1 h2).imp id (fun hm=>by simp[keys]at hm)⟩,k1⟩
def wI(qs:List Nat):List Int:=qs.map fun z=>((z:Nat):Int)
theorem qgN(qs:List Nat):(wI qs).length=qs.length:=zV ..
theorem qxG(qs:List Nat):(List.map (α:=U 1) (view 1) (wI qs)).length=qs.length:=(zV (α:=U 1) ..).trans (qgN qs)
theorem qcg:∀qs:List Nat,(List.map (α:=U 1) (view 1) (wI qs)).flatMap T.cells=qs.map fun z=>T.s (vW z)
 | []=>rfl
 | x::l=>by
  show T.s (vW x)::(List.map (α:=U 1) (view 1) (wI l)).flatMap T.cells=_
  rw[qcg l];rfl
theorem qrU:∀(qs:List Nat) (x:T),x∈List.map (α:=U 1) (view 1) (wI qs)→x.cells.length=1
 | [],x,h=>by cases h
 | y::l,x,h=>by
  rcases zK.1 (show x∈view 1 ((y:Nat):Int)::List.map (α:=U 1) (view 1) (wI l) from h)with rfl|h
  · rfl
  · exact qrU l x h
theorem qor{V:qc}{B off:Nat}{qs:List Nat}{len cap:Nat}(h:∀(j:Nat) (c:Value),(qs.map vW)[j]?=some c→rd V B (off+j) c)(hqw:∀z∈qs,z<4294967296)(hql:qs.length=len)(hlen:len≤cap)(hcap:cap≤maxLen) :
 Rep V (.ql 1 1 (wI qs)) (.slice (some ⟨B,off,none⟩) len cap):=by
 have hw:∀l:List Nat,(∀z∈l,z<4294967296)→RepA V (l.map fun z=>T.s (vW z)) (l.map vW):=by
  intro l;induction l with
  | nil=>exact fun _=>.nil
  | cons x l ih=>
   intro hx;have hx0:=hx x (zM ..)
   exact .cons (.s (show inR .u32 (x:Int)=true from qdJ.2 ⟨by omega,by omega⟩)) (ih fun z hz=>hx z (zE _ hz))
 have hl:=qxG qs;have h2:=Rep.sl (V:=V) (k:=1) (l:=List.map (α:=U 1) (view 1) (wI qs)) (vs:=qs.map vW) (a:=some ⟨B,off,none⟩) (cap:=cap) (by rw[qcg];exact hw qs hqw)
  (by rw[qcg];intro x hx;obtain⟨z,_,rfl⟩:=KJ.1 hx;rfl) (qrU qs) (by omega) hcap (.inr ⟨B,off,rfl,h⟩)
 rw[hl,hql]at h2;exact .ql h2
set_option maxRecDepth 100000 in
set_option maxHeartbeats 4000000 in
theorem quI{V:qc}{w W:World}{B D b len cap rr:Nat}{sa:Option Addr}{qs:List Nat}{Q:Ending→World→Prop}{Kc:Act→World→Prop}(hgk:GOK Su.tb V)(hs:qaS V w)(hB:Below w.heap.size w W)(hBw:w.heap.size≤B)(hDB:B+5≤D)
 (g1:W.heap[B+1]?=some (Obj.cells (qs.map vW).toArray 105 (0,0))) (hql:qs.length=len) (hqw:∀z∈qs,z<4294967296) (hlen:len≤549755813888) (g2:W.heap[B+2]?=some (Obj.cells #[.slice (some ⟨B+1,0,none⟩) len len] 37 (0,0)))
 (g3:W.heap[B+3]?=some (Obj.cells #[.int .u64 (rr:Int)] 22 (0,0))) (hrr:rr<18446744073709551616) (hD:W.heap[D]?=some (.deferred (some [])))
 (hK:∀a w',Code.wpIn Fence.wide 3 Tryz.prog Code.ret (bodyPostM Fence.wide 3 Tryz.prog Tryz.f112 Q) a w'→Kc a w')
 (hQ:∀v1 v2 V1 V2 W2,HX V w V1 W2→Rep V1 (.ql 1 1 (ofN (qk (wI qs)))) v1→Rep V1 (.ql 1 1 (ofN rr)) v2→W2.heap[D]?=some (.deferred (some []))→V2=V1→Q (.returned (.tuple #[v1,v2])) (W2.putObj D (.deferred none))) :
 Code.wpIn Fence.wide 3 Tryz.prog qrx (Exit.then Kc (bodyPostM Fence.wide 3 Tryz.prog Tryz.f112 Q)) (qxB B D b sa len cap) W:=by
 have hx0:HX V w (addV V (B+1) (Obj.cells (qs.map vW).toArray 105 (0,0))) W:=HX.add hs hB (by omega) g1
 have hrep:Rep (addV V (B+1) (Obj.cells (qs.map vW).toArray 105 (0,0))) (.ql 1 1 (wI qs)) (.slice (some ⟨B+1,0,none⟩) len len):=qor (fun j c hj=>⟨_,_,_,by unfold addV;rw[z6 rfl],by rw[List.getElem?_toArray,zt];exact hj⟩) hqw hql (zI _) (by simp[maxLen];omega)
 obtain⟨V0,hV0⟩:∃V0,addV V (B+1) (Obj.cells (qs.map vW).toArray 105 (0,0))=V0:=⟨_,rfl⟩
 rw[hV0]at hx0 hrep;have c2:=qaf g2 (i:=0) rfl
 have c3:=qaf g3 (i:=0) rfl
 unfold qrx qxB;have hmx:Tryz.prog.follows .mixedOrders=true:=by kernel_rfl
 refine Code.wpIn_mono (Q:=Exit.then Kc (fun _ _ _=>False)) (fun e a w h=>by cases e <;> first|exact h|exact h.elim) ?_
 gi_region_with_o (first
  | (refine⟨trivial,?_⟩;gi_at_call 67;refine(callsIn_wide.2 (qli (V:=V0) (W:=W.drew) (hgk.mono hx0.sub) hx0.view hrep)).mono ?_;rintro e w1 ⟨v1,V1,rfl,hx1,hr1⟩;have c3':=(hx1.ext.below.cell (p:=⟨B+3,0,none⟩) (zX.1 g3).1).trans c3)
  | (refine⟨trivial,?_⟩;gi_at_call 22;refine(callsIn_wide.2 (qoq (V:=V1) (W:=w1) ((hgk.mono hx0.sub).mono hx1.sub) hrr hx1.view)).mono ?_;rintro e w2 ⟨v2,V2,rfl,hx2,hr2⟩))
 all_goals (
  refine hK _ _ ?_
  have hD1:w1.heap[D]?=some (.deferred (some [])):=(hx1.ext.block D (zX.1 hD).1 (fun h=>h)).trans hD
  have hD2:w2.heap[D]?=some (.deferred (some [])):=(hx2.ext.block D (zX.1 hD1).1 (fun h=>h)).trans hD1
  gi_wp2
  refine⟨by simp,.inl ⟨_,_,rfl,run_takeDeferred hD2,?_⟩⟩
  refine⟨_,results_tmp2 (t:=4) (u:=5) rfl _ _ _,hQ v1 v2 V2 V2 w2 ((hx0.drew.trans hx1).trans hx2) (Rep.mono hx2.sub hr1) hr2 hD2 rfl⟩)
theorem qy5{b:Nat}{len:Nat}(pre:List (Wo len)):∀z∈(sf b pre).2,z<4294967296:=by
 have:∀(l:List (Wo len)) (s:Nat×List Nat),(∀z∈s.2,z<4294967296)→∀z∈(l.foldl (stp b) s).2,z<4294967296:=by
  intro l;induction l with
  | nil=>exact fun s h=>h
  | cons x l ih=>
   refine fun s h=>ih _ fun z hz=>?_
   rcases Wt hz with hz|rfl
   · exact h z hz
   · exact Vd _ (by omega)
 exact this pre _ fun z hz=>by rw[(Vc.1 hz).2];omega
theorem qxH(qs:List Nat)(j:Nat):nth (wI qs) j=((qs[j]?.getD 0:Nat):Int):=by
 unfold nth;have:(wI qs)[j]?=(qs[j]?).map fun z=>((z:Nat):Int):=Ku ..
 rw[this];cases qs[j]? <;> rfl
theorem qxI(qs:List Nat)(j y:Nat):wI (qs.set j y)=List.set (wI qs) j ((y:Nat):Int):=WF ..
theorem quJ(zs:List Nat)(m:Nat)(h:m<zs.length):qk (wI (zs.drop m))=zs[m]?.getD 0+4294967296*qk (wI (zs.drop (m+1))):=by
 rw[Kj h,zA h];show qk (((zs[m]:Nat):Int)::wI (zs.drop (m+1)))=_
 rw[qk,zn];rfl
theorem qmX{zs:List Nat}(hz:∀z∈zs,z<4294967296)(h0:0<zs.length){b:Nat}(hb:0<b):∀k,k≤zs.length →
 (sf b (ZK hz h0 k)).1=qk (wI (zs.drop (zs.length-k))) % b∧qk (wI (sf b (ZK hz h0 k)).2)=qk (wI (zs.drop (zs.length-k))) / b*4294967296^(zs.length-k)∧∀j,j<zs.length-k→(sf b (ZK hz h0 k)).2[j]?.getD 0=0
 | 0,_=>by
  have e:sf b (ZK hz h0 0)=(0,List.replicate zs.length 0):=rfl
  have ev:qk (wI ([]:List Nat))=0:=rfl
  have ez:wI (List.replicate zs.length 0)=List.replicate zs.length 0:=VX ..
  rw[e,Vz,List.drop_length,ev];refine⟨(Nat.zero_mod b).symm,?_,fun j hj=>?_⟩
  · show qk (wI (List.replicate zs.length 0))=_
    rw[ez,Zt,Nat.zero_div,Ve]
  · show(List.replicate zs.length 0)[j]?.getD 0=0
    rw[K9];split <;> rfl
 | k+1,hk=>by
  obtain⟨i1,i2,i3⟩:=qmX hz h0 hb k (by omega)
  obtain⟨m,hm⟩:∃m,m=zs.length-1-k:=⟨_,rfl⟩
  have e1:zs.length-k=m+1:=by omega
  have e2:zs.length-(k+1)=m:=by omega
  rw[e1]at i1 i2 i3;rw[e2,qgG,qh9];have hml:m<zs.length:=by omega
  have hq:=i3 m (by omega)
  have hlen:=qlh b (ZK hz h0 k)
  have hlt:=qrw hb (ZK hz h0 k)
  generalize sf b (ZK hz h0 k)=s at *
  obtain⟨R,Q⟩:=s;simp only at i1 i2 i3 hq hlen hlt;have hx:=qce hz m;have hA:=quJ zs m hml;simp only[← hm];show(R*4294967296+zs[m]?.getD 0) % b=_∧qk (wI (Q.set m ((R*4294967296+zs[m]?.getD 0) / b % 4294967296)))=_∧∀j,j<m→(Q.set m ((R*4294967296+zs[m]?.getD 0) / b % 4294967296))[j]?.getD 0=0
  generalize zs[m]?.getD 0=x at *
  generalize hA0:qk (wI (zs.drop (m+1)))=A at *
  rw[hA];have hdiv:=Vb A b;have hr1:x+4294967296*A=b*(4294967296*(A / b))+(R*4294967296+x):=by
   rw[i1];generalize A / b=p at *
   generalize A % b=t at *
   rw[← hdiv];grind
  have hr1b:(R*4294967296+x) / b<4294967296:=by
   rw[KG hb];have:=zG 4294967296 (show R+1≤b by omega)
   rw[zL 4294967296 b];omega
  rw[hr1];refine⟨?_,?_,fun j hj=>?_⟩
  · rw[Nat.mul_add_mod]
  · rw[KT hr1b,Nat.mul_add_div hb,qxI]
    have hs:=Z6 (wI Q) m (((R*4294967296+x) / b:Nat):Int) (by rw[qgN];omega)
    rw[qxH,hq,zn,i2,Ke]at hs;generalize (R*4294967296+x) / b=d at *
    generalize A / b=p at *
    generalize 4294967296^m=P at *
    have hs:qk (List.set (wI Q) m (d:Int))+P*0=p*(P*4294967296)+P*d:=hs
    rw[VE,KQ]at hs;rw[hs];grind
  · rw[Kh (by omega)];exact i3 j (by omega)
theorem qxJ{zs:List Nat}(hz:∀z∈zs,z<4294967296){b:Nat}(hb:0<b){ys:List (Wo zs.length)}(h:All hz ys):(sf b ys).1=qk (wI zs) % b∧qk (wI (sf b ys).2)=qk (wI zs) / b:=by
 rcases h with⟨rfl,h0⟩|⟨hl,rfl⟩
 · have:zs=[]:=Va h0
   subst this;exact⟨(Nat.zero_mod b).symm,(Nat.zero_div b).symm⟩
 · obtain⟨h1,h2,_⟩:=qmX hz hl hb zs.length (zI _)
   rw[Ww,Vm]at h1 h2;rw[Vf,KK]at h2;exact⟨h1,h2⟩
theorem qmY{V V':qc}:∀ {l:List T} {vs:List Value},(∀x∈l,∃v,x=T.s v)→RepA V l vs→RepA V' l vs
 | [],vs,_,h=>by cases h;exact .nil
 | x::l,vs,h,hr=>by
  cases hr with|cons h1 h2=>
  obtain⟨v,rfl⟩:=h x (zM ..)
  cases h1 with|s h1=>exact .cons (.s h1) (qmY (fun y hy=>h y (zE _ hy)) h2)
theorem qjW:∀(l:List (U 1)) (x:T),x∈(l.map (view 1)).flatMap T.cells→∃v,x=T.s v
 | [],x,h=>by cases h
 | y::l,x,h=>by
  rcases zK.1 (show x∈T.s (.int .u32 y)::(l.map (view 1)).flatMap T.cells from h)with rfl|h
  · exact⟨_,rfl⟩
  · exact qjW l x h
def qgO(V:qc)(D:Nat):qc:=fun r=>if r=D then none else V r
theorem qjX{V:qc}{D:Nat}{l:List (U 1)}{v:Value}(hD:∀arr e fr,V D≠some (.cells arr e fr))(h:Rep V (.ql 1 1 l) v):Rep (qgO V D) (.ql 1 1 l) v:=by
 cases h with|ql h=>
 cases h with|sl a1 a2 a3 a4 a5 a6=>
 refine .ql (.sl (qmY (qjW l) a1) a2 a3 a4 a5 (a6.imp id ?_))
 rintro⟨b,off,e,h⟩
 refine⟨b,off,e,fun j c hj=>?_⟩
 obtain⟨arr,e,fr,h1,h2⟩:=h j c hj;refine⟨arr,e,fr,?_,h2⟩
 unfold qgO;rw[zQ (fun e2=>by subst e2;exact hD _ _ _ h1)];exact h1
theorem quK{a:List Int}(h:Wd a):wI (a.map Int.toNat)=a:=by
 induction a with
 | nil=>rfl
 | cons x l ih=>
  have hx:=h.head;show((x.toNat:Nat):Int)::wI (l.map Int.toNat)=_
  rw[ih h.tail];congr 1;omega
theorem short_fing{V:qc}{a:List Int}{b:Nat}{v:Value}(hgk:GOK Su.tb V)(ha:Wd a)(hb0:0<b)(hb1:b<4294967296)(hlen:a.length≤549755813888)(hr:Rep V (.ql 1 1 a) v) :
 jk Tryz.prog 112 #[v,.int .u32 (b:Int)] V [] fun v V' _=>∃rvs,RepA V' [.ql 1 1 (ofN (qk a / b)),.ql 1 1 (ofN (qk a % b))] rvs∧v=YJ rvs:=by
 intro w hs _ _ _;obtain⟨zs,hzs⟩:∃zs,a.map Int.toNat=zs:=⟨_,rfl⟩
 have hzl:zs.length=a.length:=by rw[← hzs,zV]
 have hz:∀z∈zs,z<4294967296:=by
  intro z hz;rw[← hzs]at hz;obtain⟨x,hx,rfl⟩:=KJ.1 hz;have:=ha x hx;omega
 have hwz:wI zs=a:=by rw[← hzs];exact quK ha
 have hW:∃sa cap,v = .slice sa zs.length cap∧qgI w.heap.size w (.slice sa zs.length cap) zs:=by
  cases hr with|ql hr=>
  cases hr with|@sl _ _ vs ad cap a1 a2 a3 a4 a5 a6=>
  have hl:(List.map (α:=U 1) (view 1) a).length=zs.length:=by rw[hzl];exact zV ..
  refine⟨ad,cap,by rw[hl],?_⟩
  rcases a6 with a6|⟨b2,off,rfl,a6⟩
  · have:zs.length=0:=by rw[← hl,a6];rfl
    exact .inl ⟨Va this,ad,cap,by rw[this]⟩
  · by_cases h0:zs.length=0
    · exact .inl ⟨Va h0,_,cap,by rw[h0]⟩
    have hvs:vs=zs.map vW:=by
     have e:=qcg zs;rw[hwz]at e;rw[e]at a1;clear e a6 hl hzs hzl hwz h0;induction zs generalizing vs with
     | nil=>cases a1;rfl
     | cons x l ih=>
      cases a1 with|cons k1 k2=>
      cases k1 with|s k1=>
      rw[KH,ih (fun z hz2=>hz z (zE _ hz2)) k2]
    have hrd:∀j,j<zs.length→rd V b2 (off+j) (vW (zs[j]?.getD 0)):=fun j hj=>a6 j _ (by rw[hvs,Ku,zA hj];rfl)
    refine .inr ⟨b2,off,cap,rfl,?_,fun j hj=>?_⟩
    · obtain⟨arr,e,fr,h1,_⟩:=hrd 0 (by omega)
      exact(zX.1 (hs _ _ h1)).1
    · obtain⟨arr,e,fr,h1,h2⟩:=hrd j hj
      exact qaf (hs _ _ h1) h2
 obtain⟨sa,cap,rfl,hI⟩:=hW;refine callsIn_wide.1 (qrz Fence.wide 3 trivial trivial trivial rfl (zI _) sa cap b hb0 hb1 zs hz (by omega) w hI ?_)
 intro D ys W Kc hK hD hA hInv hB hDh;have hlt:=qrw hb0 ys;obtain⟨m1,m2⟩:=qxJ hz hb0 hA;rw[hwz]at m1 m2;refine quI hgk hs hB (zI _) hD hInv.h1 (qlh b ys) (qy5 ys) (by omega) hInv.h2 hInv.h3 (by omega) hDh hK ?_
 rintro v1 v2 V1 V2 W2 hx r1 r2 hD2 _
 rw[m2]at r1;rw[m1]at r2;have hnD:∀arr e fr,V1 D≠some (.cells arr e fr):=fun arr e fr h=>by
  have:=hx.view D _ h
  rw[hD2]at this;cases this
 have hoth:∀r,r≠D→(W2.putObj D (.deferred none)).heap[r]?=W2.heap[r]?:=fun r hr=>World.putObj_heap_other hr
 refine⟨_,qgO V1 D,[],rfl,⟨⟨hx.ext.os,hx.ext.tape,hx.ext.output,by have:=hx.ext.size;simpa using this,fun k hk _=>(hoth k (by have:k<w.heap.size:=hk;omega)).trans (hx.ext.block k hk (fun h=>h))⟩,
  fun r o hr=>?_,(fun _ hp=>(KS hp).elim),(fun _ hp=>(KS hp).elim),.nil,fun r o hr=>?_,fun r h1 h2=>?_⟩,[v1,v2],.cons (qjX hnD r1) (.cons (qjX hnD r2) .nil),rfl⟩
 · unfold qgO at hr
   by_cases e:r=D
   · rw[z6 e]at hr;cases hr
   · rw[zQ e]at hr;exact(hoth r e).trans (hx.view r o hr)
 · have hlt2:r<w.heap.size:=(zX.1 (hs r o hr)).1
   unfold qgO;rw[zQ (by omega)];exact hx.sub r o hr
 · unfold qgO at h2
   by_cases e:r=D
   · rw[z6 e]at h2;exact absurd rfl h2
   · rw[zQ e]at h2
     exact(hx.newer r h1 h2).imp id False.elim
end Go.Proofs.Sho
end
section
namespace Fly
open Go Go.Proofs Su
set_option maxRecDepth 10000
noncomputable def tbN:Tabs Tryz.prog:=Su.qme.sound.tb
section
variable {P:Program} {n:Nat} {X:Cx} {L:Lo} {V:qc} {G:Own} {Q:Value→qc→Own→Prop}
variable {ty:TypeId} {pos:String} {af:Array Edge} {gd:Option (Nat×Bool)} {ds:Option Tmp}
theorem qia{t e:TypeId}{a:Option Addr}{len cap:Nat}(hu:P.underlying t=some (.slice e))(w:World):(Op.equal t (.slice a len cap) (.slice none 0 0)).run P w = .ok a.isNone w:=by
 show(Op.equalIn (9999+1) t (.slice a len cap) (.slice none 0 0)).run P w=_
 unfold Op.equalIn;rw[Sem.run_bind,Fly.run_underlying hu];cases a <;> rfl
theorem qfr{t u e:TypeId}{x y:Operand}{a:Option Addr}{len cap:Nat}(hx:ev L x=some (.slice a len cap))(hy:ev L y=some (.slice none 0 0))(hu:P.underlying t=some (.slice e))(k:Q (.bool a.isNone) V G) :
 Opr P n X L V G ⟨ds,.binOp .eql t x y u,ty,pos,af,gd⟩ Q:=qhc hx hy rfl (fun w=>by simp[eqGuard]) (qia hu) k
end
attribute [local irreducible] WC WE WR Opr St Go.Calls Qy Qf ji Rel jk Qe yR Owe One Qg Go.CallsD
theorem qxK{V:qc}{len cap:Nat}{Q:Value→qc→Own→Prop}(hQ:Q (.slice none 0 0) V []):jk Tryz.prog 157 #[.slice none len cap] V [] Q:=by
 refine qH (args:=[_]) Tryz.func157 rfl Tryz.ntmps157 rfl ?_
 intro X w hM hb hw hV0 hR;dsimp only[qZ,Nat.zero_add,Nat.reduceAdd]
 (repeat'(first|refine qq ?_|refine qa ?_|refine qo ?_|refine qe ?_|refine qO ?_|(refine qn rfl ?_;first|refine qfr (e:=105) rfl rfl (by kernel_rfl) ?_|refine qh rfl ?_|refine qd rfl ?_)|refine qE rfl ?_))
 exact QQ hM hw hV0 hR [] (zJ _) (jU rfl rfl) hQ
theorem qxL{V:qc}{a:Addr}{cap:Nat}{Q:Value→qc→Own→Prop}(hQ:∀b,Q (.slice (some ⟨b,0,none⟩) 0 0) V [(b,.cells #[] 105 (0,0))]):jk Tryz.prog 157 #[.slice (some a) 0 cap] V [] Q:=by
 refine qH (args:=[_]) Tryz.func157 rfl Tryz.ntmps157 rfl ?_
 intro X w hM hb hw hV0 hR;dsimp only[qZ,Nat.zero_add,Nat.reduceAdd]
 (repeat'(first|refine qq ?_|refine qa ?_|refine qo ?_|refine qe ?_|refine qF ?_|(refine qn rfl ?_;first|refine qfr (e:=105) rfl rfl (by kernel_rfl) ?_|refine qh rfl ?_|refine qd rfl ?_|(apply yh tbN;(·exact rfl);(·exact rfl);(·exact rfl);(·decide);(·(repeat (exact .nil)));intro b))|refine qz rfl ?_))
 refine qn rfl (qa5 (e:=105) (k:=1) tbN rfl rfl rfl (zI 0) ?_)
 (repeat'(first|refine qo ?_|refine qe ?_|refine qO ?_|((refine qn rfl ?_);(refine qd rfl ?_))))
 exact QQ hM hw hV0 hR [(b,.cells #[] 105 (0,0))] (zJ _) (jU rfl rfl) (hQ b)
theorem qxM{V:qc}{bb off len cap:Nat}{news:List Value}{Q:Value→qc→Own→Prop}(hn:news.length=len*1)(h1:∀u∈news,u.oneCell'=true)(hr:∀(j:Nat) (u:Value),news[j]?=some u→rd V bb (off+j) u)(h0:0<len)(hl:len≤549755813888)
 (hQ:∀v' Gr',RowC 105 1 v' Gr' len news→Q v' V Gr'):jk Tryz.prog 157 #[.slice (some ⟨bb,off,none⟩) len cap] V [] Q:=by
 refine qH (args:=[_]) Tryz.func157 rfl Tryz.ntmps157 rfl ?_
 intro X w hM hb hw hV0 hR;dsimp only[qZ,Nat.zero_add,Nat.reduceAdd]
 (repeat'(first|refine qq ?_|refine qa ?_|refine qo ?_|refine qe ?_|refine qF ?_|(refine qn rfl ?_;first|refine qfr (e:=105) rfl rfl (by kernel_rfl) ?_|refine qh rfl ?_|refine qd rfl ?_|(apply yh tbN;(·exact rfl);(·exact rfl);(·exact rfl);(·decide);(·(repeat (exact .nil)));intro b))|refine qz rfl ?_))
 refine qn rfl (qa6 (e:=105) (k:=1) (m:=0) (z:=[.int .u32 0]) (Gr:=[(b,.cells #[] 105 (0,0))]) (G1:=[]) (xs:=[]) (news:=news) tbN rfl rfl rfl (zx (by kernel_rfl)) rfl rfl (fun w hw j u hj=>?_) hn h1 (RowC.some (g:=b) (cur:=#[]) (zI 0) (zI 0) (by simp[maxLen]) rfl rfl) (zr _) h0 (by omega) fun v' Gr' hR'=>?_)
 · obtain⟨arr,e,f0,q1,q2⟩:=hr j u hj
   rw[j8,yv (hw.view _ _ q1)];exact q2
 · (repeat'(first|refine qo ?_|refine qe ?_|refine qO ?_|((refine qn rfl ?_);(refine qd rfl ?_))))
   rw[z7];refine QQ hM hw hV0 hR Gr' (zJ _) (jU rfl rfl) (hQ _ _ ?_)
   rw[zt,zy]at hR';exact hR'
end Fly
namespace Su
open Go Go.Proofs Fly
theorem qlj(l:List T):sub l 0 l.length=some l:=Zr l
theorem qib{P:Program}{f:Nat}{V:qc}{vs:List Value}{l:List T}{e w:Nat}
 (h:jk P f vs.toArray V [] fun v V' G'=>∃ie,RepOB V' [ie] (.row false e w l) ie G'∧RepS V' [ie] (.osl 0 0 l.length) v):jk P f vs.toArray V [] fun v V' _=>∃rvs,RepA V' [.sl w l] rvs∧v=YJ rvs:=by
 intro w0 hs hG hV hnd;refine(h w0 hs hG hV hnd).mono ?_
 rintro ex w' ⟨v,V',G',rfl,hh,ie,m1,m2⟩
 have hsub:sub l 0 l.length=some l:=qlj l
 have hz:toTs 64 ⟨[],[],[.row false e w l]⟩ [.osl 0 0 l.length]=some ([.sl w l],(St.mk [] [] [.row false e w l]).frow 0 w l):=by
  simp only[toTs,toT,Vp,hsub,zm]
 obtain⟨V2,G2,g2,s2,r2,_⟩:=(QV (I:=[ie]) (L:=[]) 64).2 ⟨[],[],[.row false e w l]⟩ _ [.osl 0 0 l.length] _ hz V' G' [v] (.cons m2 .nil) ⟨⟨G'++[],.cons m1 .nil,by rw[z7]⟩,fun d sv hd _=>by simp[St.look]at hd⟩ ⟨fun p hp=>(hh.free p (by simp[hp])).2,by have:=hh.nodup;simpa using this⟩
 exact⟨_,V2,G2,rfl,g2.holds _ _ hh,[v],r2,rfl⟩
noncomputable def qrV:PrimD:=⟨List Int,fun xs=>((d1 (cQ 1 1)).dec xs).bind fun l=>bif qla l then some l else none,fun l=>[.sl 1 (l.map eW)],none,some (105,1),fun _=>none⟩
theorem qlk{V:qc}{v:Value}{l:List T}(hl:l.length≤549755813888)(h:Rep V (.sl 1 l) v) :
 jk Tryz.prog 157 #[v] V [] fun v' V' G'=>∃ie,RepOB V' [ie] (.row false 105 1 l) ie G'∧RepS V' [ie] (.osl 0 0 l.length) v':=by
 cases h with|@sl _ _ vs a cap a1 a2 a3 a4 a5 a6=>
 have hn:vs.length=l.length*1:=by rw[← a1.length,QT a3]
 by_cases h0:l=[]
 · subst h0
   cases a with
   | none=>exact qxK ⟨.vrow,.vrow,.oslv rfl⟩
   | some a=>exact qxL fun b=>⟨.row b 1 0,.row (by simp) (by simp[maxLen]) (by simp) (by simpa using RepA.nil) (by simp) (by simp),by
    have:=RepS.osl (V:=V) (I:=[IE.row b 1 0]) (n:=0) (off:=0) (len:=0) (b:=b) (k:=1) (ct:=0) (cap:=0) rfl (by omega) (by simp[maxLen]) ⟨by simp,by simp⟩
    simpa using this⟩
 · have hpos:0<l.length:=List.length_pos_iff.2 h0
   rcases a6 with a6|⟨b,off,rfl,a6⟩
   · exact absurd a6 h0
   · refine qxM hn (Jt a1 a2) a6 hpos hl fun v' Gr' hR=>?_
     obtain⟨b',ct,cap,rfl,b1,b2,b3⟩:=qpy (V:=V) (I:=[.row 0 0 0]) (l:=l) hR hpos rfl a1 a2 a3
     refine⟨.row b' 1 ct,b3.row_any,?_⟩
     have:=RepS.osl (V:=V) (I:=[IE.row b' 1 ct]) (n:=0) (off:=0) (len:=l.length) (b:=b') (k:=1) (ct:=ct) (cap:=cap) rfl (by omega) b2 ⟨b1.1,by omega⟩
     rw[Ve]at this;exact this
theorem qjY(xs:List T)(y:List Int)(h:((d1 (cQ 1 1)).dec xs).bind (fun l=>bif qla l then some l else none)=some y)(V:qc)(vs:List Value)(hr:RepA V xs vs) :
 jk Tryz.prog 157 vs.toArray V [] fun v V' G'=>∃ie,RepOB V' [ie] (.row false 105 1 (y.map eW)) ie G'∧RepS V' [ie] (.osl 0 0 (y.map eW).length) v:=by
 obtain⟨l,h1,h2⟩:=osm h;obtain⟨h3,h4⟩:=qL h2;have:=soi h4;subst this
 have hr2:=(d1 (cQ 1 1)).rep h1 hr
 cases hr2 with|cons k1 k2=>cases k2 with|nil=>
 cases k1 with|ql k1=>
 exact qlk (l:=l.map eW) (by have h5:(l.map (view 1)).length=l.length:=zV ..;rw[show(List.map eW l).length=l.length from h5];exact zx h3) k1
theorem qrW:OkT 157 qrV:=by
 refine⟨by kernel_rfl,fun xs y h V vs _ hr=>qib (qjY xs y h V vs hr),fun j hj xs y h V vs _ hr=>?_⟩
 have hj:some ((105,1):Nat×Nat)=some j:=hj
 simp only[za]at hj;subst hj;intro w0 a1 a2 a3 a4;refine(qjY xs y h V vs hr w0 a1 a2 a3 a4).mono ?_
 rintro e w' ⟨v,V',G',rfl,hh,ie,m1,m2⟩
 refine⟨v,V',G',rfl,hh,fun w l he hw=>?_⟩
 have he:[T.sl 1 (y.map eW)]=[.sl w l]:=he
 simp only[WW,T.sl.injEq,and_true]at he;obtain⟨rfl,rfl⟩:=he;exact⟨ie,m1,m2⟩
end Su
end
section
namespace Su
noncomputable section
open Go Go.Proofs Fly
def qmZ:PrimD:=prim (dc (cQ 1 1) (d1 (cI .u32))) (dc (cQ 1 1) (d1 (cQ 1 1))) YB
theorem quL:OkT 112 qmZ:=by
 refine⟨by kernel_rfl,fun xs y h V vs hgk hr=>?_,fun j hj=>nomatch hj⟩
 obtain⟨p,h1,h2⟩:=osm (show((dc (cQ 1 1) (d1 (cI .u32))).dec xs).bind YB=some y from h)
 have hr2:=(dc (cQ 1 1) (d1 (cI .u32))).rep h1 hr
 have hg:=(dc (cQ 1 1) (d1 (cI .u32))).rng hr2
 obtain⟨a,b⟩:=p;obtain⟨h3,h4⟩:=qL h2;have:=soi h4;subst this
 rw[zp,zY]at h3;obtain⟨⟨ha,la⟩,hb⟩:=hg;have hb:=qdJ.1 hb;obtain⟨h3a,h3b⟩:=h3;have h3a:0<b:=h3a
 obtain⟨B,rfl⟩:∃B:Nat,b=(B:Int):=⟨b.toNat,by omega⟩
 cases hr2 with|cons k1 k2=>
 cases k2 with|cons k2 k3=>
 cases k3 with|nil=>
 cases k2 with|s k2=>
 exact Go.Proofs.Sho.short_fing hgk (Wd.of ha) (by omega) (by have:=hb.2;omega) (zx h3b) k1
def qm0:PrimD:=prim (d1 (cQ 1 1)) (d1 (cQ 1 1)) qdQ
theorem quM:OkT 157 qm0:=by
 refine⟨by kernel_rfl,fun xs y h V vs hg hr=>?_,fun j hj=>nomatch hj⟩
 have hF:=qrW.2.1 xs y h V vs hg hr;intro w a1 a2 a3 a4;refine(hF w a1 a2 a3 a4).mono ?_
 rintro e w' ⟨v,V',G',rfl,hh,rvs,m1,rfl⟩
 refine⟨_,V',G',rfl,hh,rvs,?_,rfl⟩
 have m1:RepA V' [.sl 1 (List.map (view 1) (y:List (U 1)))] rvs:=m1
 cases m1 with|cons k1 k2=>cases k2 with|nil=>exact .cons (.ql k1) .nil
def qrX:jl:=Ql [(157,qm0),(112,qmZ)] qrT
theorem qgP:PkT qrX:=jc qop (qQ quM (qQ quL jx))
end
end Su
end
