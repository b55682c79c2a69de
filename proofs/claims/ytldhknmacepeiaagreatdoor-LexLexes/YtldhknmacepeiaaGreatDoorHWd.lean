/-
  The law and its row.
-/
import Derived.Test.YtldhknmacepeiaaGreatDoorNY08
import Derived.Test.YtldhknmacepeiaaGreatDoorSuTb
import Derived.Test.YtldhknmacepeiaaGreatDoorNT14
import Derived.Shelf.Strings.Search3
import Derived.Shelf.Pu.ParseUintPublic10
import Derived.Test.YtldhknmacepeiaaGreatDoorProg
import Derived.RangeFuncNested
import Derived.RangeFuncBound
import Derived.RangeFuncCalls
import Derived.RangeFuncLeaves
import Derived.RangeFuncWrites
import Derived.Shelf.Abstract
import Derived.Shelf.RegionOpen
import Derived.WalkKit
import Derived.OwnWalkIn
import Derived.TacticsInMore
import Derived.LoopNIn
import Derived.LoopIn
import Derived.Test.YtldhknmacepeiaaGreatDoorFlyM
import Derived.Test.YtldhknmacepeiaaGreatDoorSuXl
import Derived.Test.YtldhknmacepeiaaGreatDoorNB05
set_option linter.unusedVariables false
set_option linter.unusedSimpArgs false
set_option maxRecDepth 10000
section
namespace Fly
open Go Go.Proofs Su
set_option maxRecDepth 10000
noncomputable def tb:Tabs Tryz.prog:=Su.qlL.sound.tb
theorem uMap:Tryz.prog.underlying 112=some (.map 9 3):=by kernel_rfl
theorem JP:Tryz.prog.underlying 9=some .string:=by kernel_rfl
def wdE:Array MapEntry:=(((((((((((((((#[].push ⟨.string ⟨#[116,105,99,107,115]⟩,.int .i64 1,0⟩).push ⟨.string ⟨#[105,110,112,117,116]⟩,.int .i64 2,1⟩).push ⟨.string ⟨#[118,97,114]⟩,.int .i64 3,2⟩).push ⟨.string ⟨#[105,110,105,116]⟩,.int .i64 4,3⟩).push ⟨.string ⟨#[115,116,101,112]⟩,.int .i64 5,4⟩).push ⟨.string ⟨#[105,102]⟩,.int .i64 6,5⟩).push ⟨.string ⟨#[101,108,115,101]⟩,.int .i64 7,6⟩).push ⟨.string ⟨#[102,111,114]⟩,.int .i64 8,7⟩).push ⟨.string ⟨#[116,114,117,101]⟩,.int .i64 9,8⟩).push ⟨.string ⟨#[102,97,108,115,101]⟩,.int .i64 10,9⟩).push ⟨.string ⟨#[105,110,116]⟩,.int .i64 11,10⟩).push ⟨.string ⟨#[102,108,111,97,116]⟩,.int .i64 12,11⟩).push ⟨.string ⟨#[98,111,111,108]⟩,.int .i64 13,12⟩).push ⟨.string ⟨#[97,98,115]⟩,.int .i64 14,13⟩).push ⟨.string ⟨#[105,110]⟩,.int .i64 15,14⟩)
theorem qv9{V:qb}{Q:Value→qb→Own→Prop}(hQ:∀b,Q (.map (some b)) V [(b,.map wdE 15)]):ju Tryz.prog 74 #[] V [] Q:=by
 refine q9 (args:=[]) Tryz.func74 rfl Tryz.ntmps74 rfl ?_
 intro X w hM hb hw hV0 hR;dsimp only[Qb,Nat.zero_add,Nat.reduceAdd];refine jj ?_
 refine qz ?_
 refine qP rfl (qA rfl ?_)
 refine jk ?_
 refine qT ?_
 first | refine jj ?_ | skip
 refine qz ?_
 refine qP rfl (qki ?_)
 intro b
 iterate 15
  refine jd ?_
  refine qv8 (kt:=9) (et:=3) rfl rfl rfl (by exact Upd.here) uMap JP (by kernel_rfl) ?_
 refine qP rfl (qR rfl ?_)
 refine qP rfl (qA rfl ?_)
 refine jk ?_
 refine qT ?_
 refine jr ?_
 exact jh hM hw hV0 hR [_] (VD _) (qcS rfl rfl) (hQ b)
def enL:List (List UInt8×Int)→Nat→List MapEntry
 | [],_=>[]
 | (k,v)::P,i=>⟨.string ⟨k.toArray⟩,.int .i64 v,i⟩::enL P (i+1)
theorem qzQ:wdE.toList=enL wdP 0:=rfl
def qnd(l:List UInt8):List (List UInt8×Int)→Nat→Option (Nat×Value)
 | [],_=>none
 | (k,v)::P,j=>if l=k then some (j,.int .i64 v)else qnd l P (j+1)
theorem qq8(l:List UInt8):∀(P:List (List UInt8×Int)) (i j:Nat),Instr.findNow .string (.string (bs l)) (enL P i) j=some (qnd l P j)
 | [],_,_=>rfl
 | (k,v)::P,i,j=>by
  have ih:=qq8 l P (i+1) (j+1)
  have hb:(bs l == bs k)=decide (l=k):=by
   show(l.toArray == k.toArray)=_
   by_cases h:l=k
   · simp[h]
   · simp[h]
  show(match(some (bs l == bs k):Option Bool)with | some true=>some (some (j,Value.int .i64 v)) | some false=>Instr.findNow .string (.string (bs l)) (enL P (i+1)) (j+1) | none=>none)=_
  unfold qnd;rw[hb];by_cases h:l=k
  · rw[zr h,za h]
  · rw[zp h,zi h]
    exact ih
theorem qlM(l:List UInt8):∀(P:List (List UInt8×Int)) (j:Nat),((qnd l P j).map (·.2)).getD (.int .i64 0) = .int .i64 (wdN l P)
 | [],_=>rfl
 | (k,v)::P,j=>by
  unfold qnd wdN;by_cases h:l=k
  · rw[zr h,zr h];rfl
  · rw[zp h,zp h];exact qlM l P (j+1)
theorem Jw{V:qb}{l:List UInt8}{Q:Value→qb→Own→Prop}(hQ:Q (.bool (Jt l)) V []):ju Tryz.prog 33 #[.string (bs l)] V [] Q:=by
 refine q9 (args:=[_]) Tryz.func33 rfl Tryz.ntmps33 rfl ?_
 intro X w hM hb hw hV0 hR;dsimp only[Qb,Nat.zero_add,Nat.reduceAdd];have hl:∀w,(zeroValue 3).run Tryz.prog w = .ok (.int .i64 0) w:=Tryz.zeroValue3
 have hf:Instr.findNow .string (.string (bs l)) wdE.toList 0=some (qnd l wdP 0):=by rw[qzQ];exact qq8 l wdP 0 0
 have hv:=qlM l wdP 0
 refine jj ?_
 refine qz ?_
 refine qP rfl (qA rfl ?_)
 refine jk ?_
 refine qT ?_
 first | refine jj ?_ | skip
 refine qz ?_
 refine qP rfl ?_
 refine qK (first:=[]) (cap:=[]) tb rfl rfl rfl (qv9 (V:=V) (Q:=fun v V' G'=>∃b,v = .map (some b)∧V'=V∧G'=[(b,.map wdE 15)]) fun b=>⟨b,rfl,rfl,rfl⟩) (zI _) ?_
 rintro _ _ _ hs2 ⟨b,rfl,rfl,rfl⟩
 refine qP rfl (qR rfl ?_)
 refine qP rfl ?_
 refine qnc (kt:=9) (et:=3) (z:=.int .i64 0) rfl rfl uMap JP hf hl Has.here ?_
 rw[hv];refine qP rfl (Yd rfl rfl ?_)
 refine qP rfl (qA rfl ?_)
 refine jk ?_
 refine qT ?_
 refine jr ?_
 exact jh hM hw hV0 hR [] (Kr _) (qcS rfl rfl) hQ
end Fly
namespace Su
open Go Go.Proofs Fly
abbrev OkT(f:Nat)(p:PrimD):Prop:=Ok1 Tryz.prog tb qlL.sound f p
abbrev PkT(q:qt):Prop:=QS Tryz.prog tb qlL.sound q
noncomputable def qxp:PrimD:=prim (d1 cS) (d1 cB) qxc
theorem qBT:OkT 33 qxp:=by
 refine⟨by kernel_rfl,fun xs y h V vs _ hr=>?_,fun j hj=>nomatch hj⟩
 obtain⟨s,h1,h2⟩:=osm (show((d1 cS).dec xs).bind qxc=some y from h)
 have hr2:=(d1 cS).rep h1 hr
 have:=soi h2;subst this
 cases hr2 with | cons k1 k2=>
 cases k2 with | nil=>
 cases k1 with | s k1=>
 have e:s=bs (lb s):=(qfM s).symm
 rw[e];exact Jw ⟨[_],.cons (.s rfl) .nil,rfl⟩
end Su
end
section
namespace Go.Proofs
open Go.Shelf
def Tryz.conts_ren:Go.Shelf.Ren:=⟨fun | 144=>174 | 143=>197 | 219=>220 | 217=>170 | 225=>213 | 224=>212 | 267=>230 | 266=>194 | 314=>237 | n=>n,fun | 9=>9 | 4=>4 | 3=>3 | 5=>5 | 46=>28 | 146=>227 | 51=>105 | n=>n,fun | 1=>3 | n=>n⟩
theorem Tryz.conts:Go.Proofs.Lays.n144 Tryz.prog Tryz.conts_ren:={
 mixed:=by kernel_rfl
 f143:=Tryz.func197.trans (congrArg some (by kernel_rfl))
 f144:=Tryz.func174.trans (congrArg some (by kernel_rfl))
 f217:=Tryz.func170.trans (congrArg some (by kernel_rfl))
 f219:=Tryz.func220.trans (congrArg some (by kernel_rfl))
 f224:=Tryz.func212.trans (congrArg some (by kernel_rfl))
 f225:=Tryz.func213.trans (congrArg some (by kernel_rfl))
 f266:=Tryz.func194.trans (congrArg some (by kernel_rfl))
 f267:=Tryz.func230.trans (congrArg some (by kernel_rfl))
 f314:=Tryz.func237.trans (congrArg some (by kernel_rfl))
 t3:=Tryz.underlying3
 a3:=Tryz.isAgg3
 z3:=Tryz.sizeOf3
 v3:=Tryz.zeroValue3
 t4:=Tryz.underlying4
 a4:=Tryz.isAgg4
 z4:=Tryz.sizeOf4
 v4:=Tryz.zeroValue4
 t5:=Tryz.underlying5
 a5:=Tryz.isAgg5
 z5:=Tryz.sizeOf5
 v5:=Tryz.zeroValue5
 t9:=Tryz.underlying9
 a9:=Tryz.isAgg9
 z9:=Tryz.sizeOf9
 v9:=Tryz.zeroValue9
 t46:=Tryz.underlying28
 a46:=Tryz.isAgg28
 z46:=Tryz.sizeOf28
 v46:=Tryz.zeroValue28
 t51:=Tryz.underlying105
 a51:=Tryz.isAgg105
 z51:=Tryz.sizeOf105
 v51:=Tryz.zeroValue105
 t146:=Tryz.underlying227
 a146:=Tryz.isAgg227
 z146:=Tryz.sizeOf227
 v146:=Tryz.zeroValue227
 g1:=by kernel_rfl }
def Tryz.parseU_ren:Go.Shelf.Ren:=⟨fun | 14=>173 | 16=>195 | 17=>196 | 19=>214 | 20=>215 | 21=>216 | 22=>217 | 23=>218 | 24=>219 | 25=>228 | 27=>94 | 26=>229 | 28=>145 | 29=>184 | 30=>205 | 31=>206 | 32=>207 | 33=>208 | 35=>122 | 34=>224 | 36=>225 | 37=>226 | 38=>227 | 39=>235 | 40=>236 | n=>n,fun | 9=>9 | 3=>3 | 22=>22 | 24=>193 | 25=>213 | 4=>4 | 34=>256 | 5=>5 | 36=>28 | 37=>129 | 0=>0 | 39=>258 | 21=>21 | 44=>270 | 47=>191 | 50=>279 | 48=>277 | 2=>2 | 52=>245 | 55=>247 | 59=>266 | 60=>105 | 20=>20 | 61=>267 | 65=>282 | 66=>283 | 67=>96 | n=>n,fun | 0=>5 | 1=>6 | 2=>4 | 3=>7 | 4=>8 | n=>n⟩
theorem Tryz.parseU:Go.Proofs.LaysPu.n14 Tryz.prog Tryz.parseU_ren:={
 mixed:=by kernel_rfl
 f14:=Tryz.func173.trans (congrArg some (by kernel_rfl))
 f16:=Tryz.func195.trans (congrArg some (by kernel_rfl))
 f17:=Tryz.func196.trans (congrArg some (by kernel_rfl))
 f19:=Tryz.func214.trans (congrArg some (by kernel_rfl))
 f20:=Tryz.func215.trans (congrArg some (by kernel_rfl))
 f21:=Tryz.func216.trans (congrArg some (by kernel_rfl))
 f22:=Tryz.func217.trans (congrArg some (by kernel_rfl))
 f23:=Tryz.func218.trans (congrArg some (by kernel_rfl))
 f24:=Tryz.func219.trans (congrArg some (by kernel_rfl))
 f25:=Tryz.func228.trans (congrArg some (by kernel_rfl))
 f26:=Tryz.func229.trans (congrArg some (by kernel_rfl))
 f27:=Tryz.func94.trans (congrArg some (by kernel_rfl))
 f28:=Tryz.func145.trans (congrArg some (by kernel_rfl))
 f29:=Tryz.func184.trans (congrArg some (by kernel_rfl))
 f30:=Tryz.func205.trans (congrArg some (by kernel_rfl))
 f31:=Tryz.func206.trans (congrArg some (by kernel_rfl))
 f32:=Tryz.func207.trans (congrArg some (by kernel_rfl))
 f33:=Tryz.func208.trans (congrArg some (by kernel_rfl))
 f34:=Tryz.func224.trans (congrArg some (by kernel_rfl))
 f35:=Tryz.func122.trans (congrArg some (by kernel_rfl))
 f36:=Tryz.func225.trans (congrArg some (by kernel_rfl))
 f37:=Tryz.func226.trans (congrArg some (by kernel_rfl))
 f38:=Tryz.func227.trans (congrArg some (by kernel_rfl))
 f39:=Tryz.func235.trans (congrArg some (by kernel_rfl))
 f40:=Tryz.func236.trans (congrArg some (by kernel_rfl))
 t0:=Tryz.underlying0
 a0:=Tryz.isAgg0
 z0:=Tryz.sizeOf0
 v0:=Tryz.zeroValue0
 i0:=by kernel_rfl
 t2:=Tryz.underlying2
 a2:=Tryz.isAgg2
 z2:=Tryz.sizeOf2
 v2:=Tryz.zeroValue2
 i2:=by kernel_rfl
 t3:=Tryz.underlying3
 a3:=Tryz.isAgg3
 z3:=Tryz.sizeOf3
 v3:=Tryz.zeroValue3
 i3:=by kernel_rfl
 t4:=Tryz.underlying4
 a4:=Tryz.isAgg4
 z4:=Tryz.sizeOf4
 v4:=Tryz.zeroValue4
 i4:=by kernel_rfl
 t5:=Tryz.underlying5
 a5:=Tryz.isAgg5
 z5:=Tryz.sizeOf5
 v5:=Tryz.zeroValue5
 i5:=by kernel_rfl
 t9:=Tryz.underlying9
 a9:=Tryz.isAgg9
 z9:=Tryz.sizeOf9
 v9:=Tryz.zeroValue9
 i9:=by kernel_rfl
 t20:=Tryz.underlying20
 a20:=Tryz.isAgg20
 z20:=Tryz.sizeOf20
 v20:=Tryz.zeroValue20
 i20:=by kernel_rfl
 t21:=Tryz.underlying21
 a21:=Tryz.isAgg21
 z21:=Tryz.sizeOf21
 v21:=Tryz.zeroValue21
 i21:=by kernel_rfl
 t22:=Tryz.underlying22
 a22:=Tryz.isAgg22
 z22:=Tryz.sizeOf22
 v22:=Tryz.zeroValue22
 i22:=by kernel_rfl
 t24:=Tryz.underlying193
 a24:=Tryz.isAgg193
 z24:=Tryz.sizeOf193
 v24:=Tryz.zeroValue193
 i24:=by kernel_rfl
 t25:=Tryz.underlying213
 a25:=Tryz.isAgg213
 z25:=Tryz.sizeOf213
 v25:=Tryz.zeroValue213
 i25:=by kernel_rfl
 t34:=Tryz.underlying256
 a34:=Tryz.isAgg256
 z34:=Tryz.sizeOf256
 v34:=Tryz.zeroValue256
 i34:=by kernel_rfl
 c34:=by kernel_rfl
 t36:=Tryz.underlying28
 a36:=Tryz.isAgg28
 z36:=Tryz.sizeOf28
 v36:=Tryz.zeroValue28
 i36:=by kernel_rfl
 t37:=Tryz.underlying129
 a37:=Tryz.isAgg129
 z37:=Tryz.sizeOf129
 v37:=Tryz.zeroValue129
 i37:=by kernel_rfl
 t39:=Tryz.underlying258
 a39:=Tryz.isAgg258
 z39:=Tryz.sizeOf258
 v39:=Tryz.zeroValue258
 i39:=by kernel_rfl
 t44:=Tryz.underlying270
 a44:=Tryz.isAgg270
 z44:=Tryz.sizeOf270
 v44:=Tryz.zeroValue270
 i44:=by kernel_rfl
 t47:=Tryz.underlying191
 a47:=Tryz.isAgg191
 z47:=Tryz.sizeOf191
 v47:=Tryz.zeroValue191
 i47:=by kernel_rfl
 t48:=Tryz.underlying277
 a48:=Tryz.isAgg277
 z48:=Tryz.sizeOf277
 v48:=Tryz.zeroValue277
 i48:=by kernel_rfl
 t50:=Tryz.underlying279
 a50:=Tryz.isAgg279
 z50:=Tryz.sizeOf279
 v50:=Tryz.zeroValue279
 i50:=by kernel_rfl
 t52:=Tryz.underlying245
 a52:=Tryz.isAgg245
 z52:=Tryz.sizeOf245
 v52:=Tryz.zeroValue245
 i52:=by kernel_rfl
 t55:=Tryz.underlying247
 a55:=Tryz.isAgg247
 z55:=Tryz.sizeOf247
 v55:=Tryz.zeroValue247
 i55:=by kernel_rfl
 t59:=Tryz.underlying266
 a59:=Tryz.isAgg266
 z59:=Tryz.sizeOf266
 v59:=Tryz.zeroValue266
 i59:=by kernel_rfl
 t60:=Tryz.underlying105
 a60:=Tryz.isAgg105
 z60:=Tryz.sizeOf105
 v60:=Tryz.zeroValue105
 i60:=by kernel_rfl
 t61:=Tryz.underlying267
 a61:=Tryz.isAgg267
 z61:=Tryz.sizeOf267
 t65:=Tryz.underlying282
 a65:=Tryz.isAgg282
 z65:=Tryz.sizeOf282
 v65:=Tryz.zeroValue282
 i65:=by kernel_rfl
 t66:=Tryz.underlying283
 a66:=Tryz.isAgg283
 z66:=Tryz.sizeOf283
 v66:=Tryz.zeroValue283
 i66:=by kernel_rfl
 t67:=Tryz.underlying96
 a67:=Tryz.isAgg96
 z67:=Tryz.sizeOf96
 v67:=Tryz.zeroValue96
 i67:=by kernel_rfl
 g0:=by kernel_rfl
 m0:=by kernel_rfl
 g1:=by kernel_rfl
 m1:=by kernel_rfl
 g2:=by kernel_rfl
 m2:=by kernel_rfl
 g3:=by kernel_rfl
 m3:=by kernel_rfl
 g4:=by kernel_rfl
 m4:=by kernel_rfl }
end Go.Proofs
end
section
namespace Go.Proofs.Sho
open Go Go.RowKit Go.Shelf Go.Proofs
attribute [local go_sem] Oper.semAt_some
abbrev Wo(len:Nat):={ x:Nat×Nat // x.1<len∧x.2<4294967296 }
def enW{len:Nat}(x:Wo len):Array Value:=#[.int .i64 (x.1.1:Int),.int .u32 (x.1.2:Int)]
theorem qbE{zs:List Nat}(hz:∀z∈zs,z<4294967296)(j:Nat):zs[j]?.getD 0<4294967296:=by
 cases h:zs[j]? with
 | none=>simp
 | some z=>simpa using hz z (Kp h)
def Kb(n₀ B:Nat)(W W':World):Prop:=Below n₀ W W'∧W'.heap[B]?=W.heap[B]?
theorem Kb.trans{n₀ B:Nat}{X Y Z:World}(h:Kb n₀ B X Y)(k:Kb n₀ B Y Z):Kb n₀ B X Z:=⟨h.1.trans k.1,k.2.trans h.2⟩
theorem Kb.refl(n₀ B:Nat)(W:World):Kb n₀ B W W:=⟨Below.refl _ _,rfl⟩
def YG{zs:List Nat}(hz:∀z∈zs,z<4294967296)(h0:0<zs.length)(k:Nat):List (Wo zs.length) :=
 (List.range k).map fun j=>⟨(zs.length-1-j,zs[zs.length-1-j]?.getD 0),by simp only[];omega,qbE hz _⟩
theorem qfV{zs:List Nat}(hz:∀z∈zs,z<4294967296)(h0:0<zs.length)(k:Nat) :
 YG hz h0 (k+1)=YG hz h0 k++[⟨(zs.length-1-k,zs[zs.length-1-k]?.getD 0),by simp only[];omega,qbE hz _⟩]:=by
 simp[YG,List.range_succ]
theorem qq9{zs:List Nat}(hz:∀z∈zs,z<4294967296)(h0:0<zs.length)(k:Nat):(YG hz h0 k).length=k:=by simp[YG]
theorem qfW{zs:List Nat}(hz:∀z∈zs,z<4294967296)(h0:0<zs.length){m:Nat}(hm:m<zs.length) :
 YG hz h0 (zs.length-m)=YG hz h0 (zs.length-(m+1))++[⟨(m,zs[m]?.getD 0),hm,qbE hz _⟩]:=by
 have h1:zs.length-m=zs.length-(m+1)+1:=by omega
 rw[h1,qfV]
 congr 2
 have h2:zs.length-1-(zs.length-(m+1))=m:=by omega
 exact Subtype.ext (by simp only[h2])
set_option maxRecDepth 100000 in
set_option maxHeartbeats 2000000 in
theorem qra(F:Fence)(n:Nat)(h7:F.fn 191)(hro:F.round=none)(hn:1≤n)(l Bs n₀ b off cap:Nat)(zs:List Nat)(hz:∀z∈zs,z<4294967296)(hl:0<zs.length)(hreach:zs.length≤549755813888)(hb:b<n₀)(J Jx:List (Wo zs.length)→World→Prop)
 (hY:∀pre x W,J pre W→pre.length<zs.length→YieldAt F (n-1) Tryz.prog l (enW x) W fun e W'=>
   (e = .returned (.bool true)∧J (pre++[x]) W'∧Kb n₀ Bs W W')∨(e = .returned (.bool false)∧Jx (pre++[x]) W'))
 (W:World) (hBs:W.cell? ⟨Bs,0,none⟩=some (.slice (some ⟨b,off,none⟩) zs.length cap)) (hc:∀j,j<zs.length→W.cell? ⟨b,off+j,none⟩=some (.int .u32 ((zs[j]?.getD 0:Nat):Int))) (h0:J [] W) :
 CallsIn F n Tryz.prog 191 #[.func (.yield l) #[] #[],.pointer (some ⟨Bs,0,none⟩)] W fun e W'=>(∃v,e = .returned v) ∧
  ((∃ys,ys=YG hz hl zs.length∧J ys W')∨(∃pre,(∃k,k≤zs.length∧pre=YG hz hl k)∧Jx pre W')):=by
 refine callsIn_of_wp Tryz.func191 rfl h7 ?_ hro
 simp only[Tryz.ntmps191,Vi,zy,KF,Nat.reduceAdd,Nat.reduceSub,Array.replicate_succ,Array.replicate_zero,List.push_toArray,List.append_toArray,zK,Ve]
 gi_wp2
 gi_loopw [3] (fun i wr=>∃m:Nat,m≤zs.length∧i = .int .i64 ((m:Int)-1)∧J (YG hz hl (zs.length-m)) wr∧Kb n₀ Bs W wr)
  (fun i _=>(intOf i+1).toNat)
 case atStart=>
  refine⟨zs.length,zw _,?_,?_,Kb.refl _ _ _⟩
  · rfl
  · rw[Vz];exact h0
 case round=>
  obtain⟨m,hm,rfl,hJs,hnx⟩:=hrel;have hBs':wr.cell? ⟨Bs,0,none⟩=some (.slice (some ⟨b,off,none⟩) zs.length cap):=(World.cell?_of_block (a:=⟨Bs,0,none⟩) hnx.2).trans hBs
  cases m with
  | zero=>
   have e0:(((0:Nat):Int)-1) = -1:=rfl
   rw[e0]
   gi_wp2
   go_end0
   exact⟨⟨_,rfl⟩,.inl ⟨_,rfl,hJs⟩⟩
  | succ m=>
   have e0:(((m+1:Nat):Int)-1)=(m:Int):=by omega
   rw[e0];have hcx:wr.cell? ⟨b,off+m,none⟩=some (.int .u32 ((zs[m]?.getD 0:Nat):Int)):=(hnx.1.cell (p:=⟨b,off+m,none⟩) hb).trans (hc m (by omega))
   obtain⟨fn,tmps,assign,body,hy,hR⟩:=hY _ ⟨(m,zs[m]?.getD 0),by simp only[];omega,qbE hz _⟩ wr hJs (by rw[qq9];omega)
   dsimp only[enW]at hy
   gi_wp2
   refine hR.mono ?_
   rintro e W3 (⟨rfl,hJ3,hk3⟩ | ⟨rfl,hJx3⟩)
   · gi_wp2
     go_roundw
     case rel=>
      exact⟨m,by omega,rfl,by rw[qfW hz hl (by omega)];exact hJ3,hnx.trans hk3⟩
     case measure=>simp only[intOf];omega
   · gi_wp2
     refine bodyPost_ret (results_none rfl _ _ _) rfl ?_
     exact⟨⟨_,rfl⟩,.inr ⟨_,⟨zs.length-m,by omega,(qfW hz hl (by omega)).symm⟩,hJx3⟩⟩
theorem qi1(F:Fence)(n:Nat)(h7:F.fn 191)(hro:F.round=none)(l Bs:Nat)(sa:Option Addr)(cap:Nat)(K:World→Prop)(W:World)(hBs:W.cell? ⟨Bs,0,none⟩=some (.slice sa 0 cap))(h0:K W) :
 CallsIn F n Tryz.prog 191 #[.func (.yield l) #[] #[],.pointer (some ⟨Bs,0,none⟩)] W fun e W'=>(∃v,e = .returned v)∧K W':=by
 refine callsIn_of_wp Tryz.func191 rfl h7 ?_ hro
 simp only[Tryz.ntmps191,Vi,zy,KF,Nat.reduceAdd,Nat.reduceSub,Array.replicate_succ,Array.replicate_zero,List.push_toArray,List.append_toArray,zK,Ve]
 gi_wp2
 gi_loopw [3] (fun i wr=>i = .int .i64 (-1)∧K wr) (fun _ _=>0)
 case atStart=>exact⟨rfl,h0⟩
 case round=>
  obtain⟨rfl,hJs⟩:=hrel
  gi_wp2
  go_end0
  exact⟨⟨_,rfl⟩,hJs⟩
set_option maxHeartbeats 1000000 in
theorem qi2(F:Fence)(n:Nat)(h5:F.fn 165)(hro:F.round=none)(a:Option Addr)(len cap:Nat)(w:World) :
 CallsIn F n Tryz.prog 165 #[.slice a len cap] w fun e w'=>e = .returned (.func (.func 191) #[] #[.pointer (some ⟨w.heap.size,0,none⟩)])∧w'=w.alloc (.cells #[.slice a len cap] 38):=by
 refine callsIn_of_wp Tryz.func165 rfl h5 ?_ hro
 simp only[Tryz.ntmps165,Vi,zy,KF,Nat.reduceAdd,Nat.reduceSub,Array.replicate_succ,Array.replicate_zero,List.push_toArray,List.append_toArray,zK,Ve]
 gi_wp2
 go_ret
 exact⟨rfl,rfl⟩
def qfX(n₀:Nat)(W:World)(sv:Value)(zs:List Nat):Prop :=
 (zs=[]∧∃a cap,sv = .slice a 0 cap)∨∃b off cap,sv = .slice (some ⟨b,off,none⟩) zs.length cap∧b<n₀∧∀j,j<zs.length→W.cell? ⟨b,off+j,none⟩=some (.int .u32 ((zs[j]?.getD 0:Nat):Int))
theorem qfX.below{n₀:Nat}{A B:World}(h:Below n₀ A B){sv:Value}{zs:List Nat}:qfX n₀ A sv zs→qfX n₀ B sv zs
 | .inl e=>.inl e
 | .inr ⟨b,off,cap,e,hb,hc⟩=>.inr ⟨b,off,cap,e,hb,fun j hj=>(h.cell (p:=⟨b,off+j,none⟩) hb).trans (hc j hj)⟩
def All{zs:List Nat}(hz:∀z∈zs,z<4294967296)(ys:List (Wo zs.length)):Prop:=ys=[]∧zs.length=0∨∃hl:0<zs.length,ys=YG hz hl zs.length
theorem qkl(F:Fence)(n:Nat)(h7:F.fn 191)(hro:F.round=none)(hn:1≤n)(Bs n₀:Nat)(sv:Value)(zs:List Nat)(hz:∀z∈zs,z<4294967296)(hreach:zs.length≤549755813888)(w:World)(hBs:Bs<w.heap.size)(hn₀:n₀≤w.heap.size)
 (hc:w.cell? ⟨Bs,0,none⟩=some sv) (hI:qfX n₀ w sv zs) :
 SeqStopsK F n Tryz.prog 191 #[.pointer (some ⟨Bs,0,none⟩)] (fun x:Wo zs.length=>enW x) (Kb n₀ Bs) (All hz) (fun _=>True) zs.length w:=fun l J Jx W hW _ _ hY h0=>by
 have hc':=(hW.cell (p:=⟨Bs,0,none⟩) hBs).trans hc
 rcases hI.below (hW.mono hn₀)with⟨h1,a,cap,rfl⟩ | ⟨b,off,cap,rfl,hb,hcs⟩
 · exact(qi1 F n h7 hro l Bs a cap (J []) W hc' h0).mono fun e W' ⟨he,hj⟩=>⟨he,.inl ⟨_,.inl ⟨rfl,by rw[h1];rfl⟩,hj⟩⟩
 · by_cases hl:0<zs.length
   · refine(qra F n h7 hro hn l Bs n₀ b off cap zs hz hl hreach hb J Jx hY W hc' hcs h0).mono ?_
     rintro e W' ⟨he,⟨ys,rfl,hj⟩ | ⟨pre,_,hj⟩⟩
     · exact⟨he,.inl ⟨_,.inr ⟨hl,rfl⟩,hj⟩⟩
     · exact⟨he,.inr ⟨_,trivial,hj⟩⟩
   · have h2:zs.length=0:=by omega
     rw[h2]at hc';exact(qi1 F n h7 hro l Bs _ cap (J []) W hc' h0).mono fun e W' ⟨he,hj⟩=>⟨he,.inl ⟨_,.inl ⟨rfl,h2⟩,hj⟩⟩
end Go.Proofs.Sho
end
section
namespace Go.Proofs.Sho
open Go Go.RowKit Go.Shelf Go.Proofs
attribute [local go_sem] Oper.semAt_some
theorem qBU(n:Nat):madeCells (Value.int .u32 0).cells n=Array.replicate n (.int .u32 0):=by
 apply Array.ext
 · simp[size_madeCells]
 · intro i h1 h2
   simp[madeCells,Value.cells,Ww]
theorem qwa:(Tryz.prog.info? 105).map (fun i=>(i.zero,i.size,i.bytes))=some (some (.int .u32 0),1,4):=by kernel_rfl
theorem qBV(n:Nat)(hn:n≤549755813888)(w:World) :
 (Instr.makeSlice 37 (.int .i64 (n:Int)) (.int .i64 (n:Int))).run Tryz.prog w = .ok (.slice (some ⟨w.heap.size,0,none⟩) n n) (w.alloc (.cells (Array.replicate n (.int .u32 0)) 105)):=by
 obtain⟨i,hi,h1,h2,h3⟩:=info_parts qwa;have h:=run_make (P:=Tryz.prog) w 37 105 i (.int .u32 0) (by kernel_rfl) hi h1 .i64 .i64 (n:Int) (n:Int) (by omega) (Wv _) (by rw[h3];omega) (by omega)
 rw[zg,h2,K8,qBU]at h;exact h
theorem Z4{W:World}{B:Nat}{o:Obj}(h:W.heap[B]?=some o)(o':Obj):(W.alloc o').heap[B]?=some o:=((World.grownBy_alloc W o' none).block B (z6.1 h).1 (by simp)).trans h
theorem qrb(W:World)(k:Nat)(hk:W.heap.size=k)(o:Obj):(W.alloc o).heap[k]?=some o:=by subst hk;exact World.alloc_heap_new W o
theorem qcW{W:World}{a:Addr}{v:Value}{B:Nat}(h:a.block≠B):(W.setCell a v).heap[B]?=W.heap[B]?:=by
 show(W.heap.modify a.block _)[B]?=_
 rw[Array.getElem?_modify,zp h]
theorem qzR{W:World}{B i:Nat}{v:Value}{c:Array Value}{t:TypeId}{fr:Nat×Nat}(h:W.heap[B]?=some (.cells c t fr)):(W.setCell ⟨B,i,none⟩ v).heap[B]?=some (.cells (c.setIfInBounds i v) t fr):=by
 show(W.heap.modify B _)[B]?=_
 rw[Array.getElem?_modify,zr rfl,h];rfl
theorem Zm{W:World}{B i:Nat}{c:Array Value}{t:TypeId}{fr:Nat×Nat}{v:Value}(h:W.heap[B]?=some (.cells c t fr))(hi:c[i]?=some v):W.cell? ⟨B,i,none⟩=some v:=by
 simp[World.cell?,h,hi]
theorem qlN{W:World}{B i:Nat}{c:Array Value}{t:TypeId}(h:W.heap[B]?=some (.cells c t (0,0))):W.frozen? ⟨B,i,none⟩=false:=by
 simp[World.frozen?,h]
theorem qlO{W W':World}{row:Option Nat}{B:Nat}{c:Array Value}{t:TypeId}{fr:Nat×Nat}(h:W.heap[B]?=some (.cells c t fr))(hg:W.grownBy W' row)(hr:∀r,row=some r→∃o:Obj,W.heap[r]?=some o∧o.isCells=false):W'.heap[B]?=some (.cells c t fr) :=
 (hg.block B (z6.1 h).1 (fun e=>by
   obtain⟨o,ho,hc⟩:=hr B e.symm;rw[h]at ho;cases ho;cases hc)).trans h
theorem qbF{n:Int}(h0:0≤n)(h1:n<18446744073709551616):IntKind.u64.wrap n=n:=by rw[IntKind.wrap_u64];omega
theorem qeK(n:Int):IntKind.u32.wrap n=n % 4294967296:=IntKind.wrap_u32 n
theorem qwb{x y r:Nat}(hr:x<2^r):x ||| y*2^r=x+y*2^r:=by
 have:=Nat.two_pow_add_eq_or_of_lt hr y
 rw[zB,Nat.or_comm,← this];omega
theorem qBW{R v:Nat}(hR:R<4294967296)(hv:v<4294967296):bits BinOp.or IntKind.u64 ((R:Int)*4294967296) (v:Int)=((R*4294967296+v:Nat):Int):=by
 have h:=Fly.qdA (a:=R*4294967296) (b:=v) (by omega) (by omega)
 rw[Nat.or_comm,qwb (x:=v) (y:=R) (r:=32) (by simpa using hv),Wz v]at h;rw[← h,Vt];rfl
def stp(b:Nat){len:Nat}(s:Nat×List Nat)(x:Wo len):Nat×List Nat:=((s.1*4294967296+x.1.2) % b,s.2.set x.1.1 ((s.1*4294967296+x.1.2) / b % 4294967296))
def sf(b:Nat){len:Nat}(pre:List (Wo len)):Nat×List Nat:=pre.foldl (stp b) (0,List.replicate len 0)
theorem qhw(b:Nat){len:Nat}(pre:List (Wo len))(x:Wo len):sf b (pre++[x])=stp b (sf b pre) x:=by simp[sf]
theorem qrc{b:Nat}(hb:0<b){len:Nat}(pre:List (Wo len)):(sf b pre).1<b:=by
 have:∀(l:List (Wo len)) (s:Nat×List Nat),s.1<b→(l.foldl (stp b) s).1<b:=by
  intro l;induction l with
  | nil=>exact fun s h=>h
  | cons x l ih=>exact fun s _=>ih _ (Vf _ hb)
 exact this pre _ hb
theorem qkm(b:Nat){len:Nat}(pre:List (Wo len)):(sf b pre).2.length=len:=by
 have:∀(l:List (Wo len)) (s:Nat×List Nat),s.2.length=len→(l.foldl (stp b) s).2.length=len:=by
  intro l;induction l with
  | nil=>exact fun s h=>h
  | cons x l ih=>exact fun s h=>ih _ (by simp[stp,h])
 exact this pre _ (by simp)
def Hid(p:Prop):Prop:=p
def vW(n:Nat):Value:=.int .u32 (n:Int)
structure Inv (B b:Nat) {len:Nat} (pre:List (Wo len)) (W:World):Prop where
 h0:W.heap[B]?=some (Obj.cells #[.int .u32 (b:Int)] 105 (0,0))
 h1:W.heap[B+1]?=some (Obj.cells ((sf b pre).2.map vW).toArray 105 (0,0))
 h2:W.heap[B+2]?=some (Obj.cells #[.slice (some ⟨B+1,0,none⟩) len len] 37 (0,0))
 h3:W.heap[B+3]?=some (Obj.cells #[.int .u64 ((sf b pre).1:Int)] 22 (0,0))
theorem Inv.own(B b:Nat)(len:Nat):Own (fun(pre:List (Wo len)) W=>Inv B b pre W) :=
 fun _ _ _ _ hs hg hr=>⟨qlO hs.h0 hg hr,qlO hs.h1 hg hr,qlO hs.h2 hg hr,qlO hs.h3 hg hr⟩
def qrd:Code :=
 Code.region 9
  #[{ dst:=some 34,op:=Op.load 37 (Operand.tmp 6),type:=37,pos:="nat.go:158",after:=#[],
      guard:=none },
    { dst:=some 35,
      op:=Op.call { callee:=Callee.value (Operand.func 67),args:=#[Operand.tmp 34],argTypes:=#[37] },
      type:=38,pos:="nat.go:158",after:=#[{ on:=0,ground:=Ground.data }],guard:=none },
    { dst:=some 36,op:=Op.load 22 (Operand.tmp 7),type:=22,pos:="nat.go:158",after:=#[],
      guard:=none },
    { dst:=some 37,
      op:=Op.call { callee:=Callee.value (Operand.func 22),args:=#[Operand.tmp 36],argTypes:=#[22] },
      type:=38,pos:="nat.go:158",
      after:=#[{ on:=2,ground:=Ground.data },{ on:=1,ground:=Ground.chain }],guard:=none },
    { dst:=some 4,op:=Op.assign (Operand.tmp 35),type:=38,pos:="nat.go:158",
      after :=
       #[{ on:=1,ground:=Ground.data },{ on:=3,ground:=Ground.chain },
         { on:=0,ground:=Ground.phase },{ on:=1,ground:=Ground.phase },
         { on:=2,ground:=Ground.textOnly Departure.lateStores },
         { on:=3,ground:=Ground.textOnly Departure.lateStoresUnsure }],
      guard:=none },
    { dst:=some 5,op:=Op.assign (Operand.tmp 37),type:=38,pos:="nat.go:158",
      after :=
       #[{ on:=3,ground:=Ground.data },{ on:=4,ground:=Ground.chain },
         { on:=0,ground:=Ground.phase },{ on:=1,ground:=Ground.phase },
         { on:=2,ground:=Ground.phase },{ on:=3,ground:=Ground.phase },
         { on:=4,ground:=Ground.phase }],
      guard:=none }]
  true
def qzS(B D b:Nat)(sa:Option Addr)(len cap:Nat):Act :=
 { tmps:=#[.slice sa len cap,.int .u32 (b:Int),undef,.pointer (some ⟨B,0,none⟩),.slice none 0 0,.slice none 0 0,.pointer (some ⟨B+2,0,none⟩),.pointer (some ⟨B+3,0,none⟩),undef,undef,
    .slice sa len cap,.int .i64 (len:Int),.slice (some ⟨B+1,0,none⟩) len len,.slice sa len cap,.func (.func 191) #[] #[.pointer (some ⟨B+4,0,none⟩)],
    undef,undef,undef,undef,undef,undef,undef,undef,undef,undef,undef,undef,undef,undef,undef,undef,undef,undef,undef,undef,undef,undef,undef],defers:=[{ target:=.collected D,args:=#[] }] }
theorem qre{b len i v m d r1:Nat}{pre:List (Wo len)}{w W W0 W1:World}{hi:i<len}{hv:v<4294967296}(hW1:W.setCell { block:=w.heap.size+3,off:=0 } (Value.int IntKind.u64 (r1:Int))=W1)
 (_h3:W.heap[w.heap.size+3]?=some (Obj.cells #[.int .u64 ((sf b pre).1:Int)] 22 (0,0)))
 (g0:W1.heap[w.heap.size]?=some (Obj.cells #[.int .u32 (b:Int)] 105 (0,0))) (g1:W1.heap[w.heap.size+1]?=some (Obj.cells ((sf b pre).2.map vW).toArray 105 (0,0)))
 (g2:W1.heap[w.heap.size+2]?=some (Obj.cells #[.slice (some ⟨w.heap.size+1,0,none⟩) len len] 37 (0,0))) (g3:W1.heap[w.heap.size+3]?=some (Obj.cells #[.int .u64 (r1:Int)] 22 (0,0)))
 (hst:Hid (stp b (sf b pre) (⟨(i,v),hi,hv⟩:Wo len)=(m,(sf b pre).2.set i d))) (hB:Below w.heap.size w W) (_hsz:W0.heap.size=w.heap.size+5) :
 KeepsFrom W0.heap.size W ((W1.setCell ⟨w.heap.size+1,i,none⟩ (.int .u32 (d:Int))).setCell ⟨w.heap.size+3,0,none⟩ (.int .u64 (m:Int))).drew ∧
  Kb w.heap.size (w.heap.size+4) W ((W1.setCell ⟨w.heap.size+1,i,none⟩ (.int .u32 (d:Int))).setCell ⟨w.heap.size+3,0,none⟩ (.int .u64 (m:Int))).drew ∧
  (Inv w.heap.size b (pre++[(⟨(i,v),hi,hv⟩:Wo len)]) ((W1.setCell ⟨w.heap.size+1,i,none⟩ (.int .u32 (d:Int))).setCell ⟨w.heap.size+3,0,none⟩ (.int .u64 (m:Int))).drew ∧
    Below w.heap.size w ((W1.setCell ⟨w.heap.size+1,i,none⟩ (.int .u32 (d:Int))).setCell ⟨w.heap.size+3,0,none⟩ (.int .u64 (m:Int))).drew):=by
 have hst:stp b (sf b pre) (⟨(i,v),hi,hv⟩:Wo len)=(m,(sf b pre).2.set i d):=hst
 have hbl:Below w.heap.size W ((W1.setCell ⟨w.heap.size+1,i,none⟩ (.int .u32 (d:Int))).setCell ⟨w.heap.size+3,0,none⟩ (.int .u64 (m:Int))).drew:=by
  rw[← hW1];exact((((Below.refl _ W).setCell (p:=⟨w.heap.size+3,0,none⟩) (by simp) _).setCell (p:=⟨w.heap.size+1,i,none⟩) (by simp) _).setCell (p:=⟨w.heap.size+3,0,none⟩) (by simp) _).drew
 refine⟨?_,⟨hbl,?_⟩,⟨?_,?_,?_,?_⟩,hB.trans hbl⟩
 · rw[← hW1]
   exact((((KeepsOthers.setCell _ _ _).trans (KeepsOthers.setCell _ _ _)).trans (KeepsOthers.setCell _ _ _)).trans (KeepsOthers.drew _)).from _
 · show((W1.setCell _ _).setCell _ _).heap[w.heap.size+4]?=_
   rw[qcW (by simp),qcW (by simp),← hW1,qcW (by simp)]
 · show((W1.setCell _ _).setCell _ _).heap[w.heap.size]?=_
   rw[qcW (by simp),qcW (by simp)];exact g0
 · show((W1.setCell _ _).setCell _ _).heap[w.heap.size+1]?=_
   rw[qcW (by simp),qzR g1,qhw,hst];simp[WG,vW]
 · show((W1.setCell _ _).setCell _ _).heap[w.heap.size+2]?=_
   rw[qcW (by simp),qcW (by simp)];exact g2
 · show((W1.setCell _ _).setCell _ _).heap[w.heap.size+3]?=_
   rw[qzR ((qcW (by simp)).trans g3),qhw,hst];rfl
set_option maxRecDepth 100000 in
set_option maxHeartbeats 4000000 in
theorem qrf(F:Fence)(n:Nat)(h3:F.fn 112)(h5:F.fn 165)(h7:F.fn 191)(hro:F.round=none)(hn:3≤n)(sa:Option Addr)(cap:Nat)(b:Nat)(hb0:0<b)(hb1:b<4294967296)(zs:List Nat)(hz:∀z∈zs,z<4294967296)(hreach:zs.length≤549755813888)(w:World)
 (hI:qfX w.heap.size w (.slice sa zs.length cap) zs) {Q:Ending→World→Prop}
 (hdone:∀(D:Nat) (ys:List (Wo zs.length)) (W:World) (Kc:Act→World→Prop),(∀a w',Code.wpIn F n Tryz.prog Code.ret (bodyPostM F n Tryz.prog Tryz.f112 Q) a w'→Kc a w')→w.heap.size+5≤D→All hz ys→Inv w.heap.size b ys W→Below w.heap.size w W →
   W.heap[D]?=some (.deferred (some []))→Code.wpIn F n Tryz.prog qrd (Exit.then Kc (bodyPostM F n Tryz.prog Tryz.f112 Q)) (qzS w.heap.size D b sa zs.length cap) W) :
 CallsIn F n Tryz.prog 112 #[.slice sa zs.length cap,.int .u32 (b:Int)] w Q:=by
 have h1:1≤n:=by omega
 refine callsIn_of_wp_marks Tryz.func112 rfl h3 ?_ hro
 simp only[Tryz.ntmps112,Vi,zy,KF,Nat.reduceAdd,Nat.reduceSub,Array.replicate_succ,Array.replicate_zero,List.push_toArray,List.append_toArray,zK,Ve];have hmk:=qBV zs.length hreach
 gi_wp2_with (gi_at_call 165;refine(qi2 F (n-1) h5 hro _ _ _ _).mono ?_;rintro e w' ⟨rfl,rfl⟩)
 obtain⟨W0,hW0⟩:∃W0,((((w.alloc (Obj.cells #[Value.int IntKind.u32 (b:Int)] 105)).alloc (Obj.cells (Array.replicate zs.length (Value.int IntKind.u32 0)) 105)).alloc
  (Obj.cells #[Value.slice (some { block:=w.heap.size+1,off:=0 }) zs.length zs.length] 37)).alloc (Obj.cells #[Value.int IntKind.u64 0] 22)).alloc (Obj.cells #[Value.slice sa zs.length cap] 38)=W0:=⟨_,rfl⟩
 rw[hW0];have hB0:Below w.heap.size w W0:=by rw[← hW0];exact(((((Below.refl _ w).alloc (zw _) _).alloc (by simp) _).alloc (by simp;omega) _).alloc (by simp;omega) _).alloc (by simp;omega) _
 have hsz:W0.heap.size=w.heap.size+5:=by rw[← hW0];simp only[World.size_alloc]
 have hJ0:Inv w.heap.size b ([]:List (Wo zs.length)) W0:=by
  rw[← hW0];refine⟨Z4 (Z4 (Z4 (Z4 (qrb _ _ rfl _) _) _) _) _,?_,Z4 (Z4 (qrb _ _ (by simp only[World.size_alloc]) _) _) _,Z4 (qrb _ _ (by simp only[World.size_alloc]) _) _⟩
  have e:((sf b ([]:List (Wo zs.length))).2.map vW).toArray=Array.replicate zs.length (Value.int IntKind.u32 0):=by
   show((List.replicate zs.length 0).map vW).toArray=_
   rw[VM];exact List.toArray_replicate ..
  rw[e];exact Z4 (Z4 (Z4 (qrb _ _ (by simp only[World.size_alloc]) _) _) _) _
 have hbx:W0.cell? ⟨w.heap.size+4,0,none⟩=some (.slice sa zs.length cap):=by
  rw[← hW0];exact Zm (qrb _ _ (by simp only[World.size_alloc]) _) rfl
 refine wpIn_rangeFunc_ownG hro h1 (gf:=191) (lb:=#[.pointer (some ⟨w.heap.size+4,0,none⟩)]) rfl h7 (enters_of Tryz.func191 (by kernel_rfl) rfl)
  (qkl F (n-1) h7 hro (by omega) (w.heap.size+4) w.heap.size _ zs hz hreach W0 (by omega) (by omega) hbx (hI.below hB0)) Kb.trans
  (fun W l o o' hl ho hc _=>⟨belowK_b (w:=w) (zw _) W l o o' (by omega) ho hc (by assumption),World.putObj_heap_other (by omega)⟩) (Below.refl _ _) (fun _=>rfl)
  (fun pre W=>Inv w.heap.size b pre W∧Below w.heap.size w W)
  (fun _ _ _=>False)
  (OwnFrom.and ((Inv.own w.heap.size b zs.length).from _) (ownFrom_below (zw _) (by omega)))
  (fun _ _ _ _ _ hs _ _=>hs)
  ⟨hJ0,hB0⟩
  (fun x=>{ tmps:=#[.slice sa zs.length cap,.int .u32 (b:Int),undef,.pointer (some ⟨w.heap.size,0,none⟩),.slice none 0 0,.slice none 0 0,.pointer (some ⟨w.heap.size+2,0,none⟩),.pointer (some ⟨w.heap.size+3,0,none⟩),.int .i64 (x.1.1:Int),.int .u32 (x.1.2:Int),
    .slice sa zs.length cap,.int .i64 (zs.length:Int),.slice (some ⟨w.heap.size+1,0,none⟩) zs.length zs.length,.slice sa zs.length cap,.func (.func 191) #[] #[.pointer (some ⟨w.heap.size+4,0,none⟩)],.int .i64 (x.1.1:Int),.int .u32 (x.1.2:Int),
    undef,undef,undef,undef,undef,undef,undef,undef,undef,undef,undef,undef,undef,undef,undef,undef,undef,undef,undef,undef,undef],defers:=[] }) ?assign ?body ?done ?stop
 case assign=>
  intro l x W K hK;dsimp only[enW]
  gi_wp2
  exact hK
 case body=>
  rintro l pre ⟨⟨i,v⟩,hi,hv⟩ W ⟨hS,hB⟩ _
  dsimp only at hi hv;have c0:=Zm hS.h0 (i:=0) rfl
  have c2:=Zm hS.h2 (i:=0) rfl
  have c3:=Zm hS.h3 (i:=0) rfl
  have f3:=qlN (i:=0) hS.h3
  have f1:=qlN (i:=i) hS.h1
  have hr:=qrc hb0 pre;have hmx:Tryz.prog.follows .mixedOrders=true:=by kernel_rfl
  have hor:bits BinOp.or IntKind.u64 (((sf b pre).1:Int)*4294967296) (v:Int)=(((sf b pre).1*4294967296+v:Nat):Int):=qBW (by omega) hv
  gi_wp2
  obtain⟨r1,hr1⟩:∃r1:Nat,(sf b pre).1*4294967296+v=r1:=⟨_,rfl⟩
  have hr2:((sf b pre).1:Int)*4294967296+(v:Int)=(r1:Int):=by rw[← hr1];simp
  have hr3:r1<18446744073709551616:=by omega
  rw[hr2];clear hor hr2;obtain⟨W1,hW1⟩:∃W1,W.setCell { block:=w.heap.size+3,off:=0 } (Value.int IntKind.u64 (r1:Int))=W1:=⟨_,rfl⟩
  rw[hW1];have g0:W1.heap[w.heap.size]?=some (Obj.cells #[.int .u32 (b:Int)] 105 (0,0)):=by rw[← hW1,qcW (by simp)];exact hS.h0
  have g1:W1.heap[w.heap.size+1]?=some (Obj.cells ((sf b pre).2.map vW).toArray 105 (0,0)):=by rw[← hW1,qcW (by simp)];exact hS.h1
  have g2:W1.heap[w.heap.size+2]?=some (Obj.cells #[.slice (some ⟨w.heap.size+1,0,none⟩) zs.length zs.length] 37 (0,0)):=by rw[← hW1,qcW (by simp)];exact hS.h2
  have g3:W1.heap[w.heap.size+3]?=some (Obj.cells #[.int .u64 (r1:Int)] 22 (0,0)):=by rw[← hW1];exact qzR hS.h3
  have c0':=Zm g0 (i:=0) rfl
  have c2':=Zm g2 (i:=0) rfl
  have c3':=Zm g3 (i:=0) rfl
  have f3':=qlN (i:=0) g3
  have f1':=qlN (i:=i) g1
  have hb2 : ¬((b:Int)=0):=by omega
  have hb3 : ¬(b=0):=by omega
  have hsl:=qkm b pre;obtain⟨Qi,hQi⟩:∃Qi,(sf b pre).2[i]?=some Qi:=⟨_,zl (by omega)⟩
  have c1':W1.cell? ⟨w.heap.size+1,i,none⟩=some (.int .u32 (Qi:Int)):=Zm g1 (by rw[List.getElem?_toArray,KB,hQi];rfl)
  have hwb:IntKind.u64.wrap (b:Int)=(b:Int):=qbF (by omega) (by omega)
  obtain⟨q,hq⟩:∃q,r1 / b=q:=⟨_,rfl⟩
  have hql:q≤r1:=by rw[← hq];exact VA _ _
  have hq1:IntKind.u64.wrap ((r1:Int) / (b:Int))=(q:Int):=by rw[← hq,← Int.natCast_ediv];exact qbF (by omega) (by omega)
  obtain⟨d,hd⟩:∃d,q % 4294967296=d:=⟨_,rfl⟩
  have hd1:IntKind.u32.wrap (q:Int)=(d:Int):=by rw[qeK,← hd];omega
  obtain⟨m,hm⟩:∃m,r1 % b=m:=⟨_,rfl⟩
  have hm1:(r1:Int) % (b:Int)=(m:Int):=by rw[← hm,Int.natCast_emod]
  have hm2:(r1:Int).tmod (b:Int)=(m:Int):=by rw[VY (by omega)];exact hm1
  have hst:Hid (stp b (sf b pre) (⟨(i,v),hi,hv⟩:Wo zs.length)=(m,(sf b pre).2.set i d)):=by
   show(((sf b pre).1*4294967296+v) % b,(sf b pre).2.set i (((sf b pre).1*4294967296+v) / b % 4294967296))=_
   rw[hr1,hm,hq,hd]
  clear hq hd hm
  gi_region_o
  all_goals gi_wp2
  all_goals exact qre (hi:=hi) (hv:=hv) hW1 hS.h3 g0 g1 g2 g3 hst hB hsz
 case done=>
  rintro D ys W hD hA ⟨hS,hB⟩ hK
  gi_wp2
  exact hdone D ys W _ (by assumption) (by omega) hA hS hB hK
 case stop=>
  rintro D c pre W _ _ h _
  exact h.elim
end Go.Proofs.Sho
end
section
namespace Su
noncomputable section
open Go Go.Proofs Fly
set_option maxRecDepth 100000
def qlP:PrimD:=prim (dc cB (dc (cI .i64) (d1 (cI .u64)))) (dc (cI .u64) (d1 (cI .i64))) (Ym)
theorem qwc:OkT 69 qlP:=yj ja qk7 (fun a=>qpd a.1 a.2.1 a.2.2) (by kernel_rfl) (fun _ _=>by kernel_rfl) qpe
def qrg:qt:=jo [(69,qlP)] noPr
theorem qfY:PkT qrg:=qn qk7 (qh qwc qq)
end
end Su
end
section
namespace Su
noncomputable section
open Go Go.Proofs Fly
set_option maxRecDepth 100000
def qrh:PrimD:=prim (d1 cB) (d1 (cI .u64)) (qpf)
theorem qzT:OkT 26 qrh:=yj ja qfY (fun a=>pInf a) (by kernel_rfl) (fun _ _=>by kernel_rfl) qup
def qri:qt:=jo [(26,qrh)] qrg
theorem qne:PkT qri:=qn qfY (qh qzT qq)
end
end Su
end
section
namespace Su
open Go Go.Proofs Fly
set_option maxRecDepth 100000
noncomputable def qrj:qt:=jo [] qri
theorem qnf:PkT qrj:=qn qne qq
end Su
end
section
namespace Su
open Go Go.Proofs Fly
set_option maxRecDepth 100000
noncomputable def qrk:qt:=jo [] qrj
theorem qfZ:PkT qrk:=qn qnf qq
end Su
end
section
namespace Su
noncomputable section
open Go Go.Proofs Fly
set_option maxRecDepth 100000
def At_p:PrimD:=prim (dc (cQ 1 1) (d1 (cI .i64))) (d1 (cI .u64)) (fun a=>At a.1 a.2)
theorem At_c:OkT 113 At_p:=fnL ja qfZ (by kernel_rfl) (fun _ _=>by kernel_rfl)
def qrl:qt:=jo [(113,At_p)] qrk
theorem qf0:PkT qrl:=qn qfZ (qh At_c qq)
end
end Su
end
section
namespace Su
noncomputable section
open Go Go.Proofs Fly
set_option maxRecDepth 100000
def qrm:PrimD:=prim (d1 (cQ 1 1)) (d1 (cQ 1 1)) (qg2)
theorem qrn:OkT 67 qrm:=jF ja qf0 (fun fu a=>qyu fu a) (by kernel_rfl) (fun _ _=>by kernel_rfl) quq
def qro:qt:=jo [(67,qrm)] qrl
theorem Ya:PkT qro:=qn qf0 (qh qrn qq)
end
end Su
end
section
namespace Su
noncomputable section
open Go Go.Proofs Fly
set_option maxRecDepth 100000
def qxq:PrimD:=prim (dc (cQ 1 1) (d1 (cQ 1 1))) (d1 (cQ 1 1)) (qfI)
theorem qBX:OkT 62 qxq:=jF ja Ya (fun fu a=>Add fu a.1 a.2) (by kernel_rfl) (fun _ _=>by kernel_rfl) qyv
def qxr:PrimD:=prim (dc (cQ 1 1) (d1 (cQ 1 1))) (d1 (cI .i64)) (qw0)
theorem qBY:OkT 105 qxr:=jF ja Ya (fun fu a=>Cmp fu a.1 a.2) (by kernel_rfl) (fun _ _=>by kernel_rfl) qyw
def qxs:PrimD:=prim (d1 (cI .u64)) (d1 (cQ 1 1)) (fun a=>New a)
theorem qxt:OkT 22 qxs:=fnL ja Ya (by kernel_rfl) (fun _ _=>by kernel_rfl)
def qlQ:PrimD:=prim (d1 (cI .u32)) (d1 (cI .i64)) (fun a=>qiy a)
theorem qwd:OkT 121 qlQ:=fnL ja Ya (by kernel_rfl) (fun _ _=>by kernel_rfl)
def qrp:qt:=jo [(62,qxq),(105,qxr),(22,qxs),(121,qlQ)] qro
theorem qct:PkT qrp:=qn Ya (qh qBX (qh qBY (qh qxt (qh qwd qq))))
end
end Su
end
section
namespace Su
noncomputable section
open Go Go.Proofs Fly
set_option maxRecDepth 100000
def qxu:PrimD:=prim (d1 (cQ 1 1)) (d1 (cI .i64)) (fun a=>Len a)
theorem qBZ:OkT 63 qxu:=fnL ja qct (by kernel_rfl) (fun _ _=>by kernel_rfl)
def qxv:PrimD:=prim (dc (cQ 1 1) (d1 (cQ 1 1))) (d1 (cQ 1 1)) (yV)
theorem qB0:OkT 24 qxv:=jF ja qct (fun fu a=>Mul fu a.1 a.2) (by kernel_rfl) (fun _ _=>by kernel_rfl) qyx
def qrq:qt:=jo [(63,qxu),(24,qxv)] qrp
theorem qf1:PkT qrq:=qn qct (qh qBZ (qh qB0 qq))
end
end Su
end
section
namespace Su
noncomputable section
open Go Go.Proofs Fly
set_option maxRecDepth 100000
def qrr:PrimD:=prim (d1 (cQ 1 1)) (dc (cI .u64) (d1 cB)) (fun a=>qur a)
theorem qzU:OkT 109 qrr:=fnL ja qf1 (by kernel_rfl) (fun _ _=>by kernel_rfl)
def qrs:qt:=jo [(109,qrr)] qrq
theorem qcu:PkT qrs:=qn qf1 (qh qzU qq)
end
end Su
end
section
namespace Su
noncomputable section
open Go Go.Proofs Fly
set_option maxRecDepth 100000
def qxw:PrimD:=prim (dc (cQ 1 1) (d1 (cI .i64))) (d1 (cQ 1 1)) (qw1)
theorem qB1:OkT 161 qxw:=jF ja qcu (fun fu a=>Shr fu a.1 a.2) (by kernel_rfl) (fun _ _=>by kernel_rfl) qyy
def qxx:PrimD:=prim (dc (cQ 1 1) (d1 (cI .i64))) (dc (cQ 1 1) (d1 (cI .i64))) (qiD)
theorem qB2:OkT 104 qxx:=jF ja qcu (fun fu a=>Shl fu a.1 a.2) (by kernel_rfl) (fun _ _=>by kernel_rfl) qyA
def qrt:qt:=jo [(161,qxw),(104,qxx)] qrs
theorem qng:PkT qrt:=qn qcu (qh qB1 (qh qB2 qq))
end
end Su
end
section
namespace Su
open Go Go.Proofs Fly
set_option maxRecDepth 100000
noncomputable def qru:qt:=jo [] qrt
theorem qnh:PkT qru:=qn qng qq
end Su
end
