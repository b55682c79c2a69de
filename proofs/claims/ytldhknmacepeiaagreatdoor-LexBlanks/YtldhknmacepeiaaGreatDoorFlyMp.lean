/-
  A small logic of walks: judgements, operations, regions, loops, calls. No condition.
-/
import Derived.Test.YtldhknmacepeiaaGreatDoorFlyM
import Derived.Test.YtldhknmacepeiaaGreatDoorSuTb
import Derived.Test.YtldhknmacepeiaaGreatDoorNT15
import Derived.Shelf.Strings.Search3
import Derived.Shelf.Pu.ParseUintPublic10
import Derived.Test.YtldhknmacepeiaaGreatDoorProg
import Derived.Test.YtldhknmacepeiaaGreatDoorHCn
import Derived.Test.YtldhknmacepeiaaGreatDoorNX03
set_option linter.unusedVariables false
set_option linter.unusedSimpArgs false
section
namespace Fly
open Go
section
variable {P:Program} {n:Nat} {X:Cx} {L:Lo} {V:qc} {G:Own} {Q:Value→qc→Own→Prop}
variable {ty:TypeId} {pos:String} {af:Array Edge} {gd:Option (Nat×Bool)} {ds:Option Tmp}
theorem Q0{t:TypeId}{x:Operand}{s:ByteArray}{ts:Array TypeId}(hx:ev L x=some (.string s))(ht:ts[0]?=some t)(hu:P.underlying t=some .string)(k':Q (.int .i64 (s.size:Int)) V G) :
 Opr P n X L V G ⟨ds,.call { callee:=.builtin .len,args:=#[x],argTypes:=ts },ty,pos,af,gd⟩ Q:=by
 refine qD (fun a w ha=>?_) k'
 simp[execOp,resolve,invoke,builtin,Builtin.len_,ht,ha.ev hx,run_underlying hu,goInt]
theorem qne{t:TypeId}{x lo hi:Operand}{s:ByteArray}{i k:Int}(hx:ev L x=some (.string s))(hl:ev L lo=some (.int .i64 i))(hh:ev L hi=some (.int .i64 k))(hu:P.underlying t=some .string)(h0:0≤i)(h1:i≤k)(h2:k≤(s.size:Int))
 (k':Q (.string (s.extract i.toNat k.toNat)) V G):Opr P n X L V G ⟨ds,.slice t x (some lo) (some hi) none,ty,pos,af,gd⟩ Q:=by
 refine qD (fun ac w ha=>?_) k'
 have h3:0≤k:=by omega
 simp[execOp,ha.ev hx,ha.ev hl,ha.ev hh,Instr.sliceAt,Instr.slice,run_underlying hu,Instr.sliceBounds,Instr.sliceBound,asIntOf,h0,h2,h3];intro h;exact absurd h (by omega)
theorem qrI{w:World}{r p:Nat}{s:ByteArray}(hb:w.heap[r]?=some (.stringIter s p)):(getObj r).run P w = .ok (.stringIter s p) w:=by simp[getObj,Sem.run,hb]
theorem qyJ{w:World}{r p:Nat}{s:ByteArray}(o:Obj)(hb:w.heap[r]?=some (.stringIter s p)):(setObj r o).run P w = .ok () { w with heap:=w.heap.setIfInBounds r o }:=by simp[setObj,Sem.run,hb]
theorem qnf{t:TypeId}{x:Operand}{s:ByteArray}(hx:ev L x=some (.string s))(hu:P.underlying t=some .string)(k:∀b,Q (.pointer (some ⟨b,0,none⟩)) V ((b,.stringIter s 0)::G)):Opr P n X L V G ⟨ds,.range t x,ty,pos,af,gd⟩ Q:=fun a ha w hw=>
 .inl ⟨_,_,V,_,.inl (by simp[execOp,ha.ev hx,Instr.range,run_underlying hu,newObj];rfl),k w.heap.size,hw.alloc _⟩
theorem qeA{x:Operand}{s:ByteArray}{b p wd c:Nat}{G':Own}(hx:ev L x=some (.pointer (some ⟨b,0,none⟩)))(hU:Upd G b (.stringIter s p) (.stringIter s (p+wd)) G')(hp:p<s.size)(hd:Utf8.decode s p=(c,wd))
 (k:Q (.tuple #[.bool true,.int .i64 (p:Int),.int .i32 (c:Int)]) V G'):Opr P n X L V G ⟨ds,.next x true,ty,pos,af,gd⟩ Q:=fun a ha w hw=>by
 have hg:w.heap[b]?=some (.stringIter s p):=hw.own _ hU.has.mem
 refine .inl ⟨_,_,V,G',.inl ?_,k,hw.upd hU⟩
 simp[execOp,ha.ev hx,Instr.next,qrI hg,hp,hd,qyJ _ hg,goInt]
theorem Zy{x:Operand}{s:ByteArray}{b p:Nat}(hx:ev L x=some (.pointer (some ⟨b,0,none⟩)))(hH:Has G b (.stringIter s p))(hp : ¬p<s.size)
 (k:Q (.tuple #[.bool false]) V G):Opr P n X L V G ⟨ds,.next x true,ty,pos,af,gd⟩ Q:=fun a ha w hw=>by
 have hg:w.heap[b]?=some (.stringIter s p):=hw.own _ hH.mem
 refine .inl ⟨_,_,V,G,.inl ?_,k,hw⟩
 simp[execOp,ha.ev hx,Instr.next,qrI hg,hp]
theorem Jk{t u:TypeId}{x y:Operand}{κ:IntKind}{p q:Int}(hx:ev L x=some (.int κ p))(hy:ev L y=some (.int κ q))(h:q<p)(k:Q (.bool true) V G):Opr P n X L V G ⟨ds,.binOp .gtr t x y u,ty,pos,af,gd⟩ Q :=
 Yu hx hy (by rw[zb h];exact k)
theorem Jl{t u:TypeId}{x y:Operand}{κ:IntKind}{p q:Int}(hx:ev L x=some (.int κ p))(hy:ev L y=some (.int κ q))(h : ¬q<p)(k:Q (.bool false) V G):Opr P n X L V G ⟨ds,.binOp .gtr t x y u,ty,pos,af,gd⟩ Q :=
 Yu hx hy (by rw[zk h];exact k)
theorem quY{t u:TypeId}{x y:Operand}{κ:IntKind}{p q:Int}(hx:ev L x=some (.int κ p))(hy:ev L y=some (.int κ q))(h:p≠q)(k:Q (.bool true) V G):Opr P n X L V G ⟨ds,.binOp .neq t x y u,ty,pos,af,gd⟩ Q :=
 YZ hx hy (by rw[zk h];exact k)
theorem qrJ{t u:TypeId}{x y:Operand}{κ:IntKind}{p q:Int}(hx:ev L x=some (.int κ p))(hy:ev L y=some (.int κ q))(h:p=q)(k:Q (.bool false) V G):Opr P n X L V G ⟨ds,.binOp .neq t x y u,ty,pos,af,gd⟩ Q :=
 YZ hx hy (by rw[zb h];exact k)
theorem quZ{t u:TypeId}{x:Operand}{te:TypeId}{v:Value}{ms}(hx:ev L x=some (.iface te v))(hu:P.underlying t=some (.interface ms))(k:Q (.bool true) V G):Opr P n X L V G ⟨ds,.binOp .neq t x (.const .nilIface) u,ty,pos,af,gd⟩ Q :=
 qcM (b:=false) hx rfl rfl (fun w=>by simp[eqGuard]) (fun w=>by
  show(Op.equalIn (9999+1) t (.iface te v) .nilIface).run P w=_
  unfold Op.equalIn;rw[Sem.run_bind,run_underlying hu];rfl) k
theorem qlZ{t u:TypeId}{x:Operand}{ms}(hx:ev L x=some .nilIface)(hu:P.underlying t=some (.interface ms))(k:Q (.bool false) V G):Opr P n X L V G ⟨ds,.binOp .neq t x (.const .nilIface) u,ty,pos,af,gd⟩ Q :=
 qcM (b:=true) hx rfl rfl (fun w=>by simp[eqGuard]) (fun w=>by
  show(Op.equalIn (9999+1) t .nilIface .nilIface).run P w=_
  unfold Op.equalIn;rw[Sem.run_bind,run_underlying hu];rfl) k
theorem qj6{t:TypeId}(k:∀b,Q (.map (some b)) V ((b,.map #[] 0)::G)):Opr P n X L V G ⟨ds,.makeMap t none,ty,pos,af,gd⟩ Q:=fun a ha w hw=>
 .inl ⟨_,_,V,_,.inl (by simp[execOp,Instr.makeMap,newObj];rfl),k w.heap.size,hw.alloc _⟩
theorem qj7{w:World}{r c:Nat}{es:Array MapEntry}(hb:w.heap[r]?=some (.map es c)):(getObj r).run P w = .ok (.map es c) w:=by simp[getObj,Sem.run,hb]
theorem qyK{w:World}{r c:Nat}{es:Array MapEntry}(o:Obj)(hb:w.heap[r]?=some (.map es c)):(setObj r o).run P w = .ok () { w with heap:=w.heap.setIfInBounds r o }:=by simp[setObj,Sem.run,hb]
theorem YK{kt:TypeId}(hs:P.underlying kt=some .string)(e:Bool)(s:ByteArray)(w:World):(Instr.checkKey e 10000 kt (.string s)).run P w = .ok () w:=by
 show(Instr.checkKey e (9999+1) kt (.string s)).run P w=_
 unfold Instr.checkKey;simp[run_underlying hs]
theorem Zz{kt:TypeId}(hs:P.underlying kt=some .string){s:ByteArray}{es:List MapEntry}{r:Option (Nat×Value)}(h:Instr.findNow .string (.string s) es 0=some r)(w:World):(Instr.findKey kt (.string s) es).run P w = .ok r w:=by
 unfold Instr.findKey;simp[run_underlying hs,h]
theorem qng{t kt et:TypeId}{m k x:Operand}{b c:Nat}{es:Array MapEntry}{kb:ByteArray}{v:Value}{G':Own}(hm:ev L m=some (.map (some b)))(hk:ev L k=some (.string kb))(hv:ev L x=some v)
 (hu:P.underlying t=some (.map kt et)) (hs:P.underlying kt=some .string) (hn:Instr.findNow .string (.string kb) es.toList 0=some none)
 (hU:Upd G b (.map es c) (.map (es.push { key:=.string kb,val:=v,born:=c }) (c+1)) G') (k':Q undef V G'):Opr P n X L V G ⟨ds,.insert t m k x,ty,pos,af,gd⟩ Q:=fun a ha w hw=>by
 have hg:w.heap[b]?=some (.map es c):=hw.own _ hU.has.mem
 refine .inl ⟨undef,_,V,G',.inr ⟨?_,rfl⟩,k',hw.upd hU⟩
 simp[execOp,ha.ev hm,ha.ev hk,ha.ev hv,Instr.mapUpdate,run_underlying hu,qj7 hg,YK hs,Zz hs hn,qyK _ hg]
theorem qu0{t kt et:TypeId}{m k x:Operand}{b c:Nat}{es:Array MapEntry}{kb:ByteArray}{v:Value}{G':Own}(hm:ev L m=some (.map (some b)))(hk:ev L k=some (.string kb))(hv:ev L x=some v)
 (hU:Upd G b (.map es c) (.map (es.push { key:=.string kb,val:=v,born:=c }) (c+1)) G')
 (hu:P.underlying t=some (.map kt et)) (hs:P.underlying kt=some .string) (hn:Instr.findNow .string (.string kb) es.toList 0=some none) (k':Q undef V G'):Opr P n X L V G ⟨ds,.insert t m k x,ty,pos,af,gd⟩ Q:=qng hm hk hv hu hs hn hU k'
theorem qnh{t kt et:TypeId}{m k:Operand}{b c:Nat}{es:Array MapEntry}{kb:ByteArray}{z:Value}{r:Option (Nat×Value)}(hm:ev L m=some (.map (some b)))(hk:ev L k=some (.string kb))
 (hu:P.underlying t=some (.map kt et)) (hs:P.underlying kt=some .string) (hn:Instr.findNow .string (.string kb) es.toList 0=some r)
 (hz:∀w,(zeroValue et).run P w = .ok z w) (hU:Has G b (.map es c)) (k':Q ((r.map (·.2)).getD z) V G):Opr P n X L V G ⟨ds,.lookup t m k false,ty,pos,af,gd⟩ Q:=fun a ha w hw=>by
 have hg:w.heap[b]?=some (.map es c):=hw.own _ hU.mem
 refine .inl ⟨_,_,V,G,.inl ?_,k',hw⟩
 cases r with
 | none=>simp[execOp,ha.ev hm,ha.ev hk,Instr.lookup,run_underlying hu,qj7 hg,YK hs,Zz hs hn,hz]
 | some p=>simp[execOp,ha.ev hm,ha.ev hk,Instr.lookup,run_underlying hu,qj7 hg,YK hs,Zz hs hn]
end
end Fly
end
section
namespace Fly
open Go Go.Proofs Su
set_option maxRecDepth 10000
noncomputable def tb:Tabs Tryz.prog:=Su.qlJ.sound.tb
theorem uMap:Tryz.prog.underlying 112=some (.map 9 3):=by kernel_rfl
theorem J7:Tryz.prog.underlying 9=some .string:=by kernel_rfl
def wdE:Array MapEntry:=(((((((((((((((#[].push ⟨.string ⟨#[116,105,99,107,115]⟩,.int .i64 1,0⟩).push ⟨.string ⟨#[105,110,112,117,116]⟩,.int .i64 2,1⟩).push ⟨.string ⟨#[118,97,114]⟩,.int .i64 3,2⟩).push ⟨.string ⟨#[105,110,105,116]⟩,.int .i64 4,3⟩).push ⟨.string ⟨#[115,116,101,112]⟩,.int .i64 5,4⟩).push ⟨.string ⟨#[105,102]⟩,.int .i64 6,5⟩).push ⟨.string ⟨#[101,108,115,101]⟩,.int .i64 7,6⟩).push ⟨.string ⟨#[102,111,114]⟩,.int .i64 8,7⟩).push ⟨.string ⟨#[116,114,117,101]⟩,.int .i64 9,8⟩).push ⟨.string ⟨#[102,97,108,115,101]⟩,.int .i64 10,9⟩).push ⟨.string ⟨#[105,110,116]⟩,.int .i64 11,10⟩).push ⟨.string ⟨#[102,108,111,97,116]⟩,.int .i64 12,11⟩).push ⟨.string ⟨#[98,111,111,108]⟩,.int .i64 13,12⟩).push ⟨.string ⟨#[97,98,115]⟩,.int .i64 14,13⟩).push ⟨.string ⟨#[105,110]⟩,.int .i64 15,14⟩)
theorem qu1{V:qc}{Q:Value→qc→Own→Prop}(hQ:∀b,Q (.map (some b)) V [(b,.map wdE 15)]):jA Tryz.prog 74 #[] V [] Q:=by
 refine jg (args:=[]) Tryz.func74 rfl Tryz.ntmps74 rfl ?_
 intro X w hM hb hw hV0 hR;dsimp only[Qu,Nat.zero_add,Nat.reduceAdd];refine js ?_
 refine qA ?_
 refine qW rfl (qB rfl ?_)
 refine jt ?_
 refine q9 ?_
 first | refine js ?_ | skip
 refine qA ?_
 refine qW rfl (qj6 ?_)
 intro b
 iterate 15
  refine jk ?_
  refine qu0 (kt:=9) (et:=3) rfl rfl rfl (by exact Upd.here) uMap J7 (by kernel_rfl) ?_
 refine qW rfl (qY rfl ?_)
 refine qW rfl (qB rfl ?_)
 refine jt ?_
 refine q9 ?_
 refine jx ?_
 exact jo hM hw hV0 hR [_] (VK _) (qcG rfl rfl) (hQ b)
def enL:List (List UInt8×Int)→Nat→List MapEntry
 | [],_=>[]
 | (k,v)::P,i=>⟨.string ⟨k.toArray⟩,.int .i64 v,i⟩::enL P (i+1)
theorem qyL:wdE.toList=enL wdP 0:=rfl
def qni(l:List UInt8):List (List UInt8×Int)→Nat→Option (Nat×Value)
 | [],_=>none
 | (k,v)::P,j=>if l=k then some (j,.int .i64 v)else qni l P (j+1)
theorem qrK(l:List UInt8):∀(P:List (List UInt8×Int)) (i j:Nat),Instr.findNow .string (.string (bs l)) (enL P i) j=some (qni l P j)
 | [],_,_=>rfl
 | (k,v)::P,i,j=>by
  have ih:=qrK l P (i+1) (j+1)
  have hb:(bs l == bs k)=decide (l=k):=by
   show(l.toArray == k.toArray)=_
   by_cases h:l=k
   · simp[h]
   · simp[h]
  show(match(some (bs l == bs k):Option Bool)with | some true=>some (some (j,Value.int .i64 v)) | some false=>Instr.findNow .string (.string (bs l)) (enL P (i+1)) (j+1) | none=>none)=_
  unfold qni;rw[hb];by_cases h:l=k
  · rw[zA h,zb h]
  · rw[zw h,zk h]
    exact ih
theorem ql0(l:List UInt8):∀(P:List (List UInt8×Int)) (j:Nat),((qni l P j).map (·.2)).getD (.int .i64 0) = .int .i64 (wdN l P)
 | [],_=>rfl
 | (k,v)::P,j=>by
  unfold qni wdN;by_cases h:l=k
  · rw[zA h,zA h];rfl
  · rw[zw h,zw h];exact ql0 l P (j+1)
theorem JM{V:qc}{l:List UInt8}{Q:Value→qc→Own→Prop}(hQ:Q (.bool (YI l)) V []):jA Tryz.prog 33 #[.string (bs l)] V [] Q:=by
 refine jg (args:=[_]) Tryz.func33 rfl Tryz.ntmps33 rfl ?_
 intro X w hM hb hw hV0 hR;dsimp only[Qu,Nat.zero_add,Nat.reduceAdd];have hl:∀w,(zeroValue 3).run Tryz.prog w = .ok (.int .i64 0) w:=Tryz.zeroValue3
 have hf:Instr.findNow .string (.string (bs l)) wdE.toList 0=some (qni l wdP 0):=by rw[qyL];exact qrK l wdP 0 0
 have hv:=ql0 l wdP 0
 refine js ?_
 refine qA ?_
 refine qW rfl (qB rfl ?_)
 refine jt ?_
 refine q9 ?_
 first | refine js ?_ | skip
 refine qA ?_
 refine qW rfl ?_
 refine qQ (first:=[]) (cap:=[]) tb rfl rfl rfl (qu1 (V:=V) (Q:=fun v V' G'=>∃b,v = .map (some b)∧V'=V∧G'=[(b,.map wdE 15)]) fun b=>⟨b,rfl,rfl,rfl⟩) (zN _) ?_
 rintro _ _ _ hs2 ⟨b,rfl,rfl,rfl⟩
 refine qW rfl (qY rfl ?_)
 refine qW rfl ?_
 refine qnh (kt:=9) (et:=3) (z:=.int .i64 0) rfl rfl uMap J7 hf hl Has.here ?_
 rw[hv];refine qW rfl (Yu rfl rfl ?_)
 refine qW rfl (qB rfl ?_)
 refine jt ?_
 refine q9 ?_
 refine jx ?_
 exact jo hM hw hV0 hR [] (Kt _) (qcG rfl rfl) hQ
end Fly
namespace Su
open Go Go.Proofs Fly
noncomputable def qwb:PrimD:=prim (d1 cS) (d1 cB) qvK
theorem qAB:OkT 33 qwb:=by
 refine⟨by kernel_rfl,fun xs y h V vs _ hr=>?_,fun j hj=>nomatch hj⟩
 obtain⟨s,h1,h2⟩:=osm (show((d1 cS).dec xs).bind qvK=some y from h)
 have hr2:=(d1 cS).rep h1 hr
 have:=soi h2;subst this
 cases hr2 with | cons k1 k2=>
 cases k2 with | nil=>
 cases k1 with | s k1=>
 have e:s=bs (lb s):=(qcD s).symm
 rw[e];exact JM ⟨[_],.cons (.s rfl) .nil,rfl⟩
end Su
end
section
namespace Go.Proofs
open Go.Shelf
def Tryz.conts_ren:Go.Shelf.Ren:=⟨fun | 144=>174 | 143=>197 | 219=>220 | 217=>170 | 225=>213 | 224=>212 | 267=>230 | 266=>194 | 314=>237 | n=>n,fun | 9=>9 | 4=>4 | 3=>3 | 5=>5 | 46=>28 | 146=>227 | 51=>105 | n=>n,fun | 1=>3 | n=>n⟩
theorem Tryz.conts:Go.Proofs.Lays.n144 Tryz.prog Tryz.conts_ren:={
 mixed:=by kernel_rfl
 f143:=Tryz.func197.trans (congrArg some (by kernel_rfl))
 f144:=Tryz.func174.trans (congrArg some (by kernel_rfl))
 f217:=Tryz.func170.trans (congrArg some (by kernel_rfl))
 f219:=Tryz.func220.trans (congrArg some (by kernel_rfl))
 f224:=Tryz.func212.trans (congrArg some (by kernel_rfl))
 f225:=Tryz.func213.trans (congrArg some (by kernel_rfl))
 f266:=Tryz.func194.trans (congrArg some (by kernel_rfl))
 f267:=Tryz.func230.trans (congrArg some (by kernel_rfl))
 f314:=Tryz.func237.trans (congrArg some (by kernel_rfl))
 t3:=Tryz.underlying3
 a3:=Tryz.isAgg3
 z3:=Tryz.sizeOf3
 v3:=Tryz.zeroValue3
 t4:=Tryz.underlying4
 a4:=Tryz.isAgg4
 z4:=Tryz.sizeOf4
 v4:=Tryz.zeroValue4
 t5:=Tryz.underlying5
 a5:=Tryz.isAgg5
 z5:=Tryz.sizeOf5
 v5:=Tryz.zeroValue5
 t9:=Tryz.underlying9
 a9:=Tryz.isAgg9
 z9:=Tryz.sizeOf9
 v9:=Tryz.zeroValue9
 t46:=Tryz.underlying28
 a46:=Tryz.isAgg28
 z46:=Tryz.sizeOf28
 v46:=Tryz.zeroValue28
 t51:=Tryz.underlying105
 a51:=Tryz.isAgg105
 z51:=Tryz.sizeOf105
 v51:=Tryz.zeroValue105
 t146:=Tryz.underlying227
 a146:=Tryz.isAgg227
 z146:=Tryz.sizeOf227
 v146:=Tryz.zeroValue227
 g1:=by kernel_rfl }
def Tryz.parseU_ren:Go.Shelf.Ren:=⟨fun | 14=>173 | 16=>195 | 17=>196 | 19=>214 | 20=>215 | 21=>216 | 22=>217 | 23=>218 | 24=>219 | 25=>228 | 27=>94 | 26=>229 | 28=>145 | 29=>184 | 30=>205 | 31=>206 | 32=>207 | 33=>208 | 35=>122 | 34=>224 | 36=>225 | 37=>226 | 38=>227 | 39=>235 | 40=>236 | n=>n,fun | 9=>9 | 3=>3 | 22=>22 | 24=>193 | 25=>213 | 4=>4 | 34=>256 | 5=>5 | 36=>28 | 37=>129 | 0=>0 | 39=>258 | 21=>21 | 44=>270 | 47=>191 | 50=>279 | 48=>277 | 2=>2 | 52=>245 | 55=>247 | 59=>266 | 60=>105 | 20=>20 | 61=>267 | 65=>282 | 66=>283 | 67=>96 | n=>n,fun | 0=>5 | 1=>6 | 2=>4 | 3=>7 | 4=>8 | n=>n⟩
theorem Tryz.parseU:Go.Proofs.LaysPu.n14 Tryz.prog Tryz.parseU_ren:={
 mixed:=by kernel_rfl
 f14:=Tryz.func173.trans (congrArg some (by kernel_rfl))
 f16:=Tryz.func195.trans (congrArg some (by kernel_rfl))
 f17:=Tryz.func196.trans (congrArg some (by kernel_rfl))
 f19:=Tryz.func214.trans (congrArg some (by kernel_rfl))
 f20:=Tryz.func215.trans (congrArg some (by kernel_rfl))
 f21:=Tryz.func216.trans (congrArg some (by kernel_rfl))
 f22:=Tryz.func217.trans (congrArg some (by kernel_rfl))
 f23:=Tryz.func218.trans (congrArg some (by kernel_rfl))
 f24:=Tryz.func219.trans (congrArg some (by kernel_rfl))
 f25:=Tryz.func228.trans (congrArg some (by kernel_rfl))
 f26:=Tryz.func229.trans (congrArg some (by kernel_rfl))
 f27:=Tryz.func94.trans (congrArg some (by kernel_rfl))
 f28:=Tryz.func145.trans (congrArg some (by kernel_rfl))
 f29:=Tryz.func184.trans (congrArg some (by kernel_rfl))
 f30:=Tryz.func205.trans (congrArg some (by kernel_rfl))
 f31:=Tryz.func206.trans (congrArg some (by kernel_rfl))
 f32:=Tryz.func207.trans (congrArg some (by kernel_rfl))
 f33:=Tryz.func208.trans (congrArg some (by kernel_rfl))
 f34:=Tryz.func224.trans (congrArg some (by kernel_rfl))
 f35:=Tryz.func122.trans (congrArg some (by kernel_rfl))
 f36:=Tryz.func225.trans (congrArg some (by kernel_rfl))
 f37:=Tryz.func226.trans (congrArg some (by kernel_rfl))
 f38:=Tryz.func227.trans (congrArg some (by kernel_rfl))
 f39:=Tryz.func235.trans (congrArg some (by kernel_rfl))
 f40:=Tryz.func236.trans (congrArg some (by kernel_rfl))
 t0:=Tryz.underlying0
 a0:=Tryz.isAgg0
 z0:=Tryz.sizeOf0
 v0:=Tryz.zeroValue0
 i0:=by kernel_rfl
 t2:=Tryz.underlying2
 a2:=Tryz.isAgg2
 z2:=Tryz.sizeOf2
 v2:=Tryz.zeroValue2
 i2:=by kernel_rfl
 t3:=Tryz.underlying3
 a3:=Tryz.isAgg3
 z3:=Tryz.sizeOf3
 v3:=Tryz.zeroValue3
 i3:=by kernel_rfl
 t4:=Tryz.underlying4
 a4:=Tryz.isAgg4
 z4:=Tryz.sizeOf4
 v4:=Tryz.zeroValue4
 i4:=by kernel_rfl
 t5:=Tryz.underlying5
 a5:=Tryz.isAgg5
 z5:=Tryz.sizeOf5
 v5:=Tryz.zeroValue5
 i5:=by kernel_rfl
 t9:=Tryz.underlying9
 a9:=Tryz.isAgg9
 z9:=Tryz.sizeOf9
 v9:=Tryz.zeroValue9
 i9:=by kernel_rfl
 t20:=Tryz.underlying20
 a20:=Tryz.isAgg20
 z20:=Tryz.sizeOf20
 v20:=Tryz.zeroValue20
 i20:=by kernel_rfl
 t21:=Tryz.underlying21
 a21:=Tryz.isAgg21
 z21:=Tryz.sizeOf21
 v21:=Tryz.zeroValue21
 i21:=by kernel_rfl
 t22:=Tryz.underlying22
 a22:=Tryz.isAgg22
 z22:=Tryz.sizeOf22
 v22:=Tryz.zeroValue22
 i22:=by kernel_rfl
 t24:=Tryz.underlying193
 a24:=Tryz.isAgg193
 z24:=Tryz.sizeOf193
 v24:=Tryz.zeroValue193
 i24:=by kernel_rfl
 t25:=Tryz.underlying213
 a25:=Tryz.isAgg213
 z25:=Tryz.sizeOf213
 v25:=Tryz.zeroValue213
 i25:=by kernel_rfl
 t34:=Tryz.underlying256
 a34:=Tryz.isAgg256
 z34:=Tryz.sizeOf256
 v34:=Tryz.zeroValue256
 i34:=by kernel_rfl
 c34:=by kernel_rfl
 t36:=Tryz.underlying28
 a36:=Tryz.isAgg28
 z36:=Tryz.sizeOf28
 v36:=Tryz.zeroValue28
 i36:=by kernel_rfl
 t37:=Tryz.underlying129
 a37:=Tryz.isAgg129
 z37:=Tryz.sizeOf129
 v37:=Tryz.zeroValue129
 i37:=by kernel_rfl
 t39:=Tryz.underlying258
 a39:=Tryz.isAgg258
 z39:=Tryz.sizeOf258
 v39:=Tryz.zeroValue258
 i39:=by kernel_rfl
 t44:=Tryz.underlying270
 a44:=Tryz.isAgg270
 z44:=Tryz.sizeOf270
 v44:=Tryz.zeroValue270
 i44:=by kernel_rfl
 t47:=Tryz.underlying191
 a47:=Tryz.isAgg191
 z47:=Tryz.sizeOf191
 v47:=Tryz.zeroValue191
 i47:=by kernel_rfl
 t48:=Tryz.underlying277
 a48:=Tryz.isAgg277
 z48:=Tryz.sizeOf277
 v48:=Tryz.zeroValue277
 i48:=by kernel_rfl
 t50:=Tryz.underlying279
 a50:=Tryz.isAgg279
 z50:=Tryz.sizeOf279
 v50:=Tryz.zeroValue279
 i50:=by kernel_rfl
 t52:=Tryz.underlying245
 a52:=Tryz.isAgg245
 z52:=Tryz.sizeOf245
 v52:=Tryz.zeroValue245
 i52:=by kernel_rfl
 t55:=Tryz.underlying247
 a55:=Tryz.isAgg247
 z55:=Tryz.sizeOf247
 v55:=Tryz.zeroValue247
 i55:=by kernel_rfl
 t59:=Tryz.underlying266
 a59:=Tryz.isAgg266
 z59:=Tryz.sizeOf266
 v59:=Tryz.zeroValue266
 i59:=by kernel_rfl
 t60:=Tryz.underlying105
 a60:=Tryz.isAgg105
 z60:=Tryz.sizeOf105
 v60:=Tryz.zeroValue105
 i60:=by kernel_rfl
 t61:=Tryz.underlying267
 a61:=Tryz.isAgg267
 z61:=Tryz.sizeOf267
 t65:=Tryz.underlying282
 a65:=Tryz.isAgg282
 z65:=Tryz.sizeOf282
 v65:=Tryz.zeroValue282
 i65:=by kernel_rfl
 t66:=Tryz.underlying283
 a66:=Tryz.isAgg283
 z66:=Tryz.sizeOf283
 v66:=Tryz.zeroValue283
 i66:=by kernel_rfl
 t67:=Tryz.underlying96
 a67:=Tryz.isAgg96
 z67:=Tryz.sizeOf96
 v67:=Tryz.zeroValue96
 i67:=by kernel_rfl
 g0:=by kernel_rfl
 m0:=by kernel_rfl
 g1:=by kernel_rfl
 m1:=by kernel_rfl
 g2:=by kernel_rfl
 m2:=by kernel_rfl
 g3:=by kernel_rfl
 m3:=by kernel_rfl
 g4:=by kernel_rfl
 m4:=by kernel_rfl }
end Go.Proofs
end
section
namespace Su
open Go Go.Proofs Fly
theorem qwc{V:qc}{w:World}(hs:Z3 V w):Holds ⟨keys [],w,V,fun _ _ _=>False⟩ V [] w :=
 ⟨Ext.refl _ _,hs,(fun p hp=>by cases hp),(fun p hp=>by cases hp),.nil,Sub.refl _,fun r h0 hr=>absurd h0 hr⟩
theorem qyM(s:ByteArray):(lb s).length=s.size:=by unfold lb;rw[KS];rfl
theorem qyN:∀ {v:Value},qjk 0 v=true→∃m,v = .int .i64 m
 | .int .i64 m,_=>⟨m,rfl⟩
theorem qyO:∀ {v:Value},qjk 1 v=true→∃t p,v = .iface t p
 | .iface t p,_=>⟨t,p,rfl⟩
noncomputable def qrL:PrimD:=prim (dc cS (d1 cS)) (d1 cB) qer
theorem qyP:OkT 174 qrL:=by
 refine⟨by kernel_rfl,fun xs y h V vs hgk hr=>?_,fun j hj=>nomatch hj⟩
 obtain⟨p,h1,h2⟩:=osm (show((dc cS (d1 cS)).dec xs).bind qer=some y from h)
 have hr2:=(dc cS (d1 cS)).rep h1 hr
 obtain⟨s,c⟩:=p;obtain⟨h3,h4⟩:=qh h2;have:=soi h4;subst this
 have h3:s.size≤1000000:=zo h3
 cases hr2 with | cons k1 k2=>
 cases k2 with | cons k2 k3=>
 cases k3 with | nil=>
 cases k1 with | s k1=>
 cases k2 with | s k2=>
 intro w hs _ _ _;obtain⟨v,e,f,g1,g2⟩:=hgk.2 3 0 rfl
 obtain⟨m,rfl⟩:=qyN g2;have hm:w.cell? ⟨3,0,none⟩=some (.int .i64 m):=yL (hs _ _ g1)
 refine(Any.strings_Contains Tryz.conts s c m w (by omega) hm).mono ?_
 rintro e w' ⟨rfl,rfl⟩
 exact⟨_,V,[],rfl,qwc hs,[_],.cons (.s rfl) .nil,rfl⟩
theorem qrM{V:qc}{w w':World}(hs:Z3 V w)(hB:RowKit.Below w.heap.size w w'):Holds ⟨keys [],w,V,fun _ _ _=>False⟩ V [] w':=by
 refine⟨⟨hB.os,hB.tape,hB.output,hB.size,fun k hk _=>hB.block k hk⟩,fun r o hr=>?_,(fun p hp=>by cases hp),(fun p hp=>by cases hp),.nil,Sub.refl _,fun r h0 hr=>absurd h0 hr⟩
 have:=hs r o hr
 rw[hB.block r (Ka.1 this).1];exact this
theorem qwd{V:qc}{l:List UInt8}{Q:Value→qc→Own→Prop}(h0:l≠[])(hd:∀c∈l,isD c=true)(hl:l.length≤400)(hlt:dv l<18446744073709551616)(hQ:Q (.tuple #[.int .u64 ((dv l:Nat):Int),.nilIface]) V []) :
 jA Tryz.prog 173 #[.string (bs l),.int .i64 10,.int .i64 64] V [] Q:=by
 intro w hs _ _ _;have h:Lib.parseUintB 64 (bs l).data.toList = .ok (dv l):=(qp1 h0 hd).trans (zA hlt)
 refine(Any.strconv_ParseUint_10_at64_ok Tryz.parseU (bs l) (by rw[qe];omega) _ h w).mono ?_
 rintro e w' ⟨rfl,h | h⟩
 · subst h;exact⟨_,V,[],rfl,qwc hs,hQ⟩
 · subst h;exact⟨_,V,[],rfl,qrM hs (Lib.bytesWorld_below _ _ _),hQ⟩
theorem qrN{V:qc}(hgk:GOK tb V){l:List UInt8}{Q:Value→qc→Own→Prop}(h0:l≠[])(hd:∀c∈l,isD c=true)(hl:l.length≤400)(hlt : ¬dv l<18446744073709551616)(hQ:∀t p,Q (.tuple #[.int .u64 18446744073709551615,.iface t p]) V []) :
 jA Tryz.prog 173 #[.string (bs l),.int .i64 10,.int .i64 64] V [] Q:=by
 intro w hs _ _ _;have h:Lib.parseUintB 64 (bs l).data.toList = .range:=(qp1 h0 hd).trans (zw hlt)
 obtain⟨v,e,f,g1,g2⟩:=hgk.2 6 1 rfl
 obtain⟨t,p,rfl⟩:=qyO g2;have hm:w.cell? ⟨6,0,none⟩=some (.iface t p):=yL (hs _ _ g1)
 refine(Any.strconv_ParseUint_10_at64_range Tryz.parseU (bs l) (by rw[qe];omega) h _ w hm (.inr ⟨t,p,rfl⟩)).mono ?_
 rintro e w' ⟨N,rfl,_,_,hB⟩
 exact⟨_,V,[],rfl,qrM hs hB,hQ _ _⟩
theorem qiP{V:qc}(hgk:GOK tb V){l:List UInt8}(hl:l.length≤400){Q:Value→qc→Own→Prop}(hQ:Qw (.int .u64 (yX l).1)=true→∀V',Q (.tuple #[.int .u64 (yX l).1,.int .i64 (yX l).2]) V' []) :
 jA Tryz.prog 17 #[.string (bs l)] V [] Q:=by
 have h:(∀xs y,((d1 cS).dec xs).bind qb8=some y→∀V vs,GOK tb V→RepA V xs vs→jA Tryz.prog 17 vs.toArray V [] fun v V' _=>∃rvs,RepA V' ((dc (cI .u64) (d1 (cI .i64))).enc y) rvs∧v=QI rvs)∧_:=qrG.2
 have hr:RepA V [.s (.string (bs l))] [.string (bs l)]:=.cons (.s (zp (by rw[qe,yG];omega))) .nil
 have hF:=h.1 _ _ (show((d1 cS).dec [.s (.string (bs l))]).bind qb8=some _ from qpZ _) V _ hgk hr
 intro w a1 a2 a3 a4;refine(hF w a1 a2 a3 a4).mono ?_
 rintro e w' ⟨v,V',G',rfl,hh,rvs,m1,rfl⟩
 refine⟨_,V',[],rfl,hh.sublist (Kt _),?_⟩
 cases m1 with | cons k1 k2=>cases k2 with | cons k2 k3=>cases k3 with | nil=>cases k1 with | s h=>cases k2 with | s _=>exact hQ h V'
end Su
namespace Fly
open Go Go.Proofs Su
set_option maxRecDepth 10000
theorem qyQ:∃ms,Tryz.prog.underlying 193=some (.interface ms):=⟨_,Tryz.underlying193⟩
abbrev tkV(k a:Int)(x:ByteArray)(i f:Int):List Value:=[.int .u8 k,.int .i64 a,.string x,.int .i32 i,.int .u64 f]
attribute [local irreducible] WC WE WR Opr St Go.Calls qhe qiY qaL Rel jA qhy qi2 Owe One qdi Go.CallsD
theorem qyR{V:qc}{k a i f:Int}{x:ByteArray}{l:List UInt8}{Q:Value→qc→Own→Prop}{fl:Bool}(hl:400<l.length)(hQ:∀V' G,Q (.tuple #[.agg (tkV k a x i f).toArray,.int .i64 91]) V' G) :
 jA Tryz.prog 130 #[.agg (tkV k a x i f).toArray,.string (bs l),.bool fl] V [] Q:=by
 refine jg (args:=[_,_,_]) Tryz.func130 rfl Tryz.ntmps130 rfl ?_
 intro X w hM hb hw hV0 hR;dsimp only[Qu,Nat.zero_add,Nat.reduceAdd]
 (repeat' (first | refine js ?_ | refine qA ?_ | refine jt ?_ | refine q9 ?_ | refine qV ?_ | refine ji ?_ | refine jC ?_ | refine jj ?_ | refine qp ?_ | refine qo ?_ | refine qy rfl ?_ | refine qw ?_ | refine jx ?_ | ((first | refine qW rfl ?_ | refine jk ?_ | refine yn rfl rfl rfl ?_);(first | (apply Q0;(· exact rfl);(· exact rfl);(· exact J7)) | (apply Jk;(· exact rfl);(· exact rfl);(· rw[qe];omega)) | refine qY rfl ?_ | refine qB rfl ?_ | refine qz rfl rfl ?_ | refine jD rfl ?_ | refine qG rfl rfl ?_ | refine qH rfl rfl ?_ | refine jc rfl rfl (by omega) (by omega) ?_ | refine qk tb rfl rfl ?_ | refine qx tb rfl rfl rfl ?_ | (apply qZ tb rfl rfl;(· (first | (refine At.own (?_);repeat (first | exact Has.here | refine Has.there ?_)) | exact At.seen (by assumption)));(· exact rfl)) | (apply qX tb rfl rfl;(· (first | (refine At.own (?_);repeat (first | exact Has.here | refine Has.there ?_)) | exact At.seen (by assumption)));(· exact rfl)) | (apply qI tb rfl rfl rfl rfl rfl;(· (repeat (first | exact Upd.here | apply Upd.there)));(· exact rfl)) | (apply qL tb rfl rfl rfl rfl rfl;(· (repeat (first | exact Upd.here | apply Upd.there)));(· exact rfl)) | (apply qT tb (by kernel_rfl) rfl (rfl:tb.fo _ 0=_);(· (repeat (first | exact Fill.nil | (apply Fill.cons;(· exact rfl);(· exact rfl);(· exact rfl);(· exact rfl);(· exact rfl)))))) | (refine ja rfl ?_;intro b) | (refine jf rfl rfl ?_;intro b) | (refine qS tb rfl ?_;intro b))) | refine QH rfl rfl rfl rfl ?_ | refine qE rfl ?_ | refine qF rfl ?_))
 exact jo hM hw hV0 hR [] (Kt _) (ql8 rfl ⟨_,rfl,fun w hw=>rdN tb rfl (by(refine At.own ?_;repeat (first | exact Has.here | refine Has.there ?_))) rfl hw⟩ rfl) (hQ _ _)
theorem qyS{V:qc}(hgk:GOK Su.tb V){k a i f:Int}{x:ByteArray}{l:List UInt8}{Q:Value→qc→Own→Prop}(hl:l.length≤400)(he:(yX l).2≠0)(hQ:∀V' G,Q (.tuple #[.agg (tkV k a x i f).toArray,.int .i64 93]) V' G) :
 jA Tryz.prog 130 #[.agg (tkV k a x i f).toArray,.string (bs l),.bool true] V [] Q:=by
 refine jg (args:=[_,_,_]) Tryz.func130 rfl Tryz.ntmps130 rfl ?_
 intro X w hM hb hw hV0 hR;dsimp only[Qu,Nat.zero_add,Nat.reduceAdd]
 (repeat' (first | refine js ?_ | refine qA ?_ | refine jt ?_ | refine q9 ?_ | refine qV ?_ | refine ji ?_ | refine jC ?_ | refine jj ?_ | refine qp ?_ | refine qo ?_ | refine qy rfl ?_ | refine qw ?_ | refine jx ?_ | ((first | refine qW rfl ?_ | refine jk ?_ | refine yn rfl rfl rfl ?_);(first | (apply Q0;(· exact rfl);(· exact rfl);(· exact J7)) | (apply Jl;(· exact rfl);(· exact rfl);(· first | (rw[qe];omega) | omega)) | (apply Jk;(· exact rfl);(· exact rfl);(· first | decide | omega)) | (refine qQ (first:=[]) (cap:=[]) tb rfl rfl rfl (qiP (Q:=fun v _ G=>v = .tuple #[.int .u64 (yX l).1,.int .i64 (yX l).2]∧G=[]∧Qw (.int .u64 (yX l).1)=true) hgk hl fun h _=>⟨rfl,rfl,h⟩) (zN _) ?_;rintro _ _ _ hs2 ⟨rfl,rfl,hsc⟩;dsimp only[List.nil_append]) | (apply quY;(· exact rfl);(· exact rfl);(· exact he)) | refine qY rfl ?_ | refine qB rfl ?_ | refine qz rfl rfl ?_ | refine jD rfl ?_ | refine qG rfl rfl ?_ | refine qH rfl rfl ?_ | refine jc rfl rfl (by omega) (by omega) ?_ | refine qk tb rfl rfl ?_ | refine qx tb rfl rfl rfl ?_ | (apply qZ tb rfl rfl;(· (first | (refine At.own (?_);repeat (first | exact Has.here | refine Has.there ?_)) | exact At.seen (by assumption)));(· exact rfl)) | (apply qX tb rfl rfl;(· (first | (refine At.own (?_);repeat (first | exact Has.here | refine Has.there ?_)) | exact At.seen (by assumption)));(· exact rfl)) | (apply qI tb rfl rfl rfl rfl rfl;(· (repeat (first | exact Upd.here | apply Upd.there)));(· exact rfl)) | (apply qL tb rfl rfl rfl rfl rfl;(· (repeat (first | exact Upd.here | apply Upd.there)));(· exact rfl)) | (apply qT tb (by kernel_rfl) rfl (rfl:tb.fo _ 0=_);(· (repeat (first | exact Fill.nil | (apply Fill.cons;(· exact rfl);(· exact rfl);(· exact rfl);(· exact rfl);(· exact rfl)))))) | (refine ja rfl ?_;intro b) | (refine jf rfl rfl ?_;intro b) | (refine qS tb rfl ?_;intro b))) | refine QH rfl rfl rfl rfl ?_ | refine qE rfl ?_ | refine qF rfl ?_))
 exact jo hM hw hV0 hR [] (Kt _) (ql8 rfl ⟨_,rfl,fun w hw=>rdN tb rfl (by(refine At.own ?_;repeat (first | exact Has.here | refine Has.there ?_))) rfl hw⟩ rfl) (hQ _ _)
theorem qAC{V:qc}(hgk:GOK Su.tb V){k a i f:Int}{x:ByteArray}{l:List UInt8}{Q:Value→qc→Own→Prop}(hl:l.length≤400)(he:(yX l).2=0)(hQ:Qw (.int .u64 (yX l).1)=true→∀V' G,Q (.tuple #[.agg (tkV 3 a x i (yX l).1).toArray,.int .i64 0]) V' G) :
 jA Tryz.prog 130 #[.agg (tkV k a x i f).toArray,.string (bs l),.bool true] V [] Q:=by
 refine jg (args:=[_,_,_]) Tryz.func130 rfl Tryz.ntmps130 rfl ?_
 intro X w hM hb hw hV0 hR;dsimp only[Qu,Nat.zero_add,Nat.reduceAdd]
 (repeat' (first | refine js ?_ | refine qA ?_ | refine jt ?_ | refine q9 ?_ | refine qV ?_ | refine ji ?_ | refine jC ?_ | refine jj ?_ | refine qp ?_ | refine qo ?_ | refine qy rfl ?_ | refine qw ?_ | refine jx ?_ | ((first | refine qW rfl ?_ | refine jk ?_ | refine yn rfl rfl rfl ?_);(first | (apply Q0;(· exact rfl);(· exact rfl);(· exact J7)) | (apply Jl;(· exact rfl);(· exact rfl);(· first | (rw[qe];omega) | omega)) | (apply Jk;(· exact rfl);(· exact rfl);(· first | decide | omega)) | (refine qQ (first:=[]) (cap:=[]) tb rfl rfl rfl (qiP (Q:=fun v _ G=>v = .tuple #[.int .u64 (yX l).1,.int .i64 (yX l).2]∧G=[]∧Qw (.int .u64 (yX l).1)=true) hgk hl fun h _=>⟨rfl,rfl,h⟩) (zN _) ?_;rintro _ _ _ hs2 ⟨rfl,rfl,hsc⟩;dsimp only[List.nil_append]) | (apply qrJ;(· exact rfl);(· exact rfl);(· exact he)) | refine qY rfl ?_ | refine qB rfl ?_ | refine qz rfl rfl ?_ | refine jD rfl ?_ | refine qG rfl rfl ?_ | refine qH rfl rfl ?_ | refine jc rfl rfl (by omega) (by omega) ?_ | refine qk tb rfl rfl ?_ | refine qx tb rfl rfl rfl ?_ | (apply qZ tb rfl rfl;(· (first | (refine At.own (?_);repeat (first | exact Has.here | refine Has.there ?_)) | exact At.seen (by assumption)));(· exact rfl)) | (apply qX tb rfl rfl;(· (first | (refine At.own (?_);repeat (first | exact Has.here | refine Has.there ?_)) | exact At.seen (by assumption)));(· exact rfl)) | (apply qI tb rfl rfl rfl rfl rfl;(· (repeat (first | exact Upd.here | apply Upd.there)));(· exact rfl)) | (apply qL tb rfl rfl rfl rfl rfl;(· (repeat (first | exact Upd.here | apply Upd.there)));(· exact rfl)) | (apply qT tb (by kernel_rfl) rfl (rfl:tb.fo _ 0=_);(· (repeat (first | exact Fill.nil | (apply Fill.cons;(· exact rfl);(· exact rfl);(· exact rfl);(· exact rfl);(· exact rfl)))))) | (refine ja rfl ?_;intro b) | (refine jf rfl rfl ?_;intro b) | (refine qS tb rfl ?_;intro b))) | refine QH rfl rfl rfl rfl ?_ | refine qE rfl ?_ | refine qF rfl ?_))
 exact jo hM hw hV0 hR [] (Kt _) (ql8 rfl ⟨_,rfl,fun w hw=>rdN tb rfl (by(refine At.own ?_;repeat (first | exact Has.here | refine Has.there ?_))) rfl hw⟩ rfl) (hQ hsc _ _)
theorem qAD{V:qc}(hgk:GOK Su.tb V){k a i f:Int}{x:ByteArray}{l:List UInt8}{Q:Value→qc→Own→Prop}(hl:l.length≤400)(h0:l≠[])(hd:∀c∈l,isD c=true)(hlt : ¬dv l<18446744073709551616)(hQ:∀V' G,Q (.tuple #[.agg (tkV k a x i f).toArray,.int .i64 92]) V' G) :
 jA Tryz.prog 130 #[.agg (tkV k a x i f).toArray,.string (bs l),.bool false] V [] Q:=by
 obtain⟨ms,hms⟩:=qyQ;refine jg (args:=[_,_,_]) Tryz.func130 rfl Tryz.ntmps130 rfl ?_
 intro X w hM hb hw hV0 hR;dsimp only[Qu,Nat.zero_add,Nat.reduceAdd]
 (repeat' (first | refine js ?_ | refine qA ?_ | refine jt ?_ | refine q9 ?_ | refine qV ?_ | refine ji ?_ | refine jC ?_ | refine jj ?_ | refine qp ?_ | refine qo ?_ | refine qy rfl ?_ | refine qw ?_ | refine jx ?_ | ((first | refine qW rfl ?_ | refine jk ?_ | refine yn rfl rfl rfl ?_);(first | (apply Q0;(· exact rfl);(· exact rfl);(· exact J7)) | (apply Jl;(· exact rfl);(· exact rfl);(· first | (rw[qe];omega) | omega)) | (apply Jk;(· exact rfl);(· exact rfl);(· first | decide | omega)) | (refine qQ (first:=[]) (cap:=[]) tb rfl rfl rfl (qrN (V:=V) (Q:=fun v _ G=>∃t p,v = .tuple #[.int .u64 18446744073709551615,.iface t p]∧G=[]) hgk h0 hd hl hlt fun t p=>⟨t,p,rfl,rfl⟩) (zN _) ?_;rintro _ _ _ hs2 ⟨t,p,rfl,rfl⟩;dsimp only[List.nil_append]) | (apply quZ;(· exact rfl);(· exact hms)) | refine qY rfl ?_ | refine qB rfl ?_ | refine qz rfl rfl ?_ | refine jD rfl ?_ | refine qG rfl rfl ?_ | refine qH rfl rfl ?_ | refine jc rfl rfl (by omega) (by omega) ?_ | refine qk tb rfl rfl ?_ | refine qx tb rfl rfl rfl ?_ | (apply qZ tb rfl rfl;(· (first | (refine At.own (?_);repeat (first | exact Has.here | refine Has.there ?_)) | exact At.seen (by assumption)));(· exact rfl)) | (apply qX tb rfl rfl;(· (first | (refine At.own (?_);repeat (first | exact Has.here | refine Has.there ?_)) | exact At.seen (by assumption)));(· exact rfl)) | (apply qI tb rfl rfl rfl rfl rfl;(· (repeat (first | exact Upd.here | apply Upd.there)));(· exact rfl)) | (apply qL tb rfl rfl rfl rfl rfl;(· (repeat (first | exact Upd.here | apply Upd.there)));(· exact rfl)) | (apply qT tb (by kernel_rfl) rfl (rfl:tb.fo _ 0=_);(· (repeat (first | exact Fill.nil | (apply Fill.cons;(· exact rfl);(· exact rfl);(· exact rfl);(· exact rfl);(· exact rfl)))))) | (refine ja rfl ?_;intro b) | (refine jf rfl rfl ?_;intro b) | (refine qS tb rfl ?_;intro b))) | refine QH rfl rfl rfl rfl ?_ | refine qE rfl ?_ | refine qF rfl ?_))
 exact jo hM hw hV0 hR [] (Kt _) (ql8 rfl ⟨_,rfl,fun w hw=>rdN tb rfl (by(refine At.own ?_;repeat (first | exact Has.here | refine Has.there ?_))) rfl hw⟩ rfl) (hQ _ _)
theorem qAE{V:qc}{k a i f:Int}{x:ByteArray}{l:List UInt8}{Q:Value→qc→Own→Prop}(hl:l.length≤400)(h0:l≠[])(hd:∀c∈l,isD c=true)(hlt:dv l<18446744073709551616)(hgt:2147483647<dv l)(hQ:∀V' G,Q (.tuple #[.agg (tkV k a x i f).toArray,.int .i64 92]) V' G) :
 jA Tryz.prog 130 #[.agg (tkV k a x i f).toArray,.string (bs l),.bool false] V [] Q:=by
 obtain⟨ms,hms⟩:=qyQ;refine jg (args:=[_,_,_]) Tryz.func130 rfl Tryz.ntmps130 rfl ?_
 intro X w hM hb hw hV0 hR;dsimp only[Qu,Nat.zero_add,Nat.reduceAdd]
 (repeat' (first | refine js ?_ | refine qA ?_ | refine jt ?_ | refine q9 ?_ | refine qV ?_ | refine ji ?_ | refine jC ?_ | refine jj ?_ | refine qp ?_ | refine qo ?_ | refine qy rfl ?_ | refine qw ?_ | refine jx ?_ | ((first | refine qW rfl ?_ | refine jk ?_ | refine yn rfl rfl rfl ?_);(first | (apply Q0;(· exact rfl);(· exact rfl);(· exact J7)) | (apply Jl;(· exact rfl);(· exact rfl);(· first | (rw[qe];omega) | omega)) | (apply Jk;(· exact rfl);(· exact rfl);(· first | decide | omega)) | (refine qQ (first:=[]) (cap:=[]) tb rfl rfl rfl (qwd (V:=V) (Q:=fun v _ G=>v = .tuple #[.int .u64 ((dv l:Nat):Int),.nilIface]∧G=[]) h0 hd hl hlt ⟨rfl,rfl⟩) (zN _) ?_;rintro _ _ _ hs2 ⟨rfl,rfl⟩;dsimp only[List.nil_append]) | (apply qlZ;(· exact rfl);(· exact hms)) | refine qY rfl ?_ | refine qB rfl ?_ | refine qz rfl rfl ?_ | refine jD rfl ?_ | refine qG rfl rfl ?_ | refine qH rfl rfl ?_ | refine jc rfl rfl (by omega) (by omega) ?_ | refine qk tb rfl rfl ?_ | refine qx tb rfl rfl rfl ?_ | (apply qZ tb rfl rfl;(· (first | (refine At.own (?_);repeat (first | exact Has.here | refine Has.there ?_)) | exact At.seen (by assumption)));(· exact rfl)) | (apply qX tb rfl rfl;(· (first | (refine At.own (?_);repeat (first | exact Has.here | refine Has.there ?_)) | exact At.seen (by assumption)));(· exact rfl)) | (apply qI tb rfl rfl rfl rfl rfl;(· (repeat (first | exact Upd.here | apply Upd.there)));(· exact rfl)) | (apply qL tb rfl rfl rfl rfl rfl;(· (repeat (first | exact Upd.here | apply Upd.there)));(· exact rfl)) | (apply qT tb (by kernel_rfl) rfl (rfl:tb.fo _ 0=_);(· (repeat (first | exact Fill.nil | (apply Fill.cons;(· exact rfl);(· exact rfl);(· exact rfl);(· exact rfl);(· exact rfl)))))) | (refine ja rfl ?_;intro b) | (refine jf rfl rfl ?_;intro b) | (refine qS tb rfl ?_;intro b))) | refine QH rfl rfl rfl rfl ?_ | refine qE rfl ?_ | refine qF rfl ?_))
 exact jo hM hw hV0 hR [] (Kt _) (ql8 rfl ⟨_,rfl,fun w hw=>rdN tb rfl (by(refine At.own ?_;repeat (first | exact Has.here | refine Has.there ?_))) rfl hw⟩ rfl) (hQ _ _)
theorem qAF{V:qc}{k a i f:Int}{x:ByteArray}{l:List UInt8}{Q:Value→qc→Own→Prop}(hl:l.length≤400)(h0:l≠[])(hd:∀c∈l,isD c=true)(hlt:dv l<18446744073709551616)(hgt : ¬2147483647<dv l)(hQ:∀V' G,Q (.tuple #[.agg (tkV 2 a x ((dv l:Nat):Int) f).toArray,.int .i64 0]) V' G) :
 jA Tryz.prog 130 #[.agg (tkV k a x i f).toArray,.string (bs l),.bool false] V [] Q:=by
 obtain⟨ms,hms⟩:=qyQ;have hw32:IntKind.i32.wrap ((dv l:Nat):Int)=((dv l:Nat):Int):=QD (qkP.2 ⟨by omega,by omega⟩)
 have hQ:∀V' G,Q (.tuple #[.agg (tkV 2 a x (IntKind.i32.wrap ((dv l:Nat):Int)) f).toArray,.int .i64 0]) V' G:=by rw[hw32];exact hQ
 refine jg (args:=[_,_,_]) Tryz.func130 rfl Tryz.ntmps130 rfl ?_
 intro X w hM hb hw hV0 hR;dsimp only[Qu,Nat.zero_add,Nat.reduceAdd]
 (repeat' (first | refine js ?_ | refine qA ?_ | refine jt ?_ | refine q9 ?_ | refine qV ?_ | refine ji ?_ | refine jC ?_ | refine jj ?_ | refine qp ?_ | refine qo ?_ | refine qy rfl ?_ | refine qw ?_ | refine jx ?_ | ((first | refine qW rfl ?_ | refine jk ?_ | refine yn rfl rfl rfl ?_);(first | (apply Q0;(· exact rfl);(· exact rfl);(· exact J7)) | (apply Jl;(· exact rfl);(· exact rfl);(· first | (rw[qe];omega) | omega)) | (apply Jk;(· exact rfl);(· exact rfl);(· first | decide | omega)) | (refine qQ (first:=[]) (cap:=[]) tb rfl rfl rfl (qwd (V:=V) (Q:=fun v _ G=>v = .tuple #[.int .u64 ((dv l:Nat):Int),.nilIface]∧G=[]) h0 hd hl hlt ⟨rfl,rfl⟩) (zN _) ?_;rintro _ _ _ hs2 ⟨rfl,rfl⟩;dsimp only[List.nil_append]) | (apply qlZ;(· exact rfl);(· exact hms)) | refine qY rfl ?_ | refine qB rfl ?_ | refine qz rfl rfl ?_ | refine jD rfl ?_ | refine qG rfl rfl ?_ | refine qH rfl rfl ?_ | refine jc rfl rfl (by omega) (by omega) ?_ | refine qk tb rfl rfl ?_ | refine qx tb rfl rfl rfl ?_ | (apply qZ tb rfl rfl;(· (first | (refine At.own (?_);repeat (first | exact Has.here | refine Has.there ?_)) | exact At.seen (by assumption)));(· exact rfl)) | (apply qX tb rfl rfl;(· (first | (refine At.own (?_);repeat (first | exact Has.here | refine Has.there ?_)) | exact At.seen (by assumption)));(· exact rfl)) | (apply qI tb rfl rfl rfl rfl rfl;(· (repeat (first | exact Upd.here | apply Upd.there)));(· exact rfl)) | (apply qL tb rfl rfl rfl rfl rfl;(· (repeat (first | exact Upd.here | apply Upd.there)));(· exact rfl)) | (apply qT tb (by kernel_rfl) rfl (rfl:tb.fo _ 0=_);(· (repeat (first | exact Fill.nil | (apply Fill.cons;(· exact rfl);(· exact rfl);(· exact rfl);(· exact rfl);(· exact rfl)))))) | (refine ja rfl ?_;intro b) | (refine jf rfl rfl ?_;intro b) | (refine qS tb rfl ?_;intro b))) | refine QH rfl rfl rfl rfl ?_ | refine qE rfl ?_ | refine qF rfl ?_))
 exact jo hM hw hV0 hR [] (Kt _) (ql8 rfl ⟨_,rfl,fun w hw=>rdN tb rfl (by(refine At.own ?_;repeat (first | exact Has.here | refine Has.there ?_))) rfl hw⟩ rfl) (hQ _ _)
end Fly
namespace Su
open Go Go.Proofs Fly
noncomputable def qrO:PrimD:=prim (dc cTk (dc cS (d1 cB))) (dc cTk (d1 (cI .i64))) qb9
theorem qrP{l:List T}(h:(l.all fun t=>!t.isAgg)=true):∀t∈l,t.isAgg=false:=fun t ht=>by
 have:=Ke.1 h t ht
 cases hb:t.isAgg with
 | false=>rfl
 | true=>rw[hb]at this;cases this
theorem tkr{V':qc}{k a i f e:Int}{x:ByteArray}(h1:Qw (.int .u8 k)=true)(h2:Qw (.int .i64 a)=true)(h3:Qw (.string x)=true)(h4:Qw (.int .i32 i)=true)(h5:Qw (.int .u64 f)=true)(h6:Qw (.int .i64 e)=true) :
 ∃rvs,RepA V' ((dc cTk (d1 (cI .i64))).enc ((k,a,x,i,f),e)) rvs∧Value.tuple #[.agg (tkV k a x i f).toArray,.int .i64 e]=QI rvs :=
 ⟨[_,_],.cons (.agg (.cons (.s h1) (.cons (.s h2) (.cons (.s h3) (.cons (.s h4) (.cons (.s h5) .nil))))) (qrP rfl)) (.cons (.s h6) .nil),rfl⟩
theorem qyT:OkT 130 qrO:=by
 refine⟨by kernel_rfl,fun xs y h V vs hgk hr=>?_,fun j hj=>nomatch hj⟩
 obtain⟨p,h1,h2⟩:=osm (show((dc cTk (dc cS (d1 cB))).dec xs).bind qb9=some y from h)
 have hr2:=(dc cTk (dc cS (d1 cB))).rep h1 hr
 obtain⟨⟨k,a,x,i,f⟩,s,fl⟩:=p;cases hr2 with | cons k1 k2=>
 cases k2 with | cons k2 k3=>
 cases k3 with | cons k3 k4=>
 cases k4 with | nil=>
 cases k2 with | s k2=>
 cases k3 with | s k3=>
 cases k1 with | agg m hm=>
 cases m with | cons m1 m=>
 cases m with | cons m2 m=>
 cases m with | cons m3 m=>
 cases m with | cons m4 m=>
 cases m with | cons m5 m=>
 cases m with | nil=>
 cases m1 with | s m1=>
 cases m2 with | s m2=>
 cases m3 with | s m3=>
 cases m4 with | s m4=>
 cases m5 with | s m5=>
 revert h2;have e:s=bs (lb s):=(qcD s).symm
 have hsz:=qyM s;unfold qb9;intro h2;show jA Tryz.prog 130 #[.agg (tkV k a x i f).toArray,.string s,.bool fl] V [] _
 rw[e];by_cases hl:400<s.size
 · rw[show Nat.blt 400 s.size=true by rw[Vp];exact hl]at h2
   have:=soi h2;subst this
   exact qyR (by omega) fun _ _=>tkr m1 m2 m3 m4 m5 rfl
 · have hl':(lb s).length≤400:=by omega
   rw[show Nat.blt 400 s.size=false by cases h:Nat.blt 400 s.size with | false=>rfl | true=>rw[Vp]at h;exact absurd h hl]at h2;cases fl with
   | true=>
    by_cases he:(yX (lb s)).2=0
    · simp only[zm,zg,zb he]at h2
      have:=soi h2;subst this
      exact qAC hgk hl' he fun hsc _ _=>tkr rfl m2 m3 m4 hsc rfl
    · simp only[zm,zg,zk he]at h2
      have:=soi h2;subst this
      exact qyS hgk hl' he fun _ _=>tkr m1 m2 m3 m4 m5 rfl
   | false=>
    obtain⟨h3,h4⟩:=qh (show(bif !(lb s).isEmpty&&(lb s).all isD then(bif Nat.blt 2147483647 (dv (lb s))then some ((k,a,x,i,f),(92:Int))else some ((2,a,x,((dv (lb s):Nat):Int),f),0))else none)=some y from h2)
    rw[zn]at h3;have h0:lb s≠[]:=fun e0=>by rw[e0]at h3;exact absurd h3.1 (by decide)
    have hd:=Ke.1 h3.2;by_cases hgt:2147483647<dv (lb s)
    · rw[show Nat.blt 2147483647 (dv (lb s))=true by rw[Vp];exact hgt]at h4
      have:=soi h4;subst this
      by_cases hlt:dv (lb s)<18446744073709551616
      · exact qAE hl' h0 hd hlt hgt fun _ _=>tkr m1 m2 m3 m4 m5 rfl
      · exact qAD hgk hl' h0 hd hlt fun _ _=>tkr m1 m2 m3 m4 m5 rfl
    · rw[show Nat.blt 2147483647 (dv (lb s))=false by cases h:Nat.blt 2147483647 (dv (lb s))with | false=>rfl | true=>rw[Vp]at h;exact absurd h hgt]at h4
      have:=soi h4;subst this
      exact qAF hl' h0 hd (by omega) hgt fun _ _=>tkr rfl m2 m3 (show inR .i32 _=true from qkP.2 ⟨by omega,by omega⟩) m5 rfl
end Su
end
section
namespace Su
open Go Go.Proofs Fly
set_option maxRecDepth 100000
noncomputable def qrQ:qK:=jV [(174,qrL),(33,qwb),(130,qrO)] qrH
theorem Jr:PkT qrQ:=qu qnd (qm qyP (qm qAB (qm qyT qO)))
end Su
end
section
namespace Su
noncomputable section
open Go Go.Proofs Fly
set_option maxRecDepth 100000
def qrR:PrimD:=prim (dc cS (d1 (cI .i64))) (d1 cB) (j4)
theorem qyU:OkT 172 qrR:=yl jy Jr (fun a=>qp2 a.1 a.2) (by kernel_rfl) (fun _ _=>by kernel_rfl) quc
def qwe:PrimD:=prim (dc cS (d1 cS)) (d1 cB) (qvM)
theorem qAG:OkT 126 qwe:=yl jy Jr (fun a=>tHP a.1 a.2) (by kernel_rfl) (fun _ _=>by kernel_rfl) qxP
def qrS:PrimD:=prim (d1 cS) (d1 cS) (qaE)
theorem qyV:OkT 131 qrS:=yl jy Jr (fun a=>qub a) (by kernel_rfl) (fun _ _=>by kernel_rfl) que
def qrT:PrimD:=prim (d1 (cI .u8)) (d1 cB) (YJ)
theorem qrU:OkT 77 qrT:=yl jy Jr (fun a=>qxO a) (by kernel_rfl) (fun _ _=>by kernel_rfl) qug
def ql1:PrimD:=prim (dc cS (d1 (cI .i64))) (d1 (cI .i64)) (JW)
theorem qu2:OkT 70 ql1:=yT jy Jr (fun fu a=>qlA fu a.1 a.2) (by kernel_rfl) (fun _ _=>by kernel_rfl) qp5
def qrV:qK:=jV [(172,qrR),(126,qwe),(131,qrS),(77,qrT),(70,ql1)] qrQ
theorem qfZ:PkT qrV:=qu Jr (qm qyU (qm qAG (qm qyV (qm qrU (qm qu2 qO)))))
end
end Su
end
section
namespace Su
noncomputable section
open Go Go.Proofs Fly
set_option maxRecDepth 100000
def qrW:PrimD:=prim (dc cS (d1 (cI .i64))) (dc (cI .i64) (d1 cB)) (qca)
theorem qyW:OkT 129 qrW:=yT jy qfZ (fun fu a=>qp6 fu a.1 a.2) (by kernel_rfl) (fun _ _=>by kernel_rfl) quh
def qj8:qK:=jV [(129,qrW)] qrV
theorem Z2:PkT qj8:=qu qfZ (qm qyW qO)
end
end Su
end
section
namespace Su
noncomputable section
open Go Go.Proofs Fly
set_option maxRecDepth 100000
def qrX:PrimD:=prim (dc cS (d1 (cI .i64))) (dc cTk (dc (cI .i64) (d1 (cI .i64)))) (qg3)
theorem qrY:OkT 71 qrX:=yT jy Z2 (fun fu a=>qp7 fu a.1 a.2) (by kernel_rfl) (fun _ _=>by kernel_rfl) qum
def qrZ:PrimD:=prim (dc cS (dc (cI .i64) (d1 (cF 76)))) (d1 (cI .i64)) (qg2)
theorem qr0:OkT 127 qrZ:=yT jy Z2 (fun fu a=>quj fu a.1 a.2.1 a.2.2) (by kernel_rfl) (fun _ _=>by kernel_rfl) quk
def qr1:qK:=jV [(71,qrX),(127,qrZ)] qj8
theorem qnj:PkT qr1:=qu Z2 (qm qrY (qm qr0 qO))
end
end Su
end
