/-
  The law and its row.
-/
import Derived.Shelf.Small.Strs
import Derived.Shelf.Strconv.Itoa3
import Derived.Test.YtldhknmacepeiaaGreatDoorProg
import Derived.Test.YtldhknmacepeiaaGreatDoorSuTb
import Derived.Test.YtldhknmacepeiaaGreatDoorNC10
import Derived.Test.YtldhknmacepeiaaGreatDoorNT04
import Derived.Test.YtldhknmacepeiaaGreatDoorHSh3
import Derived.Test.YtldhknmacepeiaaGreatDoorRfc
import Derived.Test.YtldhknmacepeiaaGreatDoorNT10
import Derived.Test.YtldhknmacepeiaaGreatDoorNT13
import Derived.Test.YtldhknmacepeiaaGreatDoorNT14
import Derived.Test.YtldhknmacepeiaaGreatDoorHWd
import Derived.Test.YtldhknmacepeiaaGreatDoorNX02
set_option linter.unusedVariables false
set_option linter.unusedSimpArgs false
set_option maxRecDepth 10000
section
namespace Go.Proofs
open Go.Shelf
def Tryz.idxB_ren:Go.Shelf.Ren:=⟨fun | 137=>125 | 217=>170 | 266=>194 | n=>n,fun | 9=>9 | 5=>5 | 3=>3 | n=>n,fun | n=>n⟩
theorem Tryz.idxB:Go.Proofs.Lays.n137 Tryz.prog Tryz.idxB_ren:={
 mixed:=by kernel_rfl
 f137:=Tryz.func125.trans (congrArg some (by kernel_rfl))
 f217:=Tryz.func170.trans (congrArg some (by kernel_rfl))
 f266:=Tryz.func194.trans (congrArg some (by kernel_rfl))
 t3:=Tryz.underlying3
 a3:=Tryz.isAgg3
 z3:=Tryz.sizeOf3
 v3:=Tryz.zeroValue3
 t5:=Tryz.underlying5
 a5:=Tryz.isAgg5
 z5:=Tryz.sizeOf5
 v5:=Tryz.zeroValue5
 t9:=Tryz.underlying9
 a9:=Tryz.isAgg9
 z9:=Tryz.sizeOf9
 v9:=Tryz.zeroValue9 }
def Tryz.itoa_ren:Go.Shelf.Ren:=⟨fun | 171=>94 | 243=>145 | 246=>184 | 283=>205 | 284=>206 | 285=>207 | 286=>208 | 129=>122 | 317=>224 | 318=>225 | 319=>226 | 320=>227 | 337=>235 | 338=>236 | n=>n,fun | 3=>3 | 9=>9 | 2=>2 | 4=>4 | 171=>245 | 0=>0 | 53=>22 | 37=>129 | 5=>5 | 173=>247 | 212=>266 | 51=>105 | 20=>20 | 213=>267 | 46=>28 | 232=>282 | 233=>283 | n=>n,fun | 17=>4 | 18=>7 | 19=>8 | n=>n⟩
theorem Tryz.itoa:Go.Proofs.LaysM.n171 Tryz.prog Tryz.itoa_ren:={
 mixed:=by kernel_rfl
 f129:=Tryz.func122.trans (congrArg some (by kernel_rfl))
 f171:=Tryz.func94.trans (congrArg some (by kernel_rfl))
 f243:=Tryz.func145.trans (congrArg some (by kernel_rfl))
 f246:=Tryz.func184.trans (congrArg some (by kernel_rfl))
 f283:=Tryz.func205.trans (congrArg some (by kernel_rfl))
 f284:=Tryz.func206.trans (congrArg some (by kernel_rfl))
 f285:=Tryz.func207.trans (congrArg some (by kernel_rfl))
 f286:=Tryz.func208.trans (congrArg some (by kernel_rfl))
 f317:=Tryz.func224.trans (congrArg some (by kernel_rfl))
 f318:=Tryz.func225.trans (congrArg some (by kernel_rfl))
 f319:=Tryz.func226.trans (congrArg some (by kernel_rfl))
 f320:=Tryz.func227.trans (congrArg some (by kernel_rfl))
 f337:=Tryz.func235.trans (congrArg some (by kernel_rfl))
 f338:=Tryz.func236.trans (congrArg some (by kernel_rfl))
 t0:=Tryz.underlying0
 a0:=Tryz.isAgg0
 z0:=Tryz.sizeOf0
 v0:=Tryz.zeroValue0
 t2:=Tryz.underlying2
 a2:=Tryz.isAgg2
 z2:=Tryz.sizeOf2
 v2:=Tryz.zeroValue2
 t3:=Tryz.underlying3
 a3:=Tryz.isAgg3
 z3:=Tryz.sizeOf3
 v3:=Tryz.zeroValue3
 t4:=Tryz.underlying4
 a4:=Tryz.isAgg4
 z4:=Tryz.sizeOf4
 v4:=Tryz.zeroValue4
 t5:=Tryz.underlying5
 a5:=Tryz.isAgg5
 z5:=Tryz.sizeOf5
 v5:=Tryz.zeroValue5
 t9:=Tryz.underlying9
 a9:=Tryz.isAgg9
 z9:=Tryz.sizeOf9
 v9:=Tryz.zeroValue9
 t20:=Tryz.underlying20
 a20:=Tryz.isAgg20
 z20:=Tryz.sizeOf20
 v20:=Tryz.zeroValue20
 t37:=Tryz.underlying129
 a37:=Tryz.isAgg129
 z37:=Tryz.sizeOf129
 v37:=Tryz.zeroValue129
 t46:=Tryz.underlying28
 a46:=Tryz.isAgg28
 z46:=Tryz.sizeOf28
 v46:=Tryz.zeroValue28
 t51:=Tryz.underlying105
 a51:=Tryz.isAgg105
 z51:=Tryz.sizeOf105
 v51:=Tryz.zeroValue105
 t53:=Tryz.underlying22
 a53:=Tryz.isAgg22
 z53:=Tryz.sizeOf22
 v53:=Tryz.zeroValue22
 t171:=Tryz.underlying245
 a171:=Tryz.isAgg245
 z171:=Tryz.sizeOf245
 v171:=Tryz.zeroValue245
 t173:=Tryz.underlying247
 a173:=Tryz.isAgg247
 z173:=Tryz.sizeOf247
 v173:=Tryz.zeroValue247
 t212:=Tryz.underlying266
 a212:=Tryz.isAgg266
 z212:=Tryz.sizeOf266
 v212:=Tryz.zeroValue266
 t213:=Tryz.underlying267
 a213:=Tryz.isAgg267
 z213:=Tryz.sizeOf267
 t232:=Tryz.underlying282
 a232:=Tryz.isAgg282
 z232:=Tryz.sizeOf282
 v232:=Tryz.zeroValue282
 t233:=Tryz.underlying283
 a233:=Tryz.isAgg283
 z233:=Tryz.sizeOf283
 v233:=Tryz.zeroValue283
 g17:=by kernel_rfl
 g18:=by kernel_rfl
 g19:=by kernel_rfl
 i0:=by kernel_rfl
 i2:=by kernel_rfl
 i3:=by kernel_rfl
 i4:=by kernel_rfl
 i5:=by kernel_rfl
 i9:=by kernel_rfl
 i20:=by kernel_rfl
 i37:=by kernel_rfl
 i46:=by kernel_rfl
 i51:=by kernel_rfl
 i53:=by kernel_rfl
 i171:=by kernel_rfl
 i173:=by kernel_rfl
 i212:=by kernel_rfl
 i232:=by kernel_rfl
 i233:=by kernel_rfl
 m17:=by kernel_rfl
 m18:=by kernel_rfl
 m19:=by kernel_rfl }
end Go.Proofs
end
section
namespace Su
noncomputable section
open Go Go.Proofs Fly
theorem qlY(c:UInt8):∀l,Lib.indexByte l c=yf c l
 | []=>rfl
 | b::l=>by
  unfold Lib.indexByte yf;rw[qlY c l];cases b == c with
  | true=>rfl
  | false=>
   simp only[zj];by_cases h:yf c l = -1
   · simp[h]
   · simp[h]
def qrU:PrimD:=prim (dc cS (d1 (cI .u8))) (d1 (cI .i64)) qpH
theorem qkq{V:qb}{w:World}(hs:ZX V w):Holds ⟨keys [],w,V,fun _ _ _=>False⟩ V [] w :=
 ⟨Ext.refl _ _,hs,(fun p hp=>by cases hp),(fun p hp=>by cases hp),.nil,Sub.refl _,fun r h0 hr=>absurd h0 hr⟩
theorem qz8:OkT 125 qrU:=by
 refine⟨by kernel_rfl,fun xs y h V vs _ hr=>?_,fun j hj=>nomatch hj⟩
 obtain⟨p,h1,h2⟩:=osm (show((dc cS (d1 (cI .u8))).dec xs).bind qpH=some y from h)
 have hr2:=(dc cS (d1 (cI .u8))).rep h1 hr
 have hg:=(dc cS (d1 (cI .u8))).rng hr2
 obtain⟨s,c⟩:=p;have:=soi h2;subst this
 cases hr2 with | cons k1 k2=>
 cases k2 with | cons k2 k3=>
 cases k3 with | nil=>
 cases k1 with | s k1=>
 cases k2 with | s k2=>
 intro w hs _ _ _;refine(Any.strings_IndexByte Tryz.idxB s c w).mono ?_
 rintro e w' ⟨rfl,rfl⟩
 refine⟨_,V,[],rfl,qkq hs,[_],.cons (.s (v:=.int .i64 (yf (UInt8.ofNat c.toNat) (lb s))) ?_) .nil,?_⟩
 · have hl:s.size≤maxLen:=hg.1
   have:=ZH (UInt8.ofNat c.toNat) (lb s)
   have e:(lb s).length=s.size:=by unfold lb;rw[KH];rfl
   rw[jU]at hl;exact QG.2 ⟨by omega,by omega⟩
 · rw[qlY];rfl
theorem qrV:∀n,Lib.decDigits n=dg n:=by
 intro n;induction n using Nat.strongRecOn with
 | ind n ih=>
  unfold Lib.decDigits;by_cases h:n<10
  · rw[dif_pos h,qw3 h]
  · rw[dif_neg h,qw4 (by omega),ih (n / 10) (by omega)]
theorem qz9(n:Int):Lib.itoa n=itT n:=by
 unfold Lib.itoa itT;rw[qrV,qrV];by_cases h:n<0
 · rw[zr h,za h];rfl
 · rw[zp h,zi h];rfl
def qxB:PrimD:=prim (d1 (cI .i64)) (d1 cS) qw5
theorem qi8{V:qb}:∀ {l:List Nat} {vs:List Value},RepA V (l.map fun z=>T.s (.int .u64 ((z:Nat):Int))) vs→vs=l.map fun z=>Value.int .u64 ((z:Nat):Int)
 | [],_,.nil=>rfl
 | z::l,_,.cons h h'=>by
  cases h with | s h=>
  rw[K5,qi8 h']
theorem qAa{V:qb}{w:World}(hg:GOK tb V)(hs:ZX V w):Lib.TabIs Tryz.prog w "internal/strconv.uint64pow10" .u64 Lib.pow10Tab:=by
 obtain⟨h1,arr,e,f,h2,h3⟩:=hg.1 4 gT4 rfl
 unfold Lib.TabIs World.var?
 rw[show Tryz.prog.globalNamed "internal/strconv.uint64pow10"=some 4 by kernel_rfl,zd];show(match w.heap[4]? with | some (.cells cs _ _)=>some cs | _=>none)=_
 rw[hs _ _ h2];have hv:arr.toList=[1,10,100,1000,10000,100000,1000000,10000000,100000000,1000000000,10000000000,100000000000,1000000000000,10000000000000,100000000000000,1000000000000000,10000000000000000,100000000000000000,1000000000000000000,10000000000000000000].map fun z:Nat=>Value.int .u64 ((z:Nat):Int):=by
  cases h1 with
  | pt k1 k2 k3=>
   rename_i vs;have hvs:=qi8 (l:=[1,10,100,1000,10000,100000,1000000,10000000,100000000,1000000000,10000000000,100000000000,1000000000000,10000000000000,100000000000000,1000000000000000,10000000000000000,100000000000000000,1000000000000000000,10000000000000000000]) k1
   rw[← hvs];have hl:vs.length=20:=by rw[hvs];rfl
   have hsz:arr.toList.length=20:=by rw[KH];exact h3
   refine List.ext_getElem? fun j=>?_
   by_cases hj:j<20
   · obtain⟨arr',e',f',q1,q2⟩:=k3 j vs[j] (zl (by omega))
     rw[h2]at q1;simp only[zb,Obj.cells.injEq]at q1;obtain⟨rfl,_⟩:=q1;rw[zl (show j<vs.length by omega),← q2,zF];simp
   · rw[zA (by omega),zA (by omega)]
 have:arr=(Lib.pow10Tab.map fun z=>Value.int .u64 z).toArray:=by
  apply Array.toList_inj.1
  rw[hv];rfl
 rw[this]
theorem qwn{V:qb}{w:World}(hs:ZX V w)(k:Nat)(os:Array Obj):Holds ⟨keys [],w,V,fun _ _ _=>False⟩ V [] (Go.Sort.grow (w.drewN k) os):=by
 have hh:(Go.Sort.grow (w.drewN k) os).heap=w.heap++os:=rfl
 refine⟨⟨rfl,rfl,rfl,by rw[hh];simp,fun i hi _=>?_⟩,fun r o hr=>?_,(fun p hp=>by cases hp),(fun p hp=>by cases hp),.nil,Sub.refl _,fun r h0 hr=>absurd h0 hr⟩
 · rw[hh,VZ hi]
 · have:=hs r o hr
   rw[hh,VZ (z6.1 this).1];exact this
theorem qB7:OkT 94 qxB:=by
 refine⟨by kernel_rfl,fun xs y h V vs hgk hr=>?_,fun j hj=>nomatch hj⟩
 obtain⟨n,h1,h2⟩:=osm (show((d1 (cI .i64)).dec xs).bind qw5=some y from h)
 have hr2:=(d1 (cI .i64)).rep h1 hr
 obtain⟨h3,h4⟩:=qi h2;have:=soi h4;subst this
 simp only[zk,zD]at h3;cases hr2 with | cons k1 k2=>
 cases k2 with | nil=>
 cases k1 with | s k1=>
 intro w hs _ _ _;refine(Any.strconv_Itoa Tryz.itoa n (by omega) (by omega) w (qAa hgk hs)).mono ?_
 rintro e w' ⟨rfl,k,os,rfl⟩
 refine⟨_,V,[],rfl,qwn hs k os,[_],.cons (.s (v:=.string (bs (itT n))) ?_) .nil,?_⟩
 · refine zo ?_
   show(bs (itT n)).size≤maxLen
   have:=quG h3.1 h3.2
   rw[qe,jU];omega
 · rw[qz9];rfl
end
end Su
end
section
namespace Su
open Go Go.Proofs Fly
set_option maxRecDepth 100000
noncomputable def qrW:qt:=jo [(125,qrU),(94,qxB)] qrT
theorem qgb:PkT qrW:=qn qnn (qh qz8 (qh qB7 qq))
end Su
end
section
namespace Su
noncomputable section
open Go Go.Proofs Fly
set_option maxRecDepth 100000
def qrX:PrimD:=prim (d1 (cI .i64)) (d1 (cQ 1 1)) (yR)
theorem qAb:OkT 51 qrX:=yj ja qgb (fun a=>qyS a) (by kernel_rfl) (fun _ _=>by kernel_rfl) quN
def qrY:qt:=jo [(51,qrX)] qrW
theorem qno:PkT qrY:=qn qgb (qh qAb qq)
end
end Su
end
section
namespace Su
open Go Go.Proofs Fly
set_option maxRecDepth 100000
noncomputable def qrZ:qt:=jo [] qrY
theorem qnp:PkT qrZ:=qn qno qq
end Su
end
section
namespace Su
open Go Go.Proofs Fly
set_option maxRecDepth 100000
noncomputable def qr0:qt:=jo [] qrZ
theorem qnq:PkT qr0:=qn qnp qq
end Su
end
section
namespace Su
open Go Go.Proofs Fly
set_option maxRecDepth 100000
noncomputable def qr1:qt:=jo [] qr0
theorem qnr:PkT qr1:=qn qnq qq
end Su
end
section
namespace Su
open Go Go.Proofs Fly
set_option maxRecDepth 100000
noncomputable def qr2:qt:=jo [] qr1
theorem qns:PkT qr2:=qn qnr qq
end Su
end
section
namespace Su
open Go Go.Proofs Fly
set_option maxRecDepth 100000
noncomputable def qr3:qt:=jo [] qr2
theorem qnt:PkT qr3:=qn qns qq
end Su
end
section
namespace Su
noncomputable section
open Go Go.Proofs Fly
set_option maxRecDepth 100000
def qnu{α:Type}(n:Nat)(k:Nat→α):α:=Nat.rec (motive:=fun _=>α) (k 0) (fun m _=>k (m+1)) n
theorem qwo{α:Type}(n:Nat)(k:Nat→α):qnu n k=k n:=by cases n <;> rfl
def qr4:qt:=jo [] qr3
theorem qgc:PkT qr4:=qn qnt qq
end
end Su
end
section
namespace Su
noncomputable section
open Go Go.Proofs Fly
set_option maxRecDepth 100000
def qr5:PrimD:=prim (d1 cS) (dc cS (dc (cI .i64) (d1 cB))) (qcb)
theorem qAc:OkT 59 qr5:=jF ja qgc (fun fu a=>qpR fu a) (by kernel_rfl) (fun _ _=>by kernel_rfl) quQ
def qr6:qt:=jo [(59,qr5)] qr4
theorem qgd:PkT qr6:=qn qgc (qh qAc qq)
end
end Su
end
section
namespace Su
noncomputable section
open Go Go.Proofs Fly
set_option maxRecDepth 100000
def qr7:PrimD:=prim (d1 cS) (dc (cI .u64) (d1 (cI .i64))) (qcc)
theorem qr8:OkT 17 qr7:=yj ja qgd (fun a=>quR a) (by kernel_rfl) (fun _ _=>by kernel_rfl) quT
def qr9:qt:=jo [(17,qr7)] qr6
theorem qnv:PkT qr9:=qn qgd (qh qr8 qq)
end
end Su
end
section
namespace Su
open Go Go.Proofs Fly
theorem qxC{V:qb}{w:World}(hs:ZX V w):Holds ⟨keys [],w,V,fun _ _ _=>False⟩ V [] w :=
 ⟨Ext.refl _ _,hs,(fun p hp=>by cases hp),(fun p hp=>by cases hp),.nil,Sub.refl _,fun r h0 hr=>absurd h0 hr⟩
theorem qAd(s:ByteArray):(lb s).length=s.size:=by unfold lb;rw[KH];rfl
theorem qAe:∀ {v:Value},qjH 0 v=true→∃m,v = .int .i64 m
 | .int .i64 m,_=>⟨m,rfl⟩
theorem qAf:∀ {v:Value},qjH 1 v=true→∃t p,v = .iface t p
 | .iface t p,_=>⟨t,p,rfl⟩
noncomputable def qsa:PrimD:=prim (dc cS (d1 cS)) (d1 cB) qew
theorem qAg:OkT 174 qsa:=by
 refine⟨by kernel_rfl,fun xs y h V vs hgk hr=>?_,fun j hj=>nomatch hj⟩
 obtain⟨p,h1,h2⟩:=osm (show((dc cS (d1 cS)).dec xs).bind qew=some y from h)
 have hr2:=(dc cS (d1 cS)).rep h1 hr
 obtain⟨s,c⟩:=p;obtain⟨h3,h4⟩:=qi h2;have:=soi h4;subst this
 have h3:s.size≤1000000:=zm h3
 cases hr2 with | cons k1 k2=>
 cases k2 with | cons k2 k3=>
 cases k3 with | nil=>
 cases k1 with | s k1=>
 cases k2 with | s k2=>
 intro w hs _ _ _;obtain⟨v,e,f,g1,g2⟩:=hgk.2 3 0 rfl
 obtain⟨m,rfl⟩:=qAe g2;have hm:w.cell? ⟨3,0,none⟩=some (.int .i64 m):=yz (hs _ _ g1)
 refine(Any.strings_Contains Tryz.conts s c m w (by omega) hm).mono ?_
 rintro e w' ⟨rfl,rfl⟩
 exact⟨_,V,[],rfl,qxC hs,[_],.cons (.s rfl) .nil,rfl⟩
theorem qsb{V:qb}{w w':World}(hs:ZX V w)(hB:RowKit.Below w.heap.size w w'):Holds ⟨keys [],w,V,fun _ _ _=>False⟩ V [] w':=by
 refine⟨⟨hB.os,hB.tape,hB.output,hB.size,fun k hk _=>hB.block k hk⟩,fun r o hr=>?_,(fun p hp=>by cases hp),(fun p hp=>by cases hp),.nil,Sub.refl _,fun r h0 hr=>absurd h0 hr⟩
 have:=hs r o hr
 rw[hB.block r (z6.1 this).1];exact this
theorem qxD{V:qb}{l:List UInt8}{Q:Value→qb→Own→Prop}(h0:l≠[])(hd:∀c∈l,isD c=true)(hl:l.length≤400)(hlt:dv l<18446744073709551616)(hQ:Q (.tuple #[.int .u64 ((dv l:Nat):Int),.nilIface]) V []) :
 ju Tryz.prog 173 #[.string (bs l),.int .i64 10,.int .i64 64] V [] Q:=by
 intro w hs _ _ _;have h:Lib.parseUintB 64 (bs l).data.toList = .ok (dv l):=(qpX h0 hd).trans (zr hlt)
 refine(Any.strconv_ParseUint_10_at64_ok Tryz.parseU (bs l) (by rw[qe];omega) _ h w).mono ?_
 rintro e w' ⟨rfl,h | h⟩
 · subst h;exact⟨_,V,[],rfl,qxC hs,hQ⟩
 · subst h;exact⟨_,V,[],rfl,qsb hs (Lib.bytesWorld_below _ _ _),hQ⟩
theorem qsc{V:qb}(hgk:GOK tb V){l:List UInt8}{Q:Value→qb→Own→Prop}(h0:l≠[])(hd:∀c∈l,isD c=true)(hl:l.length≤400)(hlt : ¬dv l<18446744073709551616)(hQ:∀t p,Q (.tuple #[.int .u64 18446744073709551615,.iface t p]) V []) :
 ju Tryz.prog 173 #[.string (bs l),.int .i64 10,.int .i64 64] V [] Q:=by
 intro w hs _ _ _;have h:Lib.parseUintB 64 (bs l).data.toList = .range:=(qpX h0 hd).trans (zp hlt)
 obtain⟨v,e,f,g1,g2⟩:=hgk.2 6 1 rfl
 obtain⟨t,p,rfl⟩:=qAf g2;have hm:w.cell? ⟨6,0,none⟩=some (.iface t p):=yz (hs _ _ g1)
 refine(Any.strconv_ParseUint_10_at64_range Tryz.parseU (bs l) (by rw[qe];omega) h _ w hm (.inr ⟨t,p,rfl⟩)).mono ?_
 rintro e w' ⟨N,rfl,_,_,hB⟩
 exact⟨_,V,[],rfl,qsb hs hB,hQ _ _⟩
theorem qi9{V:qb}(hgk:GOK tb V){l:List UInt8}(hl:l.length≤400){Q:Value→qb→Own→Prop}(hQ:Qd (.int .u64 (Qn l).1)=true→∀V',Q (.tuple #[.int .u64 (Qn l).1,.int .i64 (Qn l).2]) V' []) :
 ju Tryz.prog 17 #[.string (bs l)] V [] Q:=by
 have h:(∀xs y,((d1 cS).dec xs).bind qcc=some y→∀V vs,GOK tb V→RepA V xs vs→ju Tryz.prog 17 vs.toArray V [] fun v V' _=>∃rvs,RepA V' ((dc (cI .u64) (d1 (cI .i64))).enc y) rvs∧v=Qq rvs)∧_:=qr8.2
 have hr:RepA V [.s (.string (bs l))] [.string (bs l)]:=.cons (.s (zo (by rw[qe,jU];omega))) .nil
 have hF:=h.1 _ _ (show((d1 cS).dec [.s (.string (bs l))]).bind qcc=some _ from qpV _) V _ hgk hr
 intro w a1 a2 a3 a4;refine(hF w a1 a2 a3 a4).mono ?_
 rintro e w' ⟨v,V',G',rfl,hh,rvs,m1,rfl⟩
 refine⟨_,V',[],rfl,hh.sublist (Kr _),?_⟩
 cases m1 with | cons k1 k2=>cases k2 with | cons k2 k3=>cases k3 with | nil=>cases k1 with | s h=>cases k2 with | s _=>exact hQ h V'
end Su
namespace Fly
open Go Go.Proofs Su
set_option maxRecDepth 10000
theorem qAh:∃ms,Tryz.prog.underlying 193=some (.interface ms):=⟨_,Tryz.underlying193⟩
abbrev tkV(k a:Int)(x:ByteArray)(i f:Int):List Value:=[.int .u8 k,.int .i64 a,.string x,.int .i32 i,.int .u64 f]
attribute [local irreducible] WC WE WR Opr St Go.Calls qhC qjl qaH Rel ju qhX qjp Owe One qdt Go.CallsD
theorem qAi{V:qb}{k a i f:Int}{x:ByteArray}{l:List UInt8}{Q:Value→qb→Own→Prop}{fl:Bool}(hl:400<l.length)(hQ:∀V' G,Q (.tuple #[.agg (tkV k a x i f).toArray,.int .i64 91]) V' G) :
 ju Tryz.prog 130 #[.agg (tkV k a x i f).toArray,.string (bs l),.bool fl] V [] Q:=by
 refine q9 (args:=[_,_,_]) Tryz.func130 rfl Tryz.ntmps130 rfl ?_
 intro X w hM hb hw hV0 hR;dsimp only[Qb,Nat.zero_add,Nat.reduceAdd]
 (repeat' (first | refine jj ?_ | refine qz ?_ | refine jk ?_ | refine qT ?_ | refine qO ?_ | refine jb ?_ | refine jv ?_ | refine jc ?_ | refine qp ?_ | refine qo ?_ | refine qx rfl ?_ | refine qu ?_ | refine jr ?_ | ((first | refine qP rfl ?_ | refine jd ?_ | refine yg rfl rfl rfl ?_);(first | (apply QI;(· exact rfl);(· exact rfl);(· exact JP)) | (apply Q5;(· exact rfl);(· exact rfl);(· rw[qe];omega)) | refine qR rfl ?_ | refine qA rfl ?_ | refine qy rfl rfl ?_ | refine jw rfl ?_ | refine qF rfl rfl ?_ | refine qG rfl rfl ?_ | refine qV rfl rfl (by omega) (by omega) ?_ | refine qk tb rfl rfl ?_ | refine qw tb rfl rfl rfl ?_ | (apply qS tb rfl rfl;(· (first | (refine At.own (?_);repeat (first | exact Has.here | refine Has.there ?_)) | exact At.seen (by assumption)));(· exact rfl)) | (apply qQ tb rfl rfl;(· (first | (refine At.own (?_);repeat (first | exact Has.here | refine Has.there ?_)) | exact At.seen (by assumption)));(· exact rfl)) | (apply qH tb rfl rfl rfl rfl rfl;(· (repeat (first | exact Upd.here | apply Upd.there)));(· exact rfl)) | (apply qJ tb rfl rfl rfl rfl rfl;(· (repeat (first | exact Upd.here | apply Upd.there)));(· exact rfl)) | (apply qM tb (by kernel_rfl) rfl (rfl:tb.fo _ 0=_);(· (repeat (first | exact Fill.nil | (apply Fill.cons;(· exact rfl);(· exact rfl);(· exact rfl);(· exact rfl);(· exact rfl)))))) | (refine qU rfl ?_;intro b) | (refine qZ rfl rfl ?_;intro b) | (refine qL tb rfl ?_;intro b))) | refine Qp rfl rfl rfl rfl ?_ | refine qD rfl ?_ | refine qE rfl ?_))
 exact jh hM hw hV0 hR [] (Kr _) (qmi rfl ⟨_,rfl,fun w hw=>rdN tb rfl (by(refine At.own ?_;repeat (first | exact Has.here | refine Has.there ?_))) rfl hw⟩ rfl) (hQ _ _)
theorem qAj{V:qb}(hgk:GOK Su.tb V){k a i f:Int}{x:ByteArray}{l:List UInt8}{Q:Value→qb→Own→Prop}(hl:l.length≤400)(he:(Qn l).2≠0)(hQ:∀V' G,Q (.tuple #[.agg (tkV k a x i f).toArray,.int .i64 93]) V' G) :
 ju Tryz.prog 130 #[.agg (tkV k a x i f).toArray,.string (bs l),.bool true] V [] Q:=by
 refine q9 (args:=[_,_,_]) Tryz.func130 rfl Tryz.ntmps130 rfl ?_
 intro X w hM hb hw hV0 hR;dsimp only[Qb,Nat.zero_add,Nat.reduceAdd]
 (repeat' (first | refine jj ?_ | refine qz ?_ | refine jk ?_ | refine qT ?_ | refine qO ?_ | refine jb ?_ | refine jv ?_ | refine jc ?_ | refine qp ?_ | refine qo ?_ | refine qx rfl ?_ | refine qu ?_ | refine jr ?_ | ((first | refine qP rfl ?_ | refine jd ?_ | refine yg rfl rfl rfl ?_);(first | (apply QI;(· exact rfl);(· exact rfl);(· exact JP)) | (apply Q6;(· exact rfl);(· exact rfl);(· first | (rw[qe];omega) | omega)) | (apply Q5;(· exact rfl);(· exact rfl);(· first | decide | omega)) | (refine qK (first:=[]) (cap:=[]) tb rfl rfl rfl (qi9 (Q:=fun v _ G=>v = .tuple #[.int .u64 (Qn l).1,.int .i64 (Qn l).2]∧G=[]∧Qd (.int .u64 (Qn l).1)=true) hgk hl fun h _=>⟨rfl,rfl,h⟩) (zI _) ?_;rintro _ _ _ hs2 ⟨rfl,rfl,hsc⟩;dsimp only[List.nil_append]) | (apply qv6;(· exact rfl);(· exact rfl);(· exact he)) | refine qR rfl ?_ | refine qA rfl ?_ | refine qy rfl rfl ?_ | refine jw rfl ?_ | refine qF rfl rfl ?_ | refine qG rfl rfl ?_ | refine qV rfl rfl (by omega) (by omega) ?_ | refine qk tb rfl rfl ?_ | refine qw tb rfl rfl rfl ?_ | (apply qS tb rfl rfl;(· (first | (refine At.own (?_);repeat (first | exact Has.here | refine Has.there ?_)) | exact At.seen (by assumption)));(· exact rfl)) | (apply qQ tb rfl rfl;(· (first | (refine At.own (?_);repeat (first | exact Has.here | refine Has.there ?_)) | exact At.seen (by assumption)));(· exact rfl)) | (apply qH tb rfl rfl rfl rfl rfl;(· (repeat (first | exact Upd.here | apply Upd.there)));(· exact rfl)) | (apply qJ tb rfl rfl rfl rfl rfl;(· (repeat (first | exact Upd.here | apply Upd.there)));(· exact rfl)) | (apply qM tb (by kernel_rfl) rfl (rfl:tb.fo _ 0=_);(· (repeat (first | exact Fill.nil | (apply Fill.cons;(· exact rfl);(· exact rfl);(· exact rfl);(· exact rfl);(· exact rfl)))))) | (refine qU rfl ?_;intro b) | (refine qZ rfl rfl ?_;intro b) | (refine qL tb rfl ?_;intro b))) | refine Qp rfl rfl rfl rfl ?_ | refine qD rfl ?_ | refine qE rfl ?_))
 exact jh hM hw hV0 hR [] (Kr _) (qmi rfl ⟨_,rfl,fun w hw=>rdN tb rfl (by(refine At.own ?_;repeat (first | exact Has.here | refine Has.there ?_))) rfl hw⟩ rfl) (hQ _ _)
theorem qB8{V:qb}(hgk:GOK Su.tb V){k a i f:Int}{x:ByteArray}{l:List UInt8}{Q:Value→qb→Own→Prop}(hl:l.length≤400)(he:(Qn l).2=0)(hQ:Qd (.int .u64 (Qn l).1)=true→∀V' G,Q (.tuple #[.agg (tkV 3 a x i (Qn l).1).toArray,.int .i64 0]) V' G) :
 ju Tryz.prog 130 #[.agg (tkV k a x i f).toArray,.string (bs l),.bool true] V [] Q:=by
 refine q9 (args:=[_,_,_]) Tryz.func130 rfl Tryz.ntmps130 rfl ?_
 intro X w hM hb hw hV0 hR;dsimp only[Qb,Nat.zero_add,Nat.reduceAdd]
 (repeat' (first | refine jj ?_ | refine qz ?_ | refine jk ?_ | refine qT ?_ | refine qO ?_ | refine jb ?_ | refine jv ?_ | refine jc ?_ | refine qp ?_ | refine qo ?_ | refine qx rfl ?_ | refine qu ?_ | refine jr ?_ | ((first | refine qP rfl ?_ | refine jd ?_ | refine yg rfl rfl rfl ?_);(first | (apply QI;(· exact rfl);(· exact rfl);(· exact JP)) | (apply Q6;(· exact rfl);(· exact rfl);(· first | (rw[qe];omega) | omega)) | (apply Q5;(· exact rfl);(· exact rfl);(· first | decide | omega)) | (refine qK (first:=[]) (cap:=[]) tb rfl rfl rfl (qi9 (Q:=fun v _ G=>v = .tuple #[.int .u64 (Qn l).1,.int .i64 (Qn l).2]∧G=[]∧Qd (.int .u64 (Qn l).1)=true) hgk hl fun h _=>⟨rfl,rfl,h⟩) (zI _) ?_;rintro _ _ _ hs2 ⟨rfl,rfl,hsc⟩;dsimp only[List.nil_append]) | (apply qq7;(· exact rfl);(· exact rfl);(· exact he)) | refine qR rfl ?_ | refine qA rfl ?_ | refine qy rfl rfl ?_ | refine jw rfl ?_ | refine qF rfl rfl ?_ | refine qG rfl rfl ?_ | refine qV rfl rfl (by omega) (by omega) ?_ | refine qk tb rfl rfl ?_ | refine qw tb rfl rfl rfl ?_ | (apply qS tb rfl rfl;(· (first | (refine At.own (?_);repeat (first | exact Has.here | refine Has.there ?_)) | exact At.seen (by assumption)));(· exact rfl)) | (apply qQ tb rfl rfl;(· (first | (refine At.own (?_);repeat (first | exact Has.here | refine Has.there ?_)) | exact At.seen (by assumption)));(· exact rfl)) | (apply qH tb rfl rfl rfl rfl rfl;(· (repeat (first | exact Upd.here | apply Upd.there)));(· exact rfl)) | (apply qJ tb rfl rfl rfl rfl rfl;(· (repeat (first | exact Upd.here | apply Upd.there)));(· exact rfl)) | (apply qM tb (by kernel_rfl) rfl (rfl:tb.fo _ 0=_);(· (repeat (first | exact Fill.nil | (apply Fill.cons;(· exact rfl);(· exact rfl);(· exact rfl);(· exact rfl);(· exact rfl)))))) | (refine qU rfl ?_;intro b) | (refine qZ rfl rfl ?_;intro b) | (refine qL tb rfl ?_;intro b))) | refine Qp rfl rfl rfl rfl ?_ | refine qD rfl ?_ | refine qE rfl ?_))
 exact jh hM hw hV0 hR [] (Kr _) (qmi rfl ⟨_,rfl,fun w hw=>rdN tb rfl (by(refine At.own ?_;repeat (first | exact Has.here | refine Has.there ?_))) rfl hw⟩ rfl) (hQ hsc _ _)
theorem qB9{V:qb}(hgk:GOK Su.tb V){k a i f:Int}{x:ByteArray}{l:List UInt8}{Q:Value→qb→Own→Prop}(hl:l.length≤400)(h0:l≠[])(hd:∀c∈l,isD c=true)(hlt : ¬dv l<18446744073709551616)(hQ:∀V' G,Q (.tuple #[.agg (tkV k a x i f).toArray,.int .i64 92]) V' G) :
 ju Tryz.prog 130 #[.agg (tkV k a x i f).toArray,.string (bs l),.bool false] V [] Q:=by
 obtain⟨ms,hms⟩:=qAh;refine q9 (args:=[_,_,_]) Tryz.func130 rfl Tryz.ntmps130 rfl ?_
 intro X w hM hb hw hV0 hR;dsimp only[Qb,Nat.zero_add,Nat.reduceAdd]
 (repeat' (first | refine jj ?_ | refine qz ?_ | refine jk ?_ | refine qT ?_ | refine qO ?_ | refine jb ?_ | refine jv ?_ | refine jc ?_ | refine qp ?_ | refine qo ?_ | refine qx rfl ?_ | refine qu ?_ | refine jr ?_ | ((first | refine qP rfl ?_ | refine jd ?_ | refine yg rfl rfl rfl ?_);(first | (apply QI;(· exact rfl);(· exact rfl);(· exact JP)) | (apply Q6;(· exact rfl);(· exact rfl);(· first | (rw[qe];omega) | omega)) | (apply Q5;(· exact rfl);(· exact rfl);(· first | decide | omega)) | (refine qK (first:=[]) (cap:=[]) tb rfl rfl rfl (qsc (V:=V) (Q:=fun v _ G=>∃t p,v = .tuple #[.int .u64 18446744073709551615,.iface t p]∧G=[]) hgk h0 hd hl hlt fun t p=>⟨t,p,rfl,rfl⟩) (zI _) ?_;rintro _ _ _ hs2 ⟨t,p,rfl,rfl⟩;dsimp only[List.nil_append]) | (apply qv7;(· exact rfl);(· exact hms)) | refine qR rfl ?_ | refine qA rfl ?_ | refine qy rfl rfl ?_ | refine jw rfl ?_ | refine qF rfl rfl ?_ | refine qG rfl rfl ?_ | refine qV rfl rfl (by omega) (by omega) ?_ | refine qk tb rfl rfl ?_ | refine qw tb rfl rfl rfl ?_ | (apply qS tb rfl rfl;(· (first | (refine At.own (?_);repeat (first | exact Has.here | refine Has.there ?_)) | exact At.seen (by assumption)));(· exact rfl)) | (apply qQ tb rfl rfl;(· (first | (refine At.own (?_);repeat (first | exact Has.here | refine Has.there ?_)) | exact At.seen (by assumption)));(· exact rfl)) | (apply qH tb rfl rfl rfl rfl rfl;(· (repeat (first | exact Upd.here | apply Upd.there)));(· exact rfl)) | (apply qJ tb rfl rfl rfl rfl rfl;(· (repeat (first | exact Upd.here | apply Upd.there)));(· exact rfl)) | (apply qM tb (by kernel_rfl) rfl (rfl:tb.fo _ 0=_);(· (repeat (first | exact Fill.nil | (apply Fill.cons;(· exact rfl);(· exact rfl);(· exact rfl);(· exact rfl);(· exact rfl)))))) | (refine qU rfl ?_;intro b) | (refine qZ rfl rfl ?_;intro b) | (refine qL tb rfl ?_;intro b))) | refine Qp rfl rfl rfl rfl ?_ | refine qD rfl ?_ | refine qE rfl ?_))
 exact jh hM hw hV0 hR [] (Kr _) (qmi rfl ⟨_,rfl,fun w hw=>rdN tb rfl (by(refine At.own ?_;repeat (first | exact Has.here | refine Has.there ?_))) rfl hw⟩ rfl) (hQ _ _)
theorem qCa{V:qb}{k a i f:Int}{x:ByteArray}{l:List UInt8}{Q:Value→qb→Own→Prop}(hl:l.length≤400)(h0:l≠[])(hd:∀c∈l,isD c=true)(hlt:dv l<18446744073709551616)(hgt:2147483647<dv l)(hQ:∀V' G,Q (.tuple #[.agg (tkV k a x i f).toArray,.int .i64 92]) V' G) :
 ju Tryz.prog 130 #[.agg (tkV k a x i f).toArray,.string (bs l),.bool false] V [] Q:=by
 obtain⟨ms,hms⟩:=qAh;refine q9 (args:=[_,_,_]) Tryz.func130 rfl Tryz.ntmps130 rfl ?_
 intro X w hM hb hw hV0 hR;dsimp only[Qb,Nat.zero_add,Nat.reduceAdd]
 (repeat' (first | refine jj ?_ | refine qz ?_ | refine jk ?_ | refine qT ?_ | refine qO ?_ | refine jb ?_ | refine jv ?_ | refine jc ?_ | refine qp ?_ | refine qo ?_ | refine qx rfl ?_ | refine qu ?_ | refine jr ?_ | ((first | refine qP rfl ?_ | refine jd ?_ | refine yg rfl rfl rfl ?_);(first | (apply QI;(· exact rfl);(· exact rfl);(· exact JP)) | (apply Q6;(· exact rfl);(· exact rfl);(· first | (rw[qe];omega) | omega)) | (apply Q5;(· exact rfl);(· exact rfl);(· first | decide | omega)) | (refine qK (first:=[]) (cap:=[]) tb rfl rfl rfl (qxD (V:=V) (Q:=fun v _ G=>v = .tuple #[.int .u64 ((dv l:Nat):Int),.nilIface]∧G=[]) h0 hd hl hlt ⟨rfl,rfl⟩) (zI _) ?_;rintro _ _ _ hs2 ⟨rfl,rfl⟩;dsimp only[List.nil_append]) | (apply qlK;(· exact rfl);(· exact hms)) | refine qR rfl ?_ | refine qA rfl ?_ | refine qy rfl rfl ?_ | refine jw rfl ?_ | refine qF rfl rfl ?_ | refine qG rfl rfl ?_ | refine qV rfl rfl (by omega) (by omega) ?_ | refine qk tb rfl rfl ?_ | refine qw tb rfl rfl rfl ?_ | (apply qS tb rfl rfl;(· (first | (refine At.own (?_);repeat (first | exact Has.here | refine Has.there ?_)) | exact At.seen (by assumption)));(· exact rfl)) | (apply qQ tb rfl rfl;(· (first | (refine At.own (?_);repeat (first | exact Has.here | refine Has.there ?_)) | exact At.seen (by assumption)));(· exact rfl)) | (apply qH tb rfl rfl rfl rfl rfl;(· (repeat (first | exact Upd.here | apply Upd.there)));(· exact rfl)) | (apply qJ tb rfl rfl rfl rfl rfl;(· (repeat (first | exact Upd.here | apply Upd.there)));(· exact rfl)) | (apply qM tb (by kernel_rfl) rfl (rfl:tb.fo _ 0=_);(· (repeat (first | exact Fill.nil | (apply Fill.cons;(· exact rfl);(· exact rfl);(· exact rfl);(· exact rfl);(· exact rfl)))))) | (refine qU rfl ?_;intro b) | (refine qZ rfl rfl ?_;intro b) | (refine qL tb rfl ?_;intro b))) | refine Qp rfl rfl rfl rfl ?_ | refine qD rfl ?_ | refine qE rfl ?_))
 exact jh hM hw hV0 hR [] (Kr _) (qmi rfl ⟨_,rfl,fun w hw=>rdN tb rfl (by(refine At.own ?_;repeat (first | exact Has.here | refine Has.there ?_))) rfl hw⟩ rfl) (hQ _ _)
theorem qCb{V:qb}{k a i f:Int}{x:ByteArray}{l:List UInt8}{Q:Value→qb→Own→Prop}(hl:l.length≤400)(h0:l≠[])(hd:∀c∈l,isD c=true)(hlt:dv l<18446744073709551616)(hgt : ¬2147483647<dv l)(hQ:∀V' G,Q (.tuple #[.agg (tkV 2 a x ((dv l:Nat):Int) f).toArray,.int .i64 0]) V' G) :
 ju Tryz.prog 130 #[.agg (tkV k a x i f).toArray,.string (bs l),.bool false] V [] Q:=by
 obtain⟨ms,hms⟩:=qAh;have hw32:IntKind.i32.wrap ((dv l:Nat):Int)=((dv l:Nat):Int):=yB (qk8.2 ⟨by omega,by omega⟩)
 have hQ:∀V' G,Q (.tuple #[.agg (tkV 2 a x (IntKind.i32.wrap ((dv l:Nat):Int)) f).toArray,.int .i64 0]) V' G:=by rw[hw32];exact hQ
 refine q9 (args:=[_,_,_]) Tryz.func130 rfl Tryz.ntmps130 rfl ?_
 intro X w hM hb hw hV0 hR;dsimp only[Qb,Nat.zero_add,Nat.reduceAdd]
 (repeat' (first | refine jj ?_ | refine qz ?_ | refine jk ?_ | refine qT ?_ | refine qO ?_ | refine jb ?_ | refine jv ?_ | refine jc ?_ | refine qp ?_ | refine qo ?_ | refine qx rfl ?_ | refine qu ?_ | refine jr ?_ | ((first | refine qP rfl ?_ | refine jd ?_ | refine yg rfl rfl rfl ?_);(first | (apply QI;(· exact rfl);(· exact rfl);(· exact JP)) | (apply Q6;(· exact rfl);(· exact rfl);(· first | (rw[qe];omega) | omega)) | (apply Q5;(· exact rfl);(· exact rfl);(· first | decide | omega)) | (refine qK (first:=[]) (cap:=[]) tb rfl rfl rfl (qxD (V:=V) (Q:=fun v _ G=>v = .tuple #[.int .u64 ((dv l:Nat):Int),.nilIface]∧G=[]) h0 hd hl hlt ⟨rfl,rfl⟩) (zI _) ?_;rintro _ _ _ hs2 ⟨rfl,rfl⟩;dsimp only[List.nil_append]) | (apply qlK;(· exact rfl);(· exact hms)) | refine qR rfl ?_ | refine qA rfl ?_ | refine qy rfl rfl ?_ | refine jw rfl ?_ | refine qF rfl rfl ?_ | refine qG rfl rfl ?_ | refine qV rfl rfl (by omega) (by omega) ?_ | refine qk tb rfl rfl ?_ | refine qw tb rfl rfl rfl ?_ | (apply qS tb rfl rfl;(· (first | (refine At.own (?_);repeat (first | exact Has.here | refine Has.there ?_)) | exact At.seen (by assumption)));(· exact rfl)) | (apply qQ tb rfl rfl;(· (first | (refine At.own (?_);repeat (first | exact Has.here | refine Has.there ?_)) | exact At.seen (by assumption)));(· exact rfl)) | (apply qH tb rfl rfl rfl rfl rfl;(· (repeat (first | exact Upd.here | apply Upd.there)));(· exact rfl)) | (apply qJ tb rfl rfl rfl rfl rfl;(· (repeat (first | exact Upd.here | apply Upd.there)));(· exact rfl)) | (apply qM tb (by kernel_rfl) rfl (rfl:tb.fo _ 0=_);(· (repeat (first | exact Fill.nil | (apply Fill.cons;(· exact rfl);(· exact rfl);(· exact rfl);(· exact rfl);(· exact rfl)))))) | (refine qU rfl ?_;intro b) | (refine qZ rfl rfl ?_;intro b) | (refine qL tb rfl ?_;intro b))) | refine Qp rfl rfl rfl rfl ?_ | refine qD rfl ?_ | refine qE rfl ?_))
 exact jh hM hw hV0 hR [] (Kr _) (qmi rfl ⟨_,rfl,fun w hw=>rdN tb rfl (by(refine At.own ?_;repeat (first | exact Has.here | refine Has.there ?_))) rfl hw⟩ rfl) (hQ _ _)
end Fly
namespace Su
open Go Go.Proofs Fly
noncomputable def qsd:PrimD:=prim (dc cTk (dc cS (d1 cB))) (dc cTk (d1 (cI .i64))) qcd
theorem qse{l:List T}(h:(l.all fun t=>!t.isAgg)=true):∀t∈l,t.isAgg=false:=fun t ht=>by
 have:=zX.1 h t ht
 cases hb:t.isAgg with
 | false=>rfl
 | true=>rw[hb]at this;cases this
theorem tkr{V':qb}{k a i f e:Int}{x:ByteArray}(h1:Qd (.int .u8 k)=true)(h2:Qd (.int .i64 a)=true)(h3:Qd (.string x)=true)(h4:Qd (.int .i32 i)=true)(h5:Qd (.int .u64 f)=true)(h6:Qd (.int .i64 e)=true) :
 ∃rvs,RepA V' ((dc cTk (d1 (cI .i64))).enc ((k,a,x,i,f),e)) rvs∧Value.tuple #[.agg (tkV k a x i f).toArray,.int .i64 e]=Qq rvs :=
 ⟨[_,_],.cons (.agg (.cons (.s h1) (.cons (.s h2) (.cons (.s h3) (.cons (.s h4) (.cons (.s h5) .nil))))) (qse rfl)) (.cons (.s h6) .nil),rfl⟩
theorem qAk:OkT 130 qsd:=by
 refine⟨by kernel_rfl,fun xs y h V vs hgk hr=>?_,fun j hj=>nomatch hj⟩
 obtain⟨p,h1,h2⟩:=osm (show((dc cTk (dc cS (d1 cB))).dec xs).bind qcd=some y from h)
 have hr2:=(dc cTk (dc cS (d1 cB))).rep h1 hr
 obtain⟨⟨k,a,x,i,f⟩,s,fl⟩:=p;cases hr2 with | cons k1 k2=>
 cases k2 with | cons k2 k3=>
 cases k3 with | cons k3 k4=>
 cases k4 with | nil=>
 cases k2 with | s k2=>
 cases k3 with | s k3=>
 cases k1 with | agg m hm=>
 cases m with | cons m1 m=>
 cases m with | cons m2 m=>
 cases m with | cons m3 m=>
 cases m with | cons m4 m=>
 cases m with | cons m5 m=>
 cases m with | nil=>
 cases m1 with | s m1=>
 cases m2 with | s m2=>
 cases m3 with | s m3=>
 cases m4 with | s m4=>
 cases m5 with | s m5=>
 revert h2;have e:s=bs (lb s):=(qfM s).symm
 have hsz:=qAd s;unfold qcd;intro h2;show ju Tryz.prog 130 #[.agg (tkV k a x i f).toArray,.string s,.bool fl] V [] _
 rw[e];by_cases hl:400<s.size
 · rw[show Nat.blt 400 s.size=true by rw[Vk];exact hl]at h2
   have:=soi h2;subst this
   exact qAi (by omega) fun _ _=>tkr m1 m2 m3 m4 m5 rfl
 · have hl':(lb s).length≤400:=by omega
   rw[show Nat.blt 400 s.size=false by cases h:Nat.blt 400 s.size with | false=>rfl | true=>rw[Vk]at h;exact absurd h hl]at h2;cases fl with
   | true=>
    by_cases he:(Qn (lb s)).2=0
    · simp only[zj,zf,za he]at h2
      have:=soi h2;subst this
      exact qB8 hgk hl' he fun hsc _ _=>tkr rfl m2 m3 m4 hsc rfl
    · simp only[zj,zf,zi he]at h2
      have:=soi h2;subst this
      exact qAj hgk hl' he fun _ _=>tkr m1 m2 m3 m4 m5 rfl
   | false=>
    obtain⟨h3,h4⟩:=qi (show(bif !(lb s).isEmpty&&(lb s).all isD then(bif Nat.blt 2147483647 (dv (lb s))then some ((k,a,x,i,f),(92:Int))else some ((2,a,x,((dv (lb s):Nat):Int),f),0))else none)=some y from h2)
    rw[zk]at h3;have h0:lb s≠[]:=fun e0=>by rw[e0]at h3;exact absurd h3.1 (by decide)
    have hd:=zX.1 h3.2;by_cases hgt:2147483647<dv (lb s)
    · rw[show Nat.blt 2147483647 (dv (lb s))=true by rw[Vk];exact hgt]at h4
      have:=soi h4;subst this
      by_cases hlt:dv (lb s)<18446744073709551616
      · exact qCa hl' h0 hd hlt hgt fun _ _=>tkr m1 m2 m3 m4 m5 rfl
      · exact qB9 hgk hl' h0 hd hlt fun _ _=>tkr m1 m2 m3 m4 m5 rfl
    · rw[show Nat.blt 2147483647 (dv (lb s))=false by cases h:Nat.blt 2147483647 (dv (lb s))with | false=>rfl | true=>rw[Vk]at h;exact absurd h hgt]at h4
      have:=soi h4;subst this
      exact qCb hl' h0 hd (by omega) hgt fun _ _=>tkr rfl m2 m3 (show inR .i32 _=true from qk8.2 ⟨by omega,by omega⟩) m5 rfl
end Su
end
section
namespace Su
open Go Go.Proofs Fly
set_option maxRecDepth 100000
noncomputable def qsf:qt:=jo [(174,qsa),(33,qxp),(130,qsd)] qr9
theorem Jd:PkT qsf:=qn qnv (qh qAg (qh qBT (qh qAk qq)))
end Su
end
section
namespace Su
noncomputable section
open Go Go.Proofs Fly
set_option maxRecDepth 100000
def qsg:PrimD:=prim (dc cS (d1 (cI .i64))) (d1 cB) (jT)
theorem qAl:OkT 172 qsg:=yj ja Jd (fun a=>qpY a.1 a.2) (by kernel_rfl) (fun _ _=>by kernel_rfl) quV
def qxE:PrimD:=prim (dc cS (d1 cS)) (d1 cB) (qxe)
theorem qCc:OkT 126 qxE:=yj ja Jd (fun a=>tHP a.1 a.2) (by kernel_rfl) (fun _ _=>by kernel_rfl) qy2
def qsh:PrimD:=prim (d1 cS) (d1 cS) (qav)
theorem qAm:OkT 131 qsh:=yj ja Jd (fun a=>quU a) (by kernel_rfl) (fun _ _=>by kernel_rfl) quX
def qsi:PrimD:=prim (d1 (cI .u8)) (d1 cB) (Yq)
theorem qsj:OkT 77 qsi:=yj ja Jd (fun a=>qy1 a) (by kernel_rfl) (fun _ _=>by kernel_rfl) quZ
def qlZ:PrimD:=prim (dc cS (d1 (cI .i64))) (d1 (cI .i64)) (JE)
theorem qwp:OkT 70 qlZ:=jF ja Jd (fun fu a=>qlB fu a.1 a.2) (by kernel_rfl) (fun _ _=>by kernel_rfl) qp1
def qsk:qt:=jo [(172,qsg),(126,qxE),(131,qsh),(77,qsi),(70,qlZ)] qsf
theorem qge:PkT qsk:=qn Jd (qh qAl (qh qCc (qh qAm (qh qsj (qh qwp qq)))))
end
end Su
end
section
namespace Su
noncomputable section
open Go Go.Proofs Fly
set_option maxRecDepth 100000
def qsl:PrimD:=prim (dc cS (d1 (cI .i64))) (dc (cI .i64) (d1 cB)) (qce)
theorem qAn:OkT 129 qsl:=jF ja qge (fun fu a=>qp2 fu a.1 a.2) (by kernel_rfl) (fun _ _=>by kernel_rfl) qu0
def qkr:qt:=jo [(129,qsl)] qsk
theorem ZU:PkT qkr:=qn qge (qh qAn qq)
end
end Su
end
section
namespace Su
noncomputable section
open Go Go.Proofs Fly
set_option maxRecDepth 100000
def qsm:PrimD:=prim (dc cS (d1 (cI .i64))) (dc cTk (dc (cI .i64) (d1 (cI .i64)))) (qhk)
theorem qsn:OkT 71 qsm:=jF ja ZU (fun fu a=>qp3 fu a.1 a.2) (by kernel_rfl) (fun _ _=>by kernel_rfl) qu4
def qso:PrimD:=prim (dc cS (dc (cI .i64) (d1 (cF 76)))) (d1 (cI .i64)) (qhj)
theorem qsp:OkT 127 qso:=jF ja ZU (fun fu a=>qu2 fu a.1 a.2.1 a.2.2) (by kernel_rfl) (fun _ _=>by kernel_rfl) qu3
def qsq:qt:=jo [(71,qsm),(127,qso)] qkr
theorem qnw:PkT qsq:=qn ZU (qh qsn (qh qsp qq))
end
end Su
end
