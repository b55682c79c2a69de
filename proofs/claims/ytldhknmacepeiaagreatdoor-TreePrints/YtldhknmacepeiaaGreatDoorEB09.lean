/-
  The evaluator computes what the plain functions say.
-/
import Derived.Test.YtldhknmacepeiaaGreatDoorHSh2
set_option linter.unusedVariables false
set_option linter.unusedSimpArgs false
set_option maxRecDepth 10000
section
namespace Su
noncomputable section
open Go Go.Proofs Fly
set_option maxRecDepth 100000
def qvL:PrimD:=prim (dc (cQ 1 1) (d1 (cQ 1 1))) (dc (cQ 1 1) (dc (cQ 1 1) (d1 (cI .i64)))) (qfg)
theorem qy6:OkT 108 qvL:=YA yI qgP (fun fu a=>Div fu a.1 a.2) (by kernel_rfl) (fun _ _=>by kernel_rfl) qxe
def qrY:jl:=Ql [(108,qvL)] qrX
theorem qos:PkT qrY:=jc qgP (qQ qy6 jx)
end
end Su
end
section
namespace Su
open Go Go.Proofs Fly
set_option maxRecDepth 100000
noncomputable def qrZ:jl:=Ql [] qrY
theorem qot:PkT qrZ:=jc qos jx
end Su
end
section
namespace Su
open Go Go.Proofs Fly
set_option maxRecDepth 100000
noncomputable def qr0:jl:=Ql [] qrZ
theorem qgQ:PkT qr0:=jc qot jx
end Su
end
section
namespace Su
noncomputable section
open Go Go.Proofs Fly
set_option maxRecDepth 100000
def qm1:PrimD:=prim (d1 (cI .u64)) (d1 (cI .i64)) (qmw)
theorem quN:OkT 122 qm1:=Q0 yI qgQ (fun a=>qqR a) (by kernel_rfl) (fun _ _=>by kernel_rfl) qqT
def qr1:jl:=Ql [(122,qm1)] qr0
theorem qaH:PkT qr1:=jc qgQ (qQ quN jx)
end
end Su
end
section
namespace Su
noncomputable section
open Go Go.Proofs Fly
set_option maxRecDepth 100000
def qr2:PrimD:=prim (d1 cW) (d1 (cI .i64)) (qqU)
theorem qxN:OkT 152 qr2:=Q0 yI qaH (fun a=>qxg a) (by kernel_rfl) (fun _ _=>by kernel_rfl) que
def qr3:PrimD:=prim (dc cW (d1 (cI .i64))) (d1 cW) (qqV)
theorem qxO:OkT 154 qr3:=YA yI qaH (fun fu a=>qxh fu a.1 a.2) (by kernel_rfl) (fun _ _=>by kernel_rfl) quf
def qr4:PrimD:=prim (dc cW (d1 (cI .i64))) (dc cW (d1 cB)) (qqW)
theorem qxP:OkT 153 qr4:=YA yI qaH (fun fu a=>qxi fu a.1 a.2) (by kernel_rfl) (fun _ _=>by kernel_rfl) qug
def qr5:jl:=Ql [(152,qr2),(154,qr3),(153,qr4)] qr1
theorem qcS:PkT qr5:=jc qaH (qQ qxN (qQ qxO (qQ qxP jx)))
end
end Su
end
section
namespace Su
noncomputable section
open Go Go.Proofs Fly
set_option maxRecDepth 100000
def qvM:PrimD:=prim (dc qnU (dc (cI .u8) (dc cB (dc cB (d1 cB))))) (d1 cB) (qvt)
theorem qy7:OkT 155 qvM:=Q0 yI qcS (fun a=>rUp a.1 a.2.1 a.2.2.1 a.2.2.2.1 a.2.2.2.2) (by kernel_rfl) (fun _ _=>by kernel_rfl) qxk
def qm2:PrimD:=prim (dc qnU (d1 (cI .u8))) (dc (cI .u64) (d1 (cI .u8))) (qmB)
theorem quO:OkT 156 qm2:=Q0 yI qcS (fun a=>qqY a.1 a.2) (by kernel_rfl) (fun _ _=>by kernel_rfl) qqZ
def qr6:jl:=Ql [(155,qvM),(156,qm2)] qr5
theorem qgR:PkT qr6:=jc qcS (qQ qy7 (qQ quO jx))
end
end Su
end
section
namespace Su
noncomputable section
open Go Go.Proofs Fly
set_option maxRecDepth 100000
def qjZ:PrimD:=prim (dc qnU (d1 (cI .u8))) (dc (cI .u64) (d1 (cI .u8))) (qaa)
theorem qr7:OkT 106 qjZ:=Q0 yI qgR (fun a=>qlc a.1 a.2) (by kernel_rfl) (fun _ _=>by kernel_rfl) qoe
def qr8:jl:=Ql [(106,qjZ)] qr6
theorem qgS:PkT qr8:=jc qgR (qQ qr7 jx)
end
end Su
end
section
namespace Su
noncomputable section
open Go Go.Proofs Fly
set_option maxRecDepth 100000
def qvN:PrimD:=prim (dc cS (d1 (cI .u8))) (d1 cS) (qjK)
theorem qy8:OkT 162 qvN:=YA yI qgS (fun fu a=>tRB fu a.1 a.2) (by kernel_rfl) (fun _ _=>by kernel_rfl) qxm
def qr9:jl:=Ql [(162,qvN)] qr8
theorem qgT:PkT qr9:=jc qgS (qQ qy8 jx)
end
end Su
end
section
namespace Su
noncomputable section
open Go Go.Proofs Fly
set_option maxRecDepth 100000
def qsa:PrimD:=prim (d1 (cI .u64)) (d1 (cI .i64)) (fun a=>bLen a)
theorem qxQ:OkT 64 qsa:=fnL yI qgT (by kernel_rfl) (fun _ _=>by kernel_rfl)
def qsb:jl:=Ql [(64,qsa)] qr9
theorem qcT:PkT qsb:=jc qgT (qQ qxQ jx)
end
end Su
end
section
namespace Su
noncomputable section
open Go Go.Proofs Fly
set_option maxRecDepth 100000
def qsc:PrimD:=prim (dc (cI .u64) (d1 (cI .i64))) (dc (cQ 1 1) (d1 (cI .i64))) (qh5)
theorem qxR:OkT 20 qsc:=YA yI qcT (fun fu a=>qui fu a.1 a.2) (by kernel_rfl) (fun _ _=>by kernel_rfl) qul
def qsd:PrimD:=prim (d1 (cI .i64)) (d1 (cQ 1 1)) (qac)
theorem qxS:OkT 107 qsd:=Q0 yI qcT (fun a=>qxn a) (by kernel_rfl) (fun _ _=>by kernel_rfl) qum
def qse:jl:=Ql [(20,qsc),(107,qsd)] qsb
theorem qgU:PkT qse:=jc qcT (qQ qxR (qQ qxS jx))
end
end Su
end
section
namespace Su
noncomputable section
open Go Go.Proofs Fly
set_option maxRecDepth 100000
def qm3:PrimD:=prim (dc cB (dc (cQ 1 1) (dc (cQ 1 1) (d1 (cI .u8))))) (dc (cI .u64) (d1 (cI .u8))) (JQ)
theorem quP:OkT 50 qm3:=Q0 yI qgU (fun a=>qmF a.1 a.2.1 a.2.2.1 a.2.2.2) (by kernel_rfl) (fun _ _=>by kernel_rfl) qq4
def qsf:jl:=Ql [(50,qm3)] qse
theorem qou:PkT qsf:=jc qgU (qQ quP jx)
end
end Su
end
section
namespace Su
open Go Go.Proofs Fly
set_option maxRecDepth 100000
noncomputable def qsg:jl:=Ql [] qsf
theorem qgV:PkT qsg:=jc qou jx
end Su
end
section
namespace Su
noncomputable section
open Go Go.Proofs Fly
set_option maxRecDepth 100000
def qm4:PrimD:=prim (d1 (cQ 1 1)) (d1 cS) (YC)
theorem quQ:OkT 54 qm4:=YA yI qgV (fun fu a=>qmH fu a) (by kernel_rfl) (fun _ _=>by kernel_rfl) qrc
def qic:jl:=Ql [(54,qm4)] qsg
theorem qgW:PkT qic:=jc qgV (qQ quQ jx)
end
end Su
end
section
namespace Su
noncomputable section
open Go Go.Proofs Fly
set_option maxRecDepth 100000
theorem qsh:(List.range 41).map (fun k=>qiE tb qic (shN tb qic 9 9) 9 102 ((dc (cK (bs [48])) (d1 (cI .i64))).enc ((),((k:Nat):Int))) (d1 cS).dec)=(List.range 41).map fun k=>some (bs (zs k)):=by kernel_rfl
def qsi:PrimD:=prim (dc (cK (bs [48])) (d1 (cI .i64))) (d1 cS) qfk
theorem qxT:OkT 102 qsi:=qdH yI qgW (by kernel_rfl) fun a y hg h=>by
 obtain⟨u,n⟩:=a;obtain⟨h1,h2⟩:=qL h;have:=soi h2;subst this
 simp only[zp,zY]at h1;obtain⟨k,rfl⟩:=VK h1.1;exact⟨9,9,9,List.map_inj_left.1 qsh k (WT.2 (by omega))⟩
def qsj:jl:=Ql [(125,qqr),(94,qvq),(102,qsi)] qic
theorem qcU:PkT qsj:=jc qgW (qQ qwX (qQ qyI (qQ qxT jx)))
end
end Su
end
section
namespace Su
noncomputable section
open Go Go.Proofs Fly
set_option maxRecDepth 100000
def qsk:PrimD:=prim (d1 (cI .i64)) (d1 (cQ 1 1)) (yu)
theorem qxU:OkT 51 qsk:=Q0 yI qcU (fun a=>qxq a) (by kernel_rfl) (fun _ _=>by kernel_rfl) qup
def qvO:PrimD:=prim (dc cS (d1 (cI .i64))) (dc cS (d1 (cI .i64))) (qcd)
theorem qy9:OkT 53 qvO:=Q0 yI qcU (fun a=>dTr a.1 a.2) (by kernel_rfl) (fun _ _=>by kernel_rfl) qxr
def qsl:jl:=Ql [(51,qsk),(53,qvO)] qsj
theorem qcV:PkT qsl:=jc qcU (qQ qxU (qQ qy9 jx))
end
end Su
end
section
namespace Su
noncomputable section
open Go Go.Proofs Fly
set_option maxRecDepth 100000
def qvP:PrimD:=prim (d1 (cI .u64)) (d1 (cA (dc (cQ 1 1) (d1 (cQ 1 1))))) (fun a=>dOf a)
theorem qza:OkT 47 qvP:=fnL yI qcV (by kernel_rfl) (fun _ _=>by kernel_rfl)
def qm5:PrimD:=prim (dc (cA (dc (cQ 1 1) (d1 (cQ 1 1)))) (d1 (cI .i64))) (d1 (cA (dc (cQ 1 1) (d1 (cQ 1 1))))) (fun a=>qjO a.1 a.2)
theorem quR:OkT 52 qm5:=fnL yI qcV (by kernel_rfl) (fun _ _=>by kernel_rfl)
def qsm:jl:=Ql [(47,qvP),(52,qm5)] qsl
theorem qgX:PkT qsm:=jc qcV (qQ qza (qQ quR jx))
end
end Su
end
section
namespace Su
noncomputable section
open Go Go.Proofs Fly
set_option maxRecDepth 100000
def qsn:PrimD:=prim (d1 (cI .u64)) (dc cS (d1 (cI .i64))) (Ym)
theorem qxV:OkT 13 qsn:=YA yI qgX (fun fu a=>qle fu a) (by kernel_rfl) (fun _ _=>by kernel_rfl) quC
def qso:jl:=Ql [(13,qsn)] qsm
theorem qov:PkT qso:=jc qgX (qQ qxV jx)
end
end Su
end
section
namespace Su
open Go Go.Proofs Fly
set_option maxRecDepth 100000
noncomputable def qsp:jl:=Ql [] qso
theorem qgY:PkT qsp:=jc qov jx
end Su
end
section
namespace Su
noncomputable section
open Go Go.Proofs Fly
set_option maxRecDepth 100000
def qm6:PrimD:=prim (dc cS (d1 (cI .i64))) (d1 cS) (QE)
theorem quS:OkT 46 qm6:=Q0 yI qgY (fun a=>qmS a.1 a.2) (by kernel_rfl) (fun _ _=>by kernel_rfl) qrs
def qsq:jl:=Ql [(46,qm6)] qsp
theorem qgZ:PkT qsq:=jc qgY (qQ quS jx)
end
end Su
end
section
namespace Su
noncomputable section
open Go Go.Proofs Fly
set_option maxRecDepth 100000
def qj0:PrimD:=prim (d1 (cI .u64)) (d1 cS) (Q4)
theorem qj1:OkT 12 qj0:=Q0 yI qgZ (fun a=>qlf a) (by kernel_rfl) (fun _ _=>by kernel_rfl) qon
def qsr:jl:=Ql [(12,qj0)] qsq
theorem qg0:PkT qsr:=jc qgZ (qQ qj1 jx)
end
end Su
end
section
namespace Fly
open Go Go.Proofs Su
set_option maxRecDepth 100000
theorem Jk{f:FuncId}{args:List Value}{V:qc}{v:Value}(h:jk Tryz.prog f args.toArray V [] fun v' _ G=>v'=v∧G=[]):ji Tryz.prog f args V v:=fun w hw=>
 (h w hw (fun _ hp=>by cases hp) (fun _ hp=>by cases hp) VN).mono (by
   rintro e w' ⟨v',V',G',rfl,hh,rfl,rfl⟩
   have hold:∀r o,V r=some o→w'.heap[r]?=some o:=fun r o hr=>by
    have h1:=hw r o hr;rw[hh.ext.block r (zX.1 h1).1 (fun h=>by cases h)];exact h1
   exact⟨_,V,[],rfl,⟨⟨hh.ext.os,hh.ext.tape,hh.ext.output,hh.ext.size,fun k hk _=>hh.ext.block k hk (fun h=>by cases h)⟩,hold,fun _ hp=>(by cases hp),fun _ hp=>(by cases hp),VN,Sub.refl _,fun r h0 hr=>absurd h0 hr⟩,rfl,rfl,rfl⟩)
theorem itW(n:Int):Lib.itoa n=itT n:=Su.qqt n
theorem qid{V:qc}(hgk:GOK Su.tb V){n:Int}(h0 : -9223372036854775808≤n)(h1:n≤9223372036854775807) :
 jk Tryz.prog 94 [.int .i64 n].toArray V [] fun v _ G=>v = .string ⟨(itT n).toArray⟩∧G=[]:=by
 intro w hs _ _ _;refine(Any.strconv_Itoa Tryz.itoa n h0 h1 w (qqu hgk hs)).mono ?_
 rintro e w' ⟨rfl,k,os,rfl⟩
 exact⟨_,V,[],rfl,qmj hs k os,by rw[itW],rfl⟩
theorem Tryz.repX:Go.Proofs.Builder.Extra Tryz.prog Tryz.repN_ren:={
 sizeBuilder:=by kernel_rfl
 liesBuilder:=by kernel_rfl
 t5:=Tryz.repN.t5
 a5:=Tryz.repN.a5
 z5:=Tryz.repN.z5
 v5:=Tryz.repN.v5
 infoByte:=by kernel_rfl
 cellsByte:=by kernel_rfl
 sizeByte:=by kernel_rfl
 neB5:=by decide }
theorem qj2:∀n,Lib.repeatL [9] n=QO n
 | 0=>rfl
 | n+1=>by
  unfold Lib.repeatL;rw[qj2 n];rfl
theorem qss{V:qc}{n:Nat}(h:n≤1000000):jk Tryz.prog 102 [.string ⟨#[9]⟩,.int .i64 n].toArray V [] fun v _ G=>v = .string ⟨(QO n).toArray⟩∧G=[]:=by
 intro w hs _ _ _;refine(Any.strings_Repeat Tryz.repN Tryz.repX ⟨#[9]⟩ n w (by omega) (by show 1*n≤_;omega)).mono ?_
 rintro e w' ⟨rfl,hB⟩
 refine⟨_,V,[],rfl,⟨⟨hB.os,hB.tape,hB.output,hB.size,fun k hk _=>hB.block k hk⟩,fun r o hr=>?_,(fun p hp=>by cases hp),(fun p hp=>by cases hp),.nil,Sub.refl _,fun r h0 hr=>absurd h0 hr⟩,?_,rfl⟩
 · have:=hs r o hr
   rw[hB.block r (zX.1 this).1];exact this
 · show Value.string ⟨(Lib.repeatL [9] n).toArray⟩=_
   rw[qj2]
end Fly
end
section
namespace Fly
open Go Go.Proofs
set_option maxRecDepth 10000
attribute [local irreducible] WC WE WR Opr St Go.Calls Qy Qf ji Rel jk Qe yR Owe One Qg Go.CallsD
def ZG(n:Nat):Prop:=n≤1000000
theorem c72{V:qc}{b n:Nat}{s:List UInt8}{ts:List ByteArray}{sl:Value}{G0:Own}(hn:ZG n)(hS:Sl 1 V sl (ts.map .string))(hW:Wr b n s G0)(hl:s.length+n+(y8 ts).length≤549755813888) :
 jk Tryz.prog 148 [.pointer (some ⟨b,0,none⟩),sl].toArray V G0 fun _ _ G'=>Wr b n (s++QO n++y8 ts) G':=by
 have htl:(QO n).length=n:=by simp[QO]
 have hn':=qss (V:=V) hn
 have hW':=hW;cases hW' with
 | new p hp=>
  refine qH Tryz.func148 rfl Tryz.ntmps148 rfl ?_;intro X w hM hMl hw hV0 hR;dsimp only[qZ,Nat.zero_add,Nat.reduceAdd]
  (repeat'(first|refine qq ?_|refine qa ?_|refine qo ?_|refine qe ?_|(refine qn rfl ?_;first|refine jz rfl ?_|(apply qw tb hMl;(·exact rfl);(·exact rfl);(·exact rfl);(·decide);(·(repeat(first|exact .nil|(apply Cat.cons;(·exact rfl);(·exact rfl);(·exact rfl))|exact .nil|apply App.cons)));intro b1 hb1)|(refine qr (first:=[]) tb rfl rfl rfl hn' (zr _) ?_;rintro _ V0 _ hs0 ⟨rfl,rfl⟩;dsimp only[List.nil_append])|(refine qr tb rfl rfl rfl (Yq hb1 hW (by simp only[jd];omega)).1 (zr _) ?_;intro _ V1 G1 hs1 hW1;have hq1:=hs0.trans ((Sub.addV hb1).trans hs1))|refine qh rfl ?_|refine qb tb rfl rfl ?_|(apply qp tb rfl rfl;(·exact At.own .here);(·exact rfl)))))
  have hc:=c34 (hS.mono hq1) hW1 (by simp only[zb];omega)
  (repeat'(first|refine qo ?_|((refine qn rfl ?_);(refine qr tb rfl rfl rfl hc (zr _) ?_;intro _ V2 G2 hs2 hW2))))
  exact je hM hw hV0 hR _ (zH _ _) (QB rfl) hW2
 | full p hp hs hm hc hz ht=>
  refine qH Tryz.func148 rfl Tryz.ntmps148 rfl ?_;intro X w hM hMl hw hV0 hR;dsimp only[qZ,Nat.zero_add,Nat.reduceAdd]
  (repeat'(first|refine qq ?_|refine qa ?_|refine qo ?_|refine qe ?_|(refine qn rfl ?_;first|refine jz rfl ?_|(apply qw tb hMl;(·exact rfl);(·exact rfl);(·exact rfl);(·decide);(·(repeat(first|exact .nil|(apply Cat.cons;(·exact rfl);(·exact rfl);(·exact rfl))|exact .nil|apply App.cons)));intro b1 hb1)|(refine qr (first:=[]) tb rfl rfl rfl hn' (zr _) ?_;rintro _ V0 _ hs0 ⟨rfl,rfl⟩;dsimp only[List.nil_append])|(refine qr tb rfl rfl rfl (Yq hb1 hW (by simp only[jd];omega)).1 (zr _) ?_;intro _ V1 G1 hs1 hW1;have hq1:=hs0.trans ((Sub.addV hb1).trans hs1))|refine qh rfl ?_|refine qb tb rfl rfl ?_|(apply qp tb rfl rfl;(·exact At.own .here);(·exact rfl)))))
  have hc:=c34 (hS.mono hq1) hW1 (by simp only[zb];omega)
  (repeat'(first|refine qo ?_|((refine qn rfl ?_);(refine qr tb rfl rfl rfl hc (zr _) ?_;intro _ V2 G2 hs2 hW2))))
  exact je hM hw hV0 hR _ (zH _ _) (QB rfl) hW2
end Fly
end
section
namespace Fly
open Go Go.Proofs
set_option maxRecDepth 10000
attribute [local irreducible] WC WE WR Opr St Go.Calls Qy Qf ji Rel jk Qe yR Owe One Qg Go.CallsD
theorem qst{V:qc}{b n b1:Nat}{s:List UInt8}{t:ByteArray}{G0:Own}(hn:ZG n)(hb:V b1=none)(hW:Wr b n s G0)(hl:s.length+n+t.size≤549755813888) :
 jk Tryz.prog 148 [.pointer (some ⟨b,0,none⟩),.slice (some ⟨b1,0,none⟩) 1 1].toArray (addV V b1 (.cells [.string t].toArray 9 (0,0))) G0 fun _ _ G'=>Wr b n (s++QO n++t.data.toList) G':=by
 have:=c72 (ts:=[t]) hn (Sl.made (k:=1) (m:=1) (e:=9) hb rfl (by decide)) hW (by simpa[y8,Qn]using hl)
 simpa[y8]using this
theorem qzb{V:qc}{b n b1:Nat}{s:List UInt8}{t t2:ByteArray}{G0:Own}(hn:ZG n)(hb:V b1=none)(hW:Wr b n s G0)(hl:s.length+n+(t.size+t2.size)≤549755813888) :
 jk Tryz.prog 148 [.pointer (some ⟨b,0,none⟩),.slice (some ⟨b1,0,none⟩) 2 2].toArray (addV V b1 (.cells [.string t,.string t2].toArray 9 (0,0))) G0 fun _ _ G'=>Wr b n (s++QO n++(t.data.toList++t2.data.toList)) G':=by
 have:=c72 (ts:=[t,t2]) hn (Sl.made (k:=1) (m:=2) (e:=9) hb rfl (by decide)) hW (by simpa[y8,Qn]using hl)
 simpa[y8]using this
theorem Sl.at{V:qc}{b m k:Nat}{r:List Value}{e:TypeId}(h:V b=some (.cells r.toArray e (0,0)))(hr:r.length=m*k)(hm:m≤16777216):Sl k V (.slice (some ⟨b,0,none⟩) m m) r :=
 ⟨_,m,m,rfl,zI _,by unfold maxLen;omega,hr,.inr ⟨b,0,rfl,fun i c hi=>⟨r.toArray,e,(0,0),h,by simpa using hi⟩⟩⟩
theorem qzc{V:qc}{b n b1:Nat}{s:List UInt8}{t t2 t3 t4 t5 t6:ByteArray}{G0:Own}(hn:ZG n)(hb:V b1=some (.cells [.string t,.string t2,.string t3,.string t4,.string t5,.string t6].toArray 9 (0,0)))(hW:Wr b n s G0)(hl:s.length+n+(t.size+(t2.size+(t3.size+(t4.size+(t5.size+t6.size)))))≤549755813888) :
 jk Tryz.prog 148 [.pointer (some ⟨b,0,none⟩),.slice (some ⟨b1,0,none⟩) 6 6].toArray V G0 fun _ _ G'=>Wr b n (s++QO n++(t.data.toList++(t2.data.toList++(t3.data.toList++(t4.data.toList++(t5.data.toList++t6.data.toList)))))) G':=by
 have:=c72 (ts:=[t,t2,t3,t4,t5,t6]) hn (Sl.at (k:=1) (m:=6) (e:=9) hb rfl (by decide)) hW (by simpa[y8,Qn]using hl)
 simpa[y8]using this
theorem Wr.shape{b:Nat}{d:Int}{s:List UInt8}{G0:Own}(h:Wr b d s G0):∃(c0 c1:Value) (rest:Own),G0=(b,.cells [c0,c1,.int .i64 d].toArray 133 (0,0))::rest∧∀d',Wr b d' s ((b,.cells [c0,c1,.int .i64 d'].toArray 133 (0,0))::rest):=by
 cases h with
 | new p hp=>exact⟨_,_,_,rfl,fun d'=>.new p hp⟩
 | full p hp hs hm hc hz ht=>exact⟨_,_,_,rfl,fun d'=>.full p hp hs hm hc hz ht⟩
def qie(l:qV)(z:Int):Prop:=∀V,yt V→jk Tryz.prog 94 [.int .i64 z].toArray V [] fun v _ G=>v = .string ⟨(l.itoa z).toArray⟩∧G=[]
mutual
def qj3(l:qV):St_→Prop
 | .mk kd _ _ ix ex lo hi tn el=>LeafAlls l ix∧Qt l ex∧(kd=3→(qie l lo∧-2147483648≤lo∧lo≤2147483647)∧(qie l hi∧-2147483648≤hi∧hi≤2147483647))∧LeafSs l tn∧LeafSs l el
def LeafSs(l:qV):Sts→Prop
 | .nil=>True
 | .cons e r=>qj3 l e∧LeafSs l r
end
def E71(l:qV)(x:St_):Prop:=∀ {V:qc} {b n:Nat} {s:List UInt8} {G0:Own} {cx:List Value},n+wS x≤100000→yt V→St_.Is V x cx→Wr b n s G0→s.length+(yF l n x).length≤549755813888 →
 jk Tryz.prog 147 [.pointer (some ⟨b,0,none⟩),.agg cx.toArray].toArray V G0 fun _ _ G'=>Wr b n (s++yF l n x) G'
theorem qj4{l:qV}:∀(es:Exs),LeafAlls l es→∀x∈es.list,Qt l x
 | .nil,_,x,hm=>by simp[Exs.list]at hm
 | .cons e r,h,x,hm=>by
  simp only[LeafAlls]at h;rcases zK.1 hm with h'|h'
  · rw[h'];exact h.1
  · exact qj4 r h.2 x h'
theorem qsu:∀(es:Sts),∀x∈es.list,wS x≤wSs es
 | .nil,x,hm=>by simp[Sts.list]at hm
 | .cons e r,x,hm=>by
  simp only[wSs];rcases zK.1 hm with h|h
  · rw[h];omega
  · have:=qsu r x h;omega
def Yn(l:qV)(n:Nat)(xs:List St_):List UInt8:=(xs.map (yF l n)).flatten
theorem qll{l:qV}{n i:Nat}{xs:List St_}{x:St_}(h:xs[i]?=some x):Yn l n (xs.take (i+1))=Yn l n (xs.take i)++yF l n x:=by
 unfold Yn;rw[VO,h];simp
theorem qsv(l:qV)(n i:Nat)(xs:List St_):(Yn l n (xs.take i)).length≤(Yn l n xs).length:=by
 have h:Yn l n xs=Yn l n (xs.take i)++Yn l n (xs.drop i):=by
  unfold Yn;rw[← Wy,← Kr,Kw]
 rw[h,zb];omega
set_option maxHeartbeats 1000000 in
theorem c37{l:qV}{es:Sts}(hk:∀x∈es.list,E71 l x){V:qc}{b n:Nat}{s:List UInt8}{G0:Own}{sl:Value}{cl:List Value}(hn2:n+1+wSs es≤100000)(hsg:yt V)
 (hS:Sl 15 V sl cl) (hE:Sts.Is V es cl) (hW:Wr b n s G0) (hl:s.length+(Jy l n es).length≤549755813888):jk Tryz.prog 96 [.pointer (some ⟨b,0,none⟩),sl].toArray V G0 fun _ _ G'=>Wr b n (s++Jy l n es) G':=by
 have htl:(QO n).length=n:=Yc n
 have hn:ZG n:=by unfold ZG;omega
 have hte:textSs l (n+1) es=Yn l (n+1) es.list:=Yz l (n+1) es
 have hws:=qsu es;unfold Jy at hl ⊢
 rw[hte]at hl ⊢;simp only[zb,zf,zk]at hl;have hp:=Sts.parts hE;generalize hm:es.list.length=m at *
 refine qH Tryz.func96 rfl Tryz.ntmps96 rfl ?_;intro X w hM hMl hw hV0 hR;dsimp only[qZ,Nat.zero_add,Nat.reduceAdd]
 (repeat'(first|refine qq ?_|refine qa ?_|refine qo ?_|refine qe ?_|(refine qn rfl ?_;first|refine jz rfl ?_|(apply qw tb hMl;(·exact rfl);(·exact rfl);(·exact rfl);(·decide);(·(repeat(first|exact .nil|(apply Cat.cons;(·exact rfl);(·exact rfl);(·exact rfl))|exact .nil|apply App.cons)));intro b1 hb1)|(refine qr tb rfl rfl rfl (Yq hb1 hW (by simp only[jd,zf,zk];omega)).1 (by rw[z7]) ?_;intro _ V1 G1 hs1 hW1;have hq1:=(Sub.addV hb1).trans hs1)|refine qh rfl ?_|refine qb tb rfl rfl ?_)))
 obtain⟨k0,k1,rest,rfl,hk1⟩:=hW1.shape;dsimp only[List.cons_append]
 (repeat'(first|refine qq ?_|refine qa ?_|refine qo ?_|refine qe ?_|refine qt ?_|((first|refine qn rfl ?_|refine jE ?_);(first|refine jz rfl ?_|refine qX tb rfl (hS.mono hq1) rfl rfl hp.1 (by decide) ?_|refine qh rfl ?_|refine jf rfl rfl (by omega) (by omega) ?_|refine qb tb rfl rfl ?_|(apply qp tb rfl rfl;(·exact At.own .here);(·exact rfl))|(apply yk tb rfl rfl rfl rfl rfl;(·exact .here);(·exact rfl))))))
 have hseg:∀i,(Yn l (n+1) (es.list.take i)).length≤(Yn l (n+1) es.list).length:=fun i=>qsv _ _ _ _
 refine jC (fun L' V' G' μ=>∃i:Nat,i≤m∧μ=m-i∧Sub V V'∧Wr b ((n+1:Nat):Int) (s++[32,123,10]++Yn l (n+1) (es.list.take i)) G'∧L'=[(18,.int .i64 i),(16,sl),(17,.int .i64 m),(0,.pointer (some ⟨b,0,none⟩))]) (m0:=m) (by repeat(first|exact .nil|refine .cons rfl ?_)) (List.Sublist.cons_cons _ (zH _ _)) ⟨0,by omega,by omega,hq1,by simpa[Yn]using hk1 ((n+1:Nat):Int),rfl⟩ ?_
 rintro L' V' G' μ ⟨i,hi,hμ,hVs,hWi,hLe⟩
 subst hLe;by_cases hlt:i<m
 · obtain⟨ax,lx,qx,rfl,hz1,hz2,hlx,hpx⟩:=hS.mono hVs
   have hp':=Sts.parts (Sts.Is.mono hVs es hE)
   rw[hm]at hp';have hxl:=hp.1;have hlx':lx=m:=by omega
   subst hlx';have hbig:lx≤9223372036854775807:=by unfold maxLen at hz2;omega
   obtain⟨bx,ox,rfl,hrx⟩:=hpx.resolve_left (by omega)
   obtain⟨c,hc1,⟨x,hx1,hc2⟩,hc3⟩:=hp'.rd hrx (i:=i) (by omega)
   have hxm:=zO hx1
   have hsx:=qll (l:=l) (n:=n+1) hx1
   have hle:=hseg (i+1)
   rw[hsx,zb]at hle;have hcall:=hk x hxm (n:=n+1) (by have:=hws x hxm;omega) (hsg.mono hVs) hc2 hWi (by simp only[zb,zf,zk];omega)
   obtain⟨kd,pt,nm,ix,ex,lo,hi_,tn,el⟩:=x;simp only[St_.Is]at hc2;obtain⟨s1,c1,ce,s2,c2,s3,c3,rfl,g1,h1,he,g2,h2,g3,h3⟩:=hc2;obtain⟨_,_,_,_,_,_,_,_,_,rfl⟩:=he.lits;obtain⟨_,_,_,rfl⟩:=g1.lit;obtain⟨_,_,_,rfl⟩:=g2.lit;obtain⟨_,_,_,rfl⟩:=g3.lit;simp only[zD,zy]at hc1 hc3 hcall
   (repeat'(first|refine qq ?_|refine qa ?_|refine qo ?_|refine qe ?_|refine qt ?_|refine qF ?_|refine qS ?_|refine jh ?_|refine qG ?_|refine qD ?_|refine qI ?_|((first|refine qn rfl ?_|refine jE ?_);(first|refine qB tb rfl rfl rfl (by omega) (by omega) ?_|refine yl tb rfl rfl hc1 (by decide) hc3 ?_|(refine qr tb rfl rfl rfl hcall (zF (l₁:=[_])) ?_;intro _ V2 G2 hs2 hW2)|refine qh rfl ?_|refine jV rfl rfl ?_|refine jf rfl rfl (by omega) (by omega) ?_|(apply qK tb rfl rfl;(·exact At.own .here);(·exact rfl))|(apply yX tb rfl rfl rfl rfl rfl;(·exact .here);(·exact rfl))|(refine yA tb rfl ?_;intro b)))|refine yL rfl (fun _=>?_) (fun _=>?_)))
   · refine jb (by repeat(first|exact .nil|refine .cons rfl ?_)) (zH _ _) ⟨i+1,by omega,rfl,hVs.trans hs2,?_,rfl⟩ (by omega)
     rw[hsx,← zw];exact hW2
   · exfalso;omega
 · obtain⟨k0',k1',rest',rfl,hk'⟩:=hWi.shape
   have e:((n+1:Nat):Int)-1=(n:Int):=by omega
   have hWn:=hk' (((n+1:Nat):Int)-1)
   rw[zP (by omega)]at hWn;have hWn':Wr b (n:Int) (s++[32,123,10]++Yn l (n+1) es.list) ((b,.cells [k0',k1',.int .i64 (((n+1:Nat):Int)-1)].toArray 133 (0,0))::rest'):=by
    rw[e]at hWn ⊢;exact hWn
   (repeat'(first|refine qq ?_|refine qa ?_|refine qo ?_|refine qe ?_|refine qt ?_|refine qF ?_|refine jh ?_|refine qG ?_|refine qD ?_|refine qI ?_|((first|refine qn rfl ?_|refine jE ?_);(first|refine jz rfl ?_|(apply qw tb hMl;(·exact rfl);(·exact rfl);(·exact rfl);(·decide);(·(repeat(first|exact .nil|(apply Cat.cons;(·exact rfl);(·exact rfl);(·exact rfl))|exact .nil|apply App.cons)));intro b1 hb1)|(refine qr tb rfl rfl rfl (qst hn hb1 hWn' (by simp only[zb,jd,zf,zk];omega)) (by rw[z7]) ?_;intro _ V2 G2 hs2 hW2)|refine qh rfl ?_|refine jV rfl rfl ?_|refine qai rfl rfl (by omega) (by omega) ?_|refine qb tb rfl rfl ?_|(apply qp tb rfl rfl;(·exact At.own .here);(·exact rfl))|(apply yk tb rfl rfl rfl rfl rfl;(·exact .here);(·exact rfl))))|refine yL rfl (fun _=>?_) (fun _=>?_)))
   · exfalso;omega
   · refine je hM hw hV0 hR _ (zH _ _) (QB rfl) ?_
     simp only[← zw]at hW2 ⊢;exact hW2
end Fly
end
section
namespace Fly
open Go Go.Proofs
set_option maxRecDepth 10000
attribute [local irreducible] WC WE WR Opr St Go.Calls Qy Qf ji Rel jk Qe yR Owe One Qg Go.CallsD
theorem c71a{l:qV}{p:Int}{nm:ByteArray}{ix:Exs}{ex:Ex}{lo hi:Int}{tn el:Sts}(hfi:LeafAlls l ix)(hf:Qt l ex):E71 l (.mk 1 p nm ix ex lo hi tn el):=by
 intro V b n s G0 cx hwn hsg hE hW hl;have hn:ZG n:=by unfold ZG;omega
 have htl:(QO n).length=n:=Yc n
 have hna:=Qn nm;simp only[St_.Is]at hE;obtain⟨s1,c1,ce,s2,c2,s3,c3,rfl,g1,h1,he,g2,h2,g3,h3⟩:=hE;have hp:=Exs.parts h1;obtain⟨a0,a1,a2,a3,a4,a5,a6,rfl⟩:=he.lit;simp only[zD,zy];have et:yF l n (.mk 1 p nm ix ex lo hi tn el)=QO n++nm.data.toList++qjo (textEs l ix)++([32,61,32]++jJ l ex++[59])++[10]:=by simp only[yF,VG]
 rw[et]at hl ⊢;simp only[zb,zf,zk]at hl;have ht:=fun(V':qc) (hs:Sub V V')=>c10 hf (hsg.mono hs) (Ex.Is.mono hs _ he) (by omega)
 have hix:(textEs l ix).length=ix.list.length:=Ji l ix
 unfold qjo at hl ⊢
 by_cases h0:ix.list.length=0
 · rw[z6 (by omega)]at hl ⊢
   refine qH Tryz.func147 rfl Tryz.ntmps147 rfl ?_;intro X w hM hMl hw hV0 hR;dsimp only[qZ,Nat.zero_add,Nat.reduceAdd]
   (repeat'(first|refine qq ?_|refine qa ?_|refine qo ?_|refine qe ?_|refine qt ?_|refine qF ?_|(refine qn rfl ?_;first|(refine qJ rfl ?_;intro bx;refine jF (zF (l₁:=[_])) ?_)|(apply qp tb rfl rfl;(·exact At.own (.app .here));(·exact rfl))|(apply qK tb rfl rfl;(·exact At.own (.app .here));(·exact rfl))|(apply qw tb hMl;(·exact rfl);(·exact rfl);(·exact rfl);(·decide);(·(repeat(first|exact .nil|(apply Cat.cons;(·exact rfl);(·exact rfl);(·exact rfl))|exact .nil|apply App.cons)));intro b1 hb1)|refine qX tb rfl (g1.mono hq1) rfl rfl hp.1 (by decide) ?_|refine qbE rfl rfl (by omega) ?_|(refine qr tb rfl rfl rfl (qst hn hb1 hW (by omega)) (zr _) ?_;intro _ V1 G1 hs1 hW1;have hq1:=(Sub.addV hb1).trans hs1)|refine qh rfl ?_|refine qd rfl ?_|refine jI rfl rfl ?_|refine qb tb rfl rfl ?_)|refine qE rfl ?_|refine qz rfl ?_))
   have ht1:=ht V1 hq1
   (repeat'(first|refine qa ?_|refine qo ?_|refine qe ?_|refine qS ?_|(refine qn rfl ?_;first|(apply qw tb hMl;(·exact rfl);(·exact rfl);(·exact rfl);(·decide);(·(repeat(first|exact .nil|(apply Cat.cons;(·exact rfl);(·exact rfl);(·exact rfl))|exact .nil|apply App.cons)));intro b1 hb1)|refine qA tb rfl rfl ht1 ?_|(refine qr tb rfl rfl rfl (qn5 hb1 hW1 (by simp only[zb,jd,zf,zk];omega)) (zr _) ?_;intro _ V2 G2 hs2 hW2)|refine qh rfl ?_)))
   (repeat'(first|refine qo ?_|((refine qn rfl ?_);(refine qr tb rfl rfl rfl (Yq hb1 hW2 (by simp only[zb,jd,zf,zk];omega)).1 (zr _) ?_;intro _ V3 G3 hs3 hW3))))
   refine je hM hw hV0 hR _ (zH _ _) (QB rfl) ?_
   simp only[← zw,z7]at hW3 ⊢;exact hW3
 · rw[zQ (by omega)]at hl ⊢
   simp only[zb,zf,zk]at hl;obtain⟨x0,hx0⟩:∃x0,ix.list[0]?=some x0:=⟨_,zA (by omega)⟩
   have hfx:Qt l x0:=qj4 ix hfi x0 (zO hx0)
   rw[QL hx0]at hl ⊢;refine qH Tryz.func147 rfl Tryz.ntmps147 rfl ?_;intro X w hM hMl hw hV0 hR;dsimp only[qZ,Nat.zero_add,Nat.reduceAdd]
   (repeat'(first|refine qq ?_|refine qa ?_|refine qo ?_|refine qe ?_|refine qt ?_|(refine qn rfl ?_;first|(refine qJ rfl ?_;intro bx;refine jF (zF (l₁:=[_])) ?_)|(apply qp tb rfl rfl;(·exact At.own (.app .here));(·exact rfl))|(apply qw tb hMl;(·exact rfl);(·exact rfl);(·exact rfl);(·decide);(·(repeat(first|exact .nil|(apply Cat.cons;(·exact rfl);(·exact rfl);(·exact rfl))|exact .nil|apply App.cons)));intro b1 hb1)|(refine qr tb rfl rfl rfl (qst hn hb1 hW (by omega)) (zr _) ?_;intro _ V1 G1 hs1 hW1;have hq1:=(Sub.addV hb1).trans hs1)|refine qh rfl ?_|refine qd rfl ?_|refine jI rfl rfl ?_|refine qb tb rfl rfl ?_)|refine qE rfl ?_))
   have ht1:=ht V1 hq1;have hp1:=Exs.parts (Exs.Is.mono hq1 _ h1)
   obtain⟨ax,lx,qx,rfl,hz1,hz2,hlx,hpx⟩:=g1.mono hq1;have hxl:=hp1.1;have hlx':lx=ix.list.length:=by omega
   obtain⟨b2,o2,rfl,hrx⟩:=hpx.resolve_left (by omega)
   obtain⟨c,hc1,⟨x',hx1',hc2⟩,hc3⟩:=hp1.rd hrx (i:=0) (by omega)
   obtain rfl:x'=x0:=by rw[hx0]at hx1';exact(KV hx1').symm
   have htx:=c10 hfx (hsg.mono hq1) hc2 (by omega)
   obtain⟨y0,y1,y2,y3,y4,y5,y6,rfl⟩:=hc2.lit
   (repeat'(first|refine qa ?_|refine qo ?_|refine qe ?_|(refine qn rfl ?_;first|(apply qp tb rfl rfl;(·exact At.own (.app .here));(·exact rfl))|(apply qK tb rfl rfl;(·exact At.own (.app .here));(·exact rfl))|(apply qw tb hMl;(·exact rfl);(·exact rfl);(·exact rfl);(·decide);(·(repeat(first|exact .nil|(apply Cat.cons;(·exact rfl);(·exact rfl);(·exact rfl))|exact .nil|apply App.cons)));intro b1 hb1)|refine qX tb rfl (g1.mono hq1) rfl rfl hp.1 (by decide) ?_|refine qbD rfl rfl (by omega) ?_|refine qB tb rfl rfl rfl (by omega) (by omega) ?_|refine yl tb rfl rfl hc1 (by decide) hc3 ?_|refine qA tb rfl rfl htx ?_|(refine qr tb rfl rfl rfl (qn5 hb1 hW1 (by simp only[zb,jd,zf,zk];omega)) (zr _) ?_;intro _ V2 G2 hs2 hW2;have hq2:=hq1.trans ((Sub.addV hb1).trans hs2))|refine qh rfl ?_|refine qb tb rfl rfl ?_)|refine qE rfl ?_))
   have ht2:=ht V2 hq2
   (repeat'(first|refine qa ?_|refine qo ?_|refine qe ?_|refine qS ?_|(refine qn rfl ?_;first|(apply qw tb hMl;(·exact rfl);(·exact rfl);(·exact rfl);(·decide);(·(repeat(first|exact .nil|(apply Cat.cons;(·exact rfl);(·exact rfl);(·exact rfl))|exact .nil|apply App.cons)));intro b1 hb1)|refine qA tb rfl rfl ht2 ?_|(refine qr tb rfl rfl rfl (qn5 hb1 hW2 (by simp only[zb,jd,zf,zk];omega)) (zr _) ?_;intro _ V3 G3 hs3 hW3)|refine qh rfl ?_)))
   (repeat'(first|refine qo ?_|((refine qn rfl ?_);(refine qr tb rfl rfl rfl (Yq hb1 hW3 (by simp only[zb,jd,zf,zk];omega)).1 (zr _) ?_;intro _ V4 G4 hs4 hW4))))
   refine je hM hw hV0 hR _ (zH _ _) (QB rfl) ?_
   simp only[← zw]at hW4 ⊢;exact hW4
theorem c71b{l:qV}{p:Int}{nm:ByteArray}{ix:Exs}{ex:Ex}{lo hi:Int}{tn el:Sts}(hf:Qt l ex)(hkt:∀x∈tn.list,E71 l x)(hke:∀x∈el.list,E71 l x):E71 l (.mk 2 p nm ix ex lo hi tn el):=by
 intro V b n s G0 cx hwn hsg hE hW hl;have hn:ZG n:=by unfold ZG;omega
 have htl:(QO n).length=n:=Yc n
 simp only[wS]at hwn;simp only[St_.Is]at hE;obtain⟨s1,c1,ce,s2,c2,s3,c3,rfl,g1,h1,he,g2,h2,g3,h3⟩:=hE;have hp:=Sts.parts h3;obtain⟨a0,a1,a2,a3,a4,a5,a6,rfl⟩:=he.lit;simp only[zD,zy];have et:yF l n (.mk 2 p nm ix ex lo hi tn el)=QO n++([105,102,32]++jJ l ex)++Jy l n tn++(if el.list.length=0 then[]else[32,101,108,115,101]++Jy l n el)++[10]:=by simp only[yF,Jy,VG,zQ (show¬(2:Int)=1 by decide)]
 rw[et]at hl ⊢;generalize hEE:(if el.list.length=0 then([]:List UInt8)else[32,101,108,115,101]++Jy l n el)=E at hl ⊢
 simp only[zb,zf,zk]at hl;have ht:=c10 hf hsg he (by omega)
 refine qH Tryz.func147 rfl Tryz.ntmps147 rfl ?_;intro X w hM hMl hw hV0 hR;dsimp only[qZ,Nat.zero_add,Nat.reduceAdd]
 (repeat'(first|refine qq ?_|refine qa ?_|refine qo ?_|refine qe ?_|refine qt ?_|(refine qn rfl ?_;first|(refine qJ rfl ?_;intro bx;refine jF (zF (l₁:=[_])) ?_)|(apply qp tb rfl rfl;(·exact At.own (.app .here));(·exact rfl))|(apply qK tb rfl rfl;(·exact At.own (.app .here));(·exact rfl))|(apply qw tb hMl;(·exact rfl);(·exact rfl);(·exact rfl);(·decide);(·(repeat(first|exact .nil|(apply Cat.cons;(·exact rfl);(·exact rfl);(·exact rfl))|exact .nil|apply App.cons)));intro b1 hb1)|refine qA tb rfl rfl ht ?_|(refine qr tb rfl rfl rfl (qzb hn hb1 hW (by simp only[jd,zf,zk];omega)) (zr _) ?_;intro _ V1 G1 hs1 hW1;have hq1:=(Sub.addV hb1).trans hs1)|refine qh rfl ?_|refine qd rfl ?_|refine jI rfl rfl ?_|refine qb tb rfl rfl ?_)|refine qE rfl ?_|refine qz rfl ?_))
 have hc1:=c37 hkt (V:=V1) (n:=n) (by omega) (hsg.mono hq1) (g2.mono hq1) (Sts.Is.mono hq1 _ h2) hW1 (by simp only[zb,zf,zk];omega)
 (repeat'(first|refine qq ?_|refine qa ?_|refine qo ?_|refine qe ?_|(refine qn rfl ?_;first|(apply qp tb rfl rfl;(·exact At.own (.app .here));(·exact rfl))|(refine qr tb rfl rfl rfl hc1 (zr _) ?_;intro _ V2 G2 hs2 hW2;have hq2:=hq1.trans hs2)|refine qb tb rfl rfl ?_)))
 by_cases h0:el.list.length=0
 · have hE0:E=[]:=by rw[← hEE,z6 h0]
   subst hE0
   (repeat'(first|refine qa ?_|refine qo ?_|refine qe ?_|refine qF ?_|refine qS ?_|(refine qn rfl ?_;first|(apply qw tb hMl;(·exact rfl);(·exact rfl);(·exact rfl);(·decide);(·(repeat(first|exact .nil|(apply Cat.cons;(·exact rfl);(·exact rfl);(·exact rfl))|exact .nil|apply App.cons)));intro b1 hb1)|refine qX tb rfl (g3.mono hq2) rfl rfl hp.1 (by decide) ?_|refine qbE rfl rfl (by omega) ?_|(refine qr tb rfl rfl rfl (Yq hb1 hW2 (by simp only[zb,jd,zf,zk];omega)).1 (zr _) ?_;intro _ V4 G4 hs4 hW4)|refine qh rfl ?_)|refine qz rfl ?_))
   refine je hM hw hV0 hR _ (zH _ _) (QB rfl) ?_
   simp only[← zw,z7]at hW4 ⊢;exact hW4
 · have hE0:E=[32,101,108,115,101]++Jy l n el:=by rw[← hEE,zQ h0]
   subst hE0;simp only[zb,zf,zk]at hl
   (repeat'(first|refine qq ?_|refine qa ?_|refine qo ?_|refine qe ?_|(refine qn rfl ?_;first|(apply qp tb rfl rfl;(·exact At.own (.app .here));(·exact rfl))|(apply qw tb hMl;(·exact rfl);(·exact rfl);(·exact rfl);(·decide);(·(repeat(first|exact .nil|(apply Cat.cons;(·exact rfl);(·exact rfl);(·exact rfl))|exact .nil|apply App.cons)));intro b1 hb1)|refine qX tb rfl (g3.mono hq2) rfl rfl hp.1 (by decide) ?_|refine qbD rfl rfl (by omega) ?_|(refine qr tb rfl rfl rfl (Yq hb1 hW2 (by simp only[zb,jd,zf,zk];omega)).1 (zr _) ?_;intro _ V3 G3 hs3 hW3;have hq3:=hq2.trans ((Sub.addV hb1).trans hs3))|refine qh rfl ?_|refine qb tb rfl rfl ?_)|refine qE rfl ?_))
   have hc3:=c37 hke (V:=V3) (n:=n) (by omega) (hsg.mono hq3) (g3.mono hq3) (Sts.Is.mono hq3 _ h3) hW3 (by simp only[zb,jd,zf,zk];omega)
   (repeat'(first|refine qa ?_|refine qo ?_|refine qe ?_|refine qS ?_|(refine qn rfl ?_;first|(apply qw tb hMl;(·exact rfl);(·exact rfl);(·exact rfl);(·decide);(·(repeat(first|exact .nil|(apply Cat.cons;(·exact rfl);(·exact rfl);(·exact rfl))|exact .nil|apply App.cons)));intro b1 hb1)|(refine qr tb rfl rfl rfl hc3 (zr _) ?_;intro _ V4 G4 hs4 hW4)|(refine qr tb rfl rfl rfl (Yq hb1 hW4 (by simp only[zb,jd,zf,zk];omega)).1 (zr _) ?_;intro _ V5 G5 hs5 hW5)|refine qh rfl ?_)))
   refine je hM hw hV0 hR _ (zH _ _) (QB rfl) ?_
   simp only[← zw]at hW5 ⊢;exact hW5
theorem c71c{l:qV}{p:Int}{nm:ByteArray}{ix:Exs}{ex:Ex}{lo hi:Int}{tn el:Sts}(hlo:qie l lo∧-2147483648≤lo∧lo≤2147483647)(hhi:qie l hi∧-2147483648≤hi∧hi≤2147483647)(hkt:∀x∈tn.list,E71 l x):E71 l (.mk 3 p nm ix ex lo hi tn el):=by
 intro V b n s G0 cx hwn hsg hE hW hl;have hn:ZG n:=by unfold ZG;omega
 have htl:(QO n).length=n:=Yc n
 have hna:=Qn nm;simp only[wS]at hwn;simp only[St_.Is]at hE;obtain⟨s1,c1,ce,s2,c2,s3,c3,rfl,g1,h1,he,g2,h2,g3,h3⟩:=hE;obtain⟨a0,a1,a2,a3,a4,a5,a6,rfl⟩:=he.lit;simp only[zD,zy];have et:yF l n (.mk 3 p nm ix ex lo hi tn el)=QO n++([102,111,114,32]++(nm.data.toList++([32,61,32]++(l.itoa lo++([32,46,46,32]++l.itoa hi)))))++Jy l n tn++[10]:=by
  simp only[yF,Jy,VG,zQ (show¬(3:Int)=1 by decide),zQ (show¬(3:Int)=2 by decide),zw]
 rw[et]at hl ⊢;simp only[zb,zf,zk]at hl;obtain⟨hlo,hlo1,hlo2⟩:=hlo;obtain⟨hhi,hhi1,hhi2⟩:=hhi;have hi1:=Jk (hlo V hsg)
 have hi2:=Jk (hhi V hsg)
 refine qH Tryz.func147 rfl Tryz.ntmps147 rfl ?_;intro X w hM hMl hw hV0 hR;dsimp only[qZ,Nat.zero_add,Nat.reduceAdd]
 (repeat'(first|refine qq ?_|refine qa ?_|refine qo ?_|refine qe ?_|refine qt ?_|(refine qn rfl ?_;first|(refine qJ rfl ?_;intro bx;refine jF (zF (l₁:=[_])) ?_)|(apply qp tb rfl rfl;(·exact At.own (.app .here));(·exact rfl))|refine qd rfl ?_|refine jI rfl rfl ?_|refine qb tb rfl rfl ?_)|refine qE rfl ?_|refine qz rfl ?_))
 (refine jo 12 mo rfl (by kernel_rfl) rfl ?_;(repeat(first|(apply Prog.step (Q9 _) (jg _) rfl rfl;· (intro V1 F1 hs1;(repeat(first|refine jt ?_|refine js ?_));refine qW ?_;(first|(apply qp tb rfl rfl;(·exact At.own (.app (.app .here)));(·exact rfl))|refine qar tb rfl rfl rfl (by omega) (by omega) ?_|refine qA tb rfl rfl (hi1.mono (by assumption)) ?_|refine qA tb rfl rfl (hi2.mono (by assumption)) ?_|refine qh rfl ?_|refine qb tb rfl rfl ?_);exact Qc))|(apply Prog.step (qkm (qaX _ _ _)) (qaj Yu) rfl rfl;· (intro V1 F1 hs1;(repeat(first|refine jt ?_|refine js ?_));refine qW ?_;apply qw tb hMl;(·exact rfl);(·exact rfl);(·exact rfl);(·decide);(·(repeat(first|exact .nil|(apply Cat.cons;(·exact rfl);(·exact rfl);(·exact rfl))|exact .nil|apply App.cons)));(·(intro b2 hb2;exact qdq hb2))))));refine Prog.done ?_;intro V1 hs1;repeat(first|refine jp ?_|(refine qbr ?_;rintro _ ⟨b1,rfl,hb1⟩)|refine jr ?_))
 (repeat'(first|refine qa ?_|refine qo ?_|refine qe ?_|(refine qn rfl ?_;first|(apply qp tb rfl rfl;(·exact At.own (.app .here));(·exact rfl))|(refine qr tb rfl rfl rfl (qzc hn hb1 hW (by simp only[jd,zf,zk];omega)) (zr _) ?_;intro _ V1 G1 hsx hW1;have hq1:=hs1.trans hsx)|refine qh rfl ?_|refine qb tb rfl rfl ?_)))
 have hc1:=c37 hkt (V:=V1) (n:=n) (by omega) (hsg.mono hq1) (g2.mono hq1) (Sts.Is.mono hq1 _ h2) hW1 (by simp only[zb,jd,zf,zk];omega)
 (repeat'(first|refine qa ?_|refine qo ?_|refine qe ?_|refine qS ?_|(refine qn rfl ?_;first|(apply qw tb hMl;(·exact rfl);(·exact rfl);(·exact rfl);(·decide);(·(repeat(first|exact .nil|(apply Cat.cons;(·exact rfl);(·exact rfl);(·exact rfl))|exact .nil|apply App.cons)));intro b1 hb1)|(refine qr tb rfl rfl rfl hc1 (zr _) ?_;intro _ V2 G2 hs2 hW2;have hq2:=hq1.trans hs2)|(refine qr tb rfl rfl rfl (Yq hb1 hW2 (by simp only[zb,jd,zf,zk];omega)).1 (zr _) ?_;intro _ V4 G4 hs4 hW4)|refine qh rfl ?_)))
 refine je hM hw hV0 hR _ (zH _ _) (QB rfl) ?_
 simp only[← zw]at hW4 ⊢;exact hW4
theorem c71d{l:qV}{kd p:Int}{nm:ByteArray}{ix:Exs}{ex:Ex}{lo hi:Int}{tn el:Sts}(k1 : ¬kd=1)(k2 : ¬kd=2)(k3 : ¬kd=3):E71 l (.mk kd p nm ix ex lo hi tn el):=by
 intro V b n s G0 cx hwn hsg hE hW hl;simp only[St_.Is]at hE;obtain⟨s1,c1,ce,s2,c2,s3,c3,rfl,g1,h1,he,g2,h2,g3,h3⟩:=hE;obtain⟨a0,a1,a2,a3,a4,a5,a6,rfl⟩:=he.lit;simp only[zD,zy];have et:yF l n (.mk kd p nm ix ex lo hi tn el)=[]:=by simp only[yF,zQ k1,zQ k2,zQ k3]
 rw[et,z7];refine qH Tryz.func147 rfl Tryz.ntmps147 rfl ?_;intro X w hM hMl hw hV0 hR;dsimp only[qZ,Nat.zero_add,Nat.reduceAdd]
 (repeat'(first|refine qq ?_|refine qa ?_|refine qo ?_|refine qe ?_|refine qt ?_|refine qO ?_|(refine qn rfl ?_;first|(refine qJ rfl ?_;intro bx;refine jF (zF (l₁:=[_])) ?_)|(apply qp tb rfl rfl;(·exact At.own (.app .here));(·exact rfl))|refine qaq rfl rfl (by omega) ?_|refine qd rfl ?_|refine qb tb rfl rfl ?_)|refine qz rfl ?_))
 exact QQ hM hw hV0 hR _ (zH _ _) (QB rfl) hW
mutual
theorem c71{l:qV}:∀(x:St_),qj3 l x→E71 l x
 | .mk kd p nm ix ex lo hi tn el,h=>by
  simp only[qj3]at h;obtain⟨h1,h2,h3,h4,h5⟩:=h;by_cases k1:kd=1
  · subst k1;exact c71a h1 h2
  by_cases k2:kd=2
  · subst k2;exact c71b h2 (c71s tn h4) (c71s el h5)
  by_cases k3:kd=3
  · subst k3;exact c71c (h3 rfl).1 (h3 rfl).2 (c71s tn h4)
  exact c71d k1 k2 k3
 termination_by structural x=>x
theorem c71s{l:qV}:∀(es:Sts),LeafSs l es→∀x∈es.list,E71 l x
 | .nil,_,x,hm=>by simp[Sts.list]at hm
 | .cons e r,h,x,hm=>by
  simp only[LeafSs]at h;rcases zK.1 hm with h'|h'
  · rw[h'];exact c71 e h.1
  · exact c71s r h.2 x h'
 termination_by structural x=>x
end
end Fly
end
