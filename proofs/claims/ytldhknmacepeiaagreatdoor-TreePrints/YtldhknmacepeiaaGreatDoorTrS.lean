/-
  A logic of walks. No condition.
-/
import Derived.Test.YtldhknmacepeiaaGreatDoorEB09
set_option linter.unusedVariables false
set_option linter.unusedSimpArgs false
section
namespace Fly
open Go Go.Proofs
set_option maxRecDepth 10000
attribute [local irreducible] WC WE WR Opr St Go.Calls Qy Qf ji Rel jk Qe yR Owe One Qg Go.CallsD
theorem qzd(t:Int):Qf Tryz.prog 146 [.int .u8 t] (.string ⟨(qbZ t).toArray⟩):=by
 refine Zb Tryz.func146 rfl Tryz.ntmps146 rfl ?_;intro X w V hM hw hV0 hR;dsimp only[qZ,Nat.zero_add,Nat.reduceAdd]
 (repeat'(first|refine qq ?_|refine qa ?_|refine qo ?_|refine qe ?_|refine qt ?_|refine qF ?_|refine qS ?_|refine qO ?_|(refine qn rfl ?_;first|refine qh rfl ?_|refine qd rfl ?_|refine jI rfl rfl ?_)|refine yL rfl (fun _=>?_) (fun _=>?_)))
 all_goals (refine ZL hM hw hV0 hR (jU rfl rfl) ?_)
 all_goals simp[qbZ, *]
 all_goals rfl
theorem qxW{V:qc}{b b1:Nat}{d:Int}{s:List UInt8}{t t2 t3 t4:ByteArray}{G0:Own}(hb:V b1=some (.cells [.string t,.string t2,.string t3,.string t4].toArray 9 (0,0)))(hW:Wr b d s G0)(hl:s.length+(t.size+(t2.size+(t3.size+t4.size)))≤549755813888) :
 jk Tryz.prog 93 [.pointer (some ⟨b,0,none⟩),.slice (some ⟨b1,0,none⟩) 4 4].toArray V G0 fun _ _ G'=>Wr b d (s++(t.data.toList++(t2.data.toList++(t3.data.toList++t4.data.toList)))) G':=by
 have:=(qn4 (ts:=[t,t2,t3,t4]) (Sl.at (k:=1) (m:=4) (e:=9) hb rfl (by decide)) hW (by simpa[y8,Qn]using hl)).1
 simpa[y8]using this
theorem qxX{V:qc}{b b1:Nat}{d:Int}{s:List UInt8}{t t2 t3 t4 t5:ByteArray}{G0:Own}(hb:V b1=some (.cells [.string t,.string t2,.string t3,.string t4,.string t5].toArray 9 (0,0)))(hW:Wr b d s G0)(hl:s.length+(t.size+(t2.size+(t3.size+(t4.size+t5.size))))≤549755813888) :
 jk Tryz.prog 93 [.pointer (some ⟨b,0,none⟩),.slice (some ⟨b1,0,none⟩) 5 5].toArray V G0 fun _ _ G'=>Wr b d (s++(t.data.toList++(t2.data.toList++(t3.data.toList++(t4.data.toList++t5.data.toList))))) G':=by
 have:=(qn4 (ts:=[t,t2,t3,t4,t5]) (Sl.at (k:=1) (m:=5) (e:=9) hb rfl (by decide)) hW (by simpa[y8,Qn]using hl)).1
 simpa[y8]using this
def qvQ(l:qV)(d:Dc):Prop:=Qt l d.lo∧Qt l d.hi∧qie l d.len
set_option maxHeartbeats 1000000 in
theorem qze{l:qV}{d:Dc}(hd:qvQ l d)(hle:(jJ l d.lo).length≤549755813888∧(jJ l d.hi).length≤549755813888){V:qc}{b:Nat}{dp:Int}{s:List UInt8}{G0:Own}{cx:List Value}(hsg:yt V)(hE:Dc.Is V d cx)(hW:Wr b dp s G0)(hl:s.length+(qaP l d).length≤549755813888) :
 jk Tryz.prog 95 [.pointer (some ⟨b,0,none⟩),.agg cx.toArray].toArray V G0 fun _ _ G'=>Wr b dp (s++qaP l d) G':=by
 obtain⟨at_,inp,nm,ty,len,rng,lo,hi⟩:=d;obtain⟨hlo,hhi,hlen⟩:=hd;obtain⟨cl,ch,rfl,h1,h2⟩:=hE;dsimp only at hlo hhi hlen h1 h2 hle;have hna:=Qn nm;obtain⟨a0,a1,a2,a3,a4,a5,a6,rfl⟩:=h1.lit;obtain⟨d0,d1,d2,d3,d4,d5,d6,rfl⟩:=h2.lit;simp only[zD,zy];have et:qaP l ⟨at_,inp,nm,ty,len,rng,lo,hi⟩=((if inp then[105,110,112,117,116,32]else[118,97,114,32])++(nm.data.toList++([58,32]++qbZ ty)))++(if 0<len then[91]++l.itoa len++[93]else[]) ++
  (if rng then[32,105,110,32,91]++(jJ l lo++([44,32]++(jJ l hi++[93])))else[])++[59,10]:=by simp only[qaP,zw]
 rw[et]at hl ⊢;clear et;have kd:=(qzd ty).v V
 have kl:=Jk (hlen V hsg)
 cases inp <;> cases rng <;> by_cases hpos:0<len
 all_goals (first|rw[z6 hpos]at hl ⊢|rw[zQ hpos]at hl ⊢)
 all_goals simp only[VG,Vv,Vs,z7]at hl ⊢
 all_goals simp only[zb,zf,zk]at hl
 all_goals (have hq1:=Sub.refl V)
 all_goals (have ht1:=c10 hlo hsg h1 (by omega))
 all_goals (have ht2:=c10 hhi hsg h2 (by omega))
 all_goals (refine qH Tryz.func95 rfl Tryz.ntmps95 rfl ?_;intro X w hM hMl hw hV0 hR;dsimp only[qZ,Nat.zero_add,Nat.reduceAdd])
 all_goals (repeat'(first|refine qq ?_|refine qa ?_|refine qo ?_|refine qe ?_|refine qF ?_|(refine qn rfl ?_;first|(refine qJ rfl ?_;intro bx;refine jF (zF (l₁:=[_])) ?_)|(apply qp tb rfl rfl;(·exact At.own (.app .here));(·exact rfl))|refine qd rfl ?_|refine qb tb rfl rfl ?_)|refine qE rfl ?_|refine qz rfl ?_))
 all_goals (refine jo 8 mo rfl (by kernel_rfl) rfl ?_;(repeat(first|(apply Prog.step (Q9 _) (jg _) rfl rfl;· (intro V1 F1 hs1;(repeat(first|refine jt ?_|refine js ?_));refine qW ?_;(first|(apply qp tb rfl rfl;(·exact At.own (.app (.app .here)));(·exact rfl))|refine qA tb rfl rfl (kd.mono (by assumption)) ?_|refine qh rfl ?_|refine qb tb rfl rfl ?_);exact Qc))|(apply Prog.step (qkm (qaX _ _ _)) (qaj Yu) rfl rfl;· (intro V1 F1 hs1;(repeat(first|refine jt ?_|refine js ?_));refine qW ?_;apply qw tb hMl;(·exact rfl);(·exact rfl);(·exact rfl);(·decide);(·(repeat(first|exact .nil|(apply Cat.cons;(·exact rfl);(·exact rfl);(·exact rfl))|exact .nil|apply App.cons)));(·(intro b2 hb2;exact qdq hb2))))));refine Prog.done ?_;intro V1 hs1;repeat(first|refine jp ?_|(refine qbr ?_;rintro _ ⟨b1,rfl,hb1⟩)|refine jr ?_))
 all_goals (repeat'(first|refine qq ?_|refine qa ?_|refine qo ?_|refine qe ?_|refine qF ?_|(refine qn rfl ?_;first|(apply qp tb rfl rfl;(·exact At.own (.app .here));(·exact rfl))|(apply qw tb hMl;(·exact rfl);(·exact rfl);(·exact rfl);(·decide);(·(repeat(first|exact .nil|(apply Cat.cons;(·exact rfl);(·exact rfl);(·exact rfl))|exact .nil|apply App.cons)));intro b1 hb1)|refine qbD rfl rfl (by omega) ?_|refine qbE rfl rfl (by omega) ?_|refine qA tb rfl rfl (kl.mono hq1) ?_|(refine qr tb rfl rfl rfl (qxW hb1 hW (by simp only[jd,zf,zk];omega)) (zr _) ?_;intro _ V1 G1 hsx hW1;have hq1:=hs1.trans hsx;clear hW)|(refine qr tb rfl rfl rfl (qn5 hb1 hW1 (by simp only[zb,jd,zf,zk];omega)) (zr _) ?_;intro _ V1 G1 hs1 hW1;have hq1:=hq1.trans ((Sub.addV hb1).trans hs1))|refine qh rfl ?_|refine qb tb rfl rfl ?_)|refine qE rfl ?_|refine qz rfl ?_))
 all_goals (first|((refine jo 8 mo rfl (by kernel_rfl) rfl ?_;(repeat(first|(apply Prog.step (Q9 _) (jg _) rfl rfl;· (intro V1 F1 hs1;(repeat(first|refine jt ?_|refine js ?_));refine qW ?_;(first|(apply qK tb rfl rfl;(·exact At.own (.app (.app .here)));(·exact rfl))|refine qA tb rfl rfl ((ht1.mono hq1).mono (by assumption)) ?_|refine qA tb rfl rfl ((ht2.mono hq1).mono (by assumption)) ?_|refine qh rfl ?_|refine qb tb rfl rfl ?_);exact Qc))|(apply Prog.step (qkm (qaX _ _ _)) (qaj Yu) rfl rfl;· (intro V1 F1 hs1;(repeat(first|refine jt ?_|refine js ?_));refine qW ?_;apply qw tb hMl;(·exact rfl);(·exact rfl);(·exact rfl);(·decide);(·(repeat(first|exact .nil|(apply Cat.cons;(·exact rfl);(·exact rfl);(·exact rfl))|exact .nil|apply App.cons)));(·(intro b2 hb2;exact qdq hb2))))));refine Prog.done ?_;intro V1 hs1;repeat(first|refine jp ?_|(refine qbr ?_;rintro _ ⟨b1,rfl,hb1⟩)|refine jr ?_));(repeat'(first|refine qa ?_|refine qo ?_|refine qe ?_|(refine qn rfl ?_;first|(apply qw tb hMl;(·exact rfl);(·exact rfl);(·exact rfl);(·decide);(·(repeat(first|exact .nil|(apply Cat.cons;(·exact rfl);(·exact rfl);(·exact rfl))|exact .nil|apply App.cons)));intro b1 hb1)|(refine qr tb rfl rfl rfl (qxX hb1 hW1 (by simp only[zb,jd,zf,zk];omega)) (zr _) ?_;intro _ V1 G1 hsx hW1)|refine qh rfl ?_))))|skip)
 all_goals (repeat'(first|refine qo ?_|((refine qn rfl ?_);(refine qr tb rfl rfl rfl (Yq hb1 hW1 (by simp only[zb,jd,zf,zk];omega)).1 (zr _) ?_;intro _ V9 G9 hs9 hW9))))
 all_goals refine je hM hw hV0 hR _ (zH _ _) (QB rfl) ?_
 all_goals simp only[← zw]at hW9 ⊢
 all_goals exact hW9
end Fly
end
section
namespace Fly
open Go Go.Proofs
set_option maxRecDepth 10000
attribute [local irreducible] WC WE WR Opr St Go.Calls Qy Qf ji Rel jk Qe yR Owe One Qg Go.CallsD
set_option maxHeartbeats 2000000 in
theorem c12{l:qV}{p:Pg}(hd:∀d∈p.ds,qvQ l d∧(jJ l d.lo).length≤549755813888∧(jJ l d.hi).length≤549755813888)(hi:LeafSs l p.ini)(hs:LeafSs l p.step)(hwi:wSs p.ini≤90000)(hws:wSs p.step≤90000)(ht:qie l p.ticks)
 {V:qc} {cx:List Value} (hsg:yt V) (hE:Pg.Is V p cx) (hl:(Yd l p).length≤549755813888):ji Tryz.prog 42 [.agg cx.toArray] V (.string ⟨(Yd l p).toArray⟩):=by
 obtain⟨sd,cd,si,ci,ss,cS,rfl,g1,h1,g2,h2,g3,h3⟩:=hE;have hp:=QA.parts h1;have kt:=Jk (ht V hsg)
 have hte:Yd l p=([116,105,99,107,115,32]++l.itoa p.ticks++[59,10])++yg l p.ds++[105,110,105,116]++Jy l 0 p.ini++[10,115,116,101,112]++Jy l 0 p.step++[10]:=rfl
 rw[hte]at hl ⊢;simp only[zb,zf,zk]at hl;have hseg:=Z4 l p.ds;generalize hm:p.ds.length=m at *
 refine qT Tryz.func42 rfl Tryz.ntmps42 rfl ?_;intro X w hM hw hV0 hR;dsimp only[qZ,Nat.zero_add,Nat.reduceAdd]
 have hMl:∀r,X.M r→r<X.w0.heap.size:=fun r h=>by rw[hM]at h;exact h.elim
 (repeat'(first|refine qq ?_|refine qa ?_|refine qo ?_|refine qe ?_|(refine qn rfl ?_;first|(apply qw tb hMl;(·exact rfl);(·exact rfl);(·exact rfl);(·decide);(·(repeat(first|exact .nil|(apply Cat.cons;(·exact rfl);(·exact rfl);(·exact rfl))|exact .nil|apply App.cons)));intro b1 hb1)|refine qA tb rfl rfl kt ?_|(refine qr tb rfl rfl rfl (qn5 hb1 (.new (d:=((0:Nat):Int)) none (.inl rfl)) (by simp only[jd,zf,zk];omega)) (zr _) ?_;intro _ V1 G1 hs1 hW1;have hq1:=(Sub.addV hb1).trans hs1)|refine qh rfl ?_|refine qd rfl ?_|refine qb tb rfl rfl ?_|(apply qp tb rfl rfl;(·(refine At.own (?_);repeat(first|exact .here|refine .there ?_)));(·exact rfl))|(apply Jo tb (by kernel_rfl) rfl (rfl:tb.fo _ 0=_);(·(repeat (exact Fill.nil))))|(refine qJ rfl ?_;intro b))))
 rename_i bx _
 (repeat'(first|refine qo ?_|refine qe ?_|refine qt ?_|(refine qn rfl ?_;first|(apply qp tb rfl rfl;(·exact At.own (.app .here));(·exact rfl))|refine qX tb rfl (g1.mono hq1) rfl rfl hp.1 (by decide) ?_|refine qh rfl ?_)))
 refine jC (fun L' V' G' μ=>∃(i:Nat) (Gw:Own),i≤m∧μ=m-i∧Sub V V'∧Wr b ((0:Nat):Int) (([116,105,99,107,115,32]++l.itoa p.ticks++[59,10])++yg l (p.ds.take i)) Gw∧G'=Gw++[(bx,.cells [.int .i64 p.ticks,sd,si,ss].toArray 66 (0,0))]∧L'=[(17,.int .i64 i),(16,.int .i64 m),(15,sd),(1,.pointer (some ⟨bx,0,none⟩)),(3,.pointer (some ⟨b,0,none⟩))]) (m0:=m) (by repeat(first|exact .nil|refine .cons rfl ?_)) (zJ _) ⟨0,G1,by omega,by omega,hq1,by simpa[yg]using hW1,rfl,rfl⟩ ?_
 rintro L' V' G' μ ⟨i,Gw,hi',hμ,hVs,hWi,rfl,hLe⟩
 subst hLe;by_cases hlt:i<m
 · obtain⟨ax,lx,qx,rfl,hz1,hz2,hlx,hpx⟩:=g1.mono hVs
   have hp':=QA.parts (QA.mono hVs h1)
   rw[hm]at hp';have hxl:=hp.1;have hlx':lx=m:=by omega
   subst hlx';have hbig:lx≤9223372036854775807:=by unfold maxLen at hz2;omega
   obtain⟨b2,ox,rfl,hrx⟩:=hpx.resolve_left (by omega)
   obtain⟨c,hc1,⟨x,hx1,hc2⟩,hc3⟩:=hp'.rd hrx (i:=i) (by omega)
   have hsx:=qde (l:=l) hx1
   have hle:=hseg (i+1)
   rw[hsx,zb]at hle;obtain⟨q1,q2⟩:=hd x (zO hx1)
   have hcall:=qze q1 q2 (hsg.mono hVs) hc2 hWi (by simp only[zb,zf,zk];omega)
   obtain⟨cl,ch,rfl,k1,k2⟩:=hc2;obtain⟨_,_,_,_,_,_,_,_,_,rfl⟩:=k1.lits;obtain⟨_,_,_,_,_,_,_,_,_,rfl⟩:=k2.lits;simp only[zD,zy]at hc1 hc3 hcall
   (repeat'(first|refine qq ?_|refine qa ?_|refine qo ?_|refine qe ?_|refine qt ?_|refine qF ?_|refine qS ?_|refine jh ?_|refine qG ?_|refine qD ?_|refine qI ?_|((first|refine qn rfl ?_|refine jE ?_);(first|refine qB tb rfl rfl rfl (by omega) (by omega) ?_|refine yl tb rfl rfl hc1 (by decide) hc3 ?_|(refine qr tb rfl rfl rfl hcall List.perm_middle.symm ?_;intro _ V2 G2 hs2 hW2)|refine qh rfl ?_|refine jV rfl rfl ?_|refine jf rfl rfl (by omega) (by omega) ?_|(apply qK tb rfl rfl;(·exact At.own .here);(·exact rfl))|(apply yX tb rfl rfl rfl rfl rfl;(·exact .here);(·exact rfl))|(refine yA tb rfl ?_;intro b)|(apply yh tb;(·exact rfl);(·exact rfl);(·exact rfl);(·decide);(·(repeat(first|exact .nil|(apply Cat.cons;(·exact rfl);(·exact rfl);(·exact rfl))|exact .nil|apply App.cons)));intro b)))|refine yL rfl (fun _=>?_) (fun _=>?_)))
   · refine jb (by repeat(first|exact .nil|refine .cons rfl ?_)) (List.Sublist.append (zJ _) (List.Sublist.cons _ (zJ _))) ⟨i+1,G2,by omega,rfl,hVs.trans hs2,?_,rfl,rfl⟩ (by omega)
     rw[hsx,← zw];exact hW2
   · exfalso;omega
 · rw[zP (by omega)]at hWi
   (repeat'(first|refine qq ?_|refine qa ?_|refine qo ?_|refine qe ?_|refine qt ?_|refine qF ?_|refine jh ?_|refine qG ?_|refine qD ?_|refine qI ?_|(refine qn rfl ?_;first|(apply qp tb rfl rfl;(·exact At.own (.app .here));(·exact rfl))|(apply qw tb hMl;(·exact rfl);(·exact rfl);(·exact rfl);(·decide);(·(repeat(first|exact .nil|(apply Cat.cons;(·exact rfl);(·exact rfl);(·exact rfl))|exact .nil|apply App.cons)));intro b1 hb1)|(refine qr tb rfl rfl rfl (Yq hb1 hWi (by simp only[zb,jd,zf,zk];omega)).1 (zr _) ?_;intro _ V2 G2 hs2 hW2;have hq2:=hVs.trans ((Sub.addV hb1).trans hs2))|refine qh rfl ?_|refine jV rfl rfl ?_|refine qb tb rfl rfl ?_)|refine yL rfl (fun _=>?_) (fun _=>?_)))
   · exfalso;omega
   have hc2:=c37 (c71s p.ini hi) (n:=0) (by omega) (hsg.mono hq2) (g2.mono hq2) (Sts.Is.mono hq2 _ h2) hW2 (by simp only[zb,zf,zk];omega)
   (repeat'(first|refine qq ?_|refine qa ?_|refine qo ?_|refine qe ?_|(refine qn rfl ?_;first|(apply qp tb rfl rfl;(·exact At.own (.app .here));(·exact rfl))|(apply qw tb hMl;(·exact rfl);(·exact rfl);(·exact rfl);(·decide);(·(repeat(first|exact .nil|(apply Cat.cons;(·exact rfl);(·exact rfl);(·exact rfl))|exact .nil|apply App.cons)));intro b1 hb1)|(refine qr tb rfl rfl rfl hc2 (zr _) ?_;intro _ V3 G3 hs3 hW3;have hq3:=hq2.trans hs3)|(refine qr tb rfl rfl rfl (Yq hb1 hW3 (by simp only[zb,jd,zf,zk];omega)).1 (zr _) ?_;intro _ V4 G4 hs4 hW4;have hq4:=hq3.trans ((Sub.addV hb1).trans hs4))|refine qh rfl ?_|refine qb tb rfl rfl ?_)))
   have hc4:=c37 (c71s p.step hs) (n:=0) (by omega) (hsg.mono hq4) (g3.mono hq4) (Sts.Is.mono hq4 _ h3) hW4 (by simp only[zb,zf,zk];omega)
   (repeat'(first|refine qq ?_|refine qa ?_|refine qo ?_|refine qe ?_|(refine qn rfl ?_;first|(apply qw tb hMl;(·exact rfl);(·exact rfl);(·exact rfl);(·decide);(·(repeat(first|exact .nil|(apply Cat.cons;(·exact rfl);(·exact rfl);(·exact rfl))|exact .nil|apply App.cons)));intro b1 hb1)|(refine qr tb rfl rfl rfl hc4 (zr _) ?_;intro _ V5 G5 hs5 hW5)|(refine qr tb rfl rfl rfl (Yq hb1 hW5 (by simp only[zb,jd,zf,zk];omega)).1 (zr _) ?_;intro _ V6 G6 hs6 hW6)|refine qh rfl ?_)))
   (repeat'(first|refine qo ?_|refine qe ?_|refine qO ?_|(refine qn rfl ?_;first|refine jz rfl ?_|(refine qr tb rfl rfl rfl (c29 hW6) (zr _) ?_;rintro _ V7 G7 hs7 ⟨rfl,rfl⟩)|refine qd rfl ?_|refine qb tb rfl rfl ?_)))
   (refine qR hM hw hV0 hR (jU rfl rfl) ?_)
   simp only[zw]
end Fly
end
section
namespace Fly
open Go Go.Proofs
set_option maxRecDepth 10000
attribute [local irreducible] WC WE WR Opr St Go.Calls Qy Qf ji Rel jk Qe yR Owe One Qg Go.CallsD
def qfs:qV:=⟨fun i=>[48+i.toNat.toUInt8],fun _=>[]⟩
theorem it1:qie qfs 1:=fun V h=>by
 have:=qid h.1 (n:=1) (by omega) (by omega)
 rw[show Su.itT 1=[49] from rfl]at this;exact this
theorem it3:qie qfs 3:=fun V h=>by
 have:=qid h.1 (n:=3) (by omega) (by omega)
 rw[show Su.itT 3=[51] from rfl]at this;exact this
theorem qdh:Qt qfs QZ:=by
 simp only[QZ,Z5,Qt,LeafAlls,qhV];refine⟨⟨fun h=>by omega,fun h=>by omega⟩,⟨⟨⟨fun h=>by omega,fun h=>by omega⟩,⟨⟨⟨fun h=>by omega,fun h=>by omega⟩,⟨⟨⟨fun h=>by omega,fun h=>by omega⟩,trivial⟩,⟨⟨fun _=>⟨it1,by omega,by omega⟩,fun h=>by omega⟩,trivial⟩,trivial⟩⟩,trivial⟩⟩,⟨⟨⟨fun h=>by omega,fun h=>by omega⟩,⟨⟨⟨fun h=>by omega,fun h=>by omega⟩,trivial⟩,trivial⟩⟩,trivial⟩⟩⟩
theorem qdi:jJ qfs QZ=[45,40,97,32,43,32,49,41,32,42,32,98,91,105,93]:=by rfl
def qm7:Ex:=.mk 7 9 false 0 0 .empty (.cons (.mk 17 0 false 0 0 .empty (.cons (.mk 5 0 false 0 0 .empty (.cons (Z5 97 .nil) (.cons (.mk 2 0 false 1 0 .empty .nil) .nil))) .nil)) (.cons (Z5 98 (.cons (Z5 105 .nil) .nil)) .nil))
def qif:St_:=.mk 1 0 ⟨#[120]⟩ .nil QZ 0 0 .nil .nil
def Jn:Pg:=⟨3,[],.nil,.cons qif .nil⟩
def qvR:Ex:=.mk 0 0 false 0 0 .empty .nil
def qvS:Pg:=⟨0,[],.nil,.nil⟩
theorem qch:Yd qfs Jn=[116,105,99,107,115,32,51,59,10,105,110,105,116,32,123,10,125,10,115,116,101,112,32,123,10,9,120,32,61,32,45,40,97,32,43,32,49,41,32,42,32,98,91,105,93,59,10,125,10]:=by rfl
theorem qow:LeafSs qfs Jn.step:=by
 simp only[Jn,qif,LeafSs,qj3,LeafAlls];exact⟨⟨trivial,qdh,fun h=>by omega,trivial,trivial⟩,trivial⟩
theorem qlm:Wn (cntSs Jn.ini+cntSs Jn.step)=1:=by decide
theorem qox:Wn (exSs Jn.ini+exSs Jn.step)=7:=by decide
theorem qzf:Yv QZ qm7=true:=by decide
theorem qzg:Yv QZ qvR=false:=by decide
theorem qxY:qiF Jn qvS=false:=by decide
theorem isP{V:qc}{b1:Nat}{ce:List Value}(hb:V b1=none)(hc:Ex.Is V QZ ce):Pg.Is (addV V b1 (.cells (([.int .u8 1,.int .i64 0,.string ⟨#[120]⟩,.slice none 0 0]:List Value)++ce++([.int .i32 0,.int .i32 0,.slice none 0 0,.slice none 0 0]:List Value)).toArray 80 (0,0))) Jn
 [.int .i64 3,.slice none 0 0,.slice none 0 0,.slice (some ⟨b1,0,none⟩) 1 1]:=by
 have hc':=fun o=>Ex.Is.mono (Sub.addV (o:=o) hb) _ hc
 refine⟨_,[],_,[],_,_,rfl,Sl.nil _ _,rfl,Sl.nil _ _,rfl,Sl.made hb (by simp[hc.len]) (by decide),?_⟩
 refine⟨_,[],(z7 _).symm,?_,rfl⟩
 simp only[qif,St_.Is];exact⟨_,[],_,_,[],_,[],rfl,Sl.nil _ _,rfl,hc' _,Sl.nil _ _,rfl,Sl.nil _ _,rfl⟩
theorem isZE(V:qc):Ex.Is V qvR [.int .u8 0,.int .i64 0,.bool false,.int .i32 0,.int .u64 0,.string .empty,.slice none 0 0]:=⟨_,[],rfl,Sl.nil _ _,rfl⟩
theorem isZP(V:qc):Pg.Is V qvS [.int .i64 0,.slice none 0 0,.slice none 0 0,.slice none 0 0]:=⟨_,[],_,[],_,[],rfl,Sl.nil _ _,rfl,Sl.nil _ _,rfl,Sl.nil _ _,rfl⟩
theorem is9{V:qc}{s:Value}{c:List Value}(h:Sl 7 V s c)(h2:Exs.Is V (.cons (.mk 17 0 false 0 0 .empty (.cons (.mk 5 0 false 0 0 .empty (.cons (Z5 97 .nil) (.cons (.mk 2 0 false 1 0 .empty .nil) .nil))) .nil)) (.cons (Z5 98 (.cons (Z5 105 .nil) .nil)) .nil)) c) :
 Ex.Is V qm7 [.int .u8 7,.int .i64 9,.bool false,.int .i32 0,.int .u64 0,.string .empty,s]:=⟨_,_,rfl,h,h2⟩
theorem qm8{P:Program}{n:Nat}{X:Cx}{L:Lo}{V:qc}{G:Own}{Q:Value→qc→Own→Prop}{ty:TypeId}{pos:String}{af:Array Edge}{gd:Option (Nat×Bool)}{ds:Option Tmp}{t u:TypeId}{x y:Operand}{p q:ByteArray}(hx:ev L x=some (.string p))(hy:ev L y=some (.string q))(h:p=q)(k:Q (.bool true) V G) :
 Opr P n X L V G ⟨ds,.binOp .eql t x y u,ty,pos,af,gd⟩ Q:=qer hx hy (by rw[zh h];exact k)
set_option maxHeartbeats 2000000 in
theorem c6{V:qc}(hsg:yt V):ji Tryz.prog 37 [] V (.bool true):=by
 refine qT Tryz.func37 rfl Tryz.ntmps37 rfl ?_;intro X w hM hw hV0 hR;dsimp only[qZ,Nat.zero_add,Nat.reduceAdd]
 (repeat'(first|refine qq ?_|refine qa ?_|refine qo ?_|refine qe ?_|((first|refine qn rfl ?_|refine jE ?_);(first|(refine jW tb rfl rfl c20 ?_;rintro _ V1 hv1 ⟨_,cs1,rfl,hE1⟩)|refine qd rfl ?_|(refine yA tb rfl ?_;intro b)))))
 have hI1:=hE1;simp only[QZ,Ex.Is]at hI1;obtain⟨sl1,css1,rfl,hS1,_⟩:=hI1;obtain⟨_,_,_,rfl⟩:=hS1.lit
 (repeat'(first|refine qq ?_|refine qa ?_|refine qo ?_|refine qe ?_|((first|refine qn rfl ?_|refine jE ?_);(first|(refine jW tb rfl rfl c20 ?_;rintro _ V2 hv2 ⟨_,cs2,rfl,hE2⟩)|(apply yX tb rfl rfl rfl rfl rfl;(·exact .here);(·exact rfl))|(refine yA tb rfl ?_;intro b)))))
 have hI2:=hE2;simp only[QZ,Ex.Is]at hI2;obtain⟨sl2,css2,rfl,hS2,hR2⟩:=hI2;obtain⟨_,_,_,rfl⟩:=hS2.lit
 (repeat'(first|refine qq ?_|refine qa ?_|refine qo ?_|refine qe ?_|((first|refine qn rfl ?_|refine jE ?_);(first|(apply JW tb hM;(·exact rfl);(·exact rfl);(·exact rfl);(·decide);(·(repeat(first|exact .nil|(apply Cat.cons;(·exact rfl);(·exact rfl);(·exact rfl))|exact .nil|apply App.cons)));intro b1 hb1)|refine qb tb rfl rfl ?_|(apply qK tb rfl rfl;(·(refine At.own (?_);repeat(first|exact .here|refine .there ?_)));(·exact rfl))|(apply yk tb rfl rfl rfl rfl rfl;(·exact .here);(·exact rfl))|(apply yX tb rfl rfl rfl rfl rfl;(·exact .here);(·exact rfl))|(apply Jo tb (by kernel_rfl) rfl (rfl:tb.fo _ 0=_);(·(repeat(first|exact Fill.nil|(apply Fill.cons;(·exact rfl);(·exact rfl);(·exact rfl);(·exact rfl);(·exact rfl))))))|(refine yA tb rfl ?_;intro b)))))
 have hP:=isP hb1 (Ex.Is.mono hv2 _ hE1)
 dsimp only[List.cons_append,List.nil_append]at hP;have hA:=fun o=>Ex.Is.mono (hv2.trans (Sub.addV (o:=o) hb1)) _ hE1
 have hB:=fun o=>Ex.Is.mono (Sub.addV (o:=o) hb1) _ (is9 hS2 hR2)
 have hsg':=fun o=>hsg.mono ((hv1.trans hv2).trans (Sub.addV (o:=o) hb1))
 have k14:=c14 _ hP;rw[qlm,qox]at k14;have k10:=fun o=>c10 qdh (hsg' o) (hA o) (by rw[qdi];decide)
 simp only[qdi]at k10;have k12:=c12 (l:=qfs) (p:=Jn) (fun d hd=>by cases hd) trivial qow (by decide) (by decide) it3 (hsg' _) hP (by rw[qch];decide)
 rw[qch]at k12;have k18:=fun o=>c18 _ _ (hA o) (hB o)
 simp only[qzf]at k18;have k18z:=fun o=>c18 _ _ (hA o) (isZE _)
 simp only[qzg]at k18z;have k17:=c17 _ _ hP hP;rw[qkF]at k17;have k17z:=c17 _ _ hP (isZP _)
 rw[qxY]at k17z
 (repeat'(first|refine qq ?_|refine qa ?_|refine qo ?_|refine qe ?_|refine qO ?_|((first|refine qn rfl ?_|refine Qa rfl rfl rfl ?_);(first|refine qA tb rfl rfl k14 ?_|refine qA tb rfl rfl (k10 _) ?_|refine qA tb rfl rfl k12 ?_|refine qA tb rfl rfl (k18 _) ?_|refine qA tb rfl rfl (k18z _) ?_|refine qA tb rfl rfl k17 ?_|refine qA tb rfl rfl k17z ?_|refine qm8 rfl rfl rfl ?_|refine qh rfl ?_|refine qd rfl ?_|refine jI rfl rfl ?_|refine qdX rfl rfl ?_|refine qck rfl ?_|refine qY rfl rfl ?_|(apply qK tb rfl rfl;(·(refine At.own (?_);repeat(first|exact .here|refine .there ?_)));(·exact rfl))|(apply Jo tb (by kernel_rfl) rfl (rfl:tb.fo _ 0=_);(·(repeat (exact Fill.nil))))))))
 (refine qR hM hw hV0 hR (jU rfl rfl) ?_)
 rfl
end Fly
end
section
namespace Fly
open Go Go.Proofs
set_option maxRecDepth 10000
attribute [local irreducible] WC WE WR Opr St Go.Calls Qy Qf yR Owe One Qg
def WgR(V:qc)(most:Int)(W:Nat)(v:Value)(V':qc):Prop:=∃r:Int,v = .int .i64 r∧V'=V∧0≤r∧r≤2*most+2∧(r≤most→r=(W:Int))
theorem quT{α:Type}(w:α→Nat)(l:List α):∃tk:Nat→Nat,tk 0=0∧tk l.length=(l.map w).sum∧∀i x,l[i]?=some x→tk (i+1)=tk i+w x :=
 ⟨fun i=>((l.take i).map w).sum,by simp,by simp,fun i x h=>by simp only[VO,h];simp⟩
theorem qig:∀es:Exs,wEs es=(es.list.map wE).sum
 | .nil=>rfl
 | .cons e r=>by simp[wEs,Exs.list,qig r]
theorem qm9:∀es:Sts,wSs es=(es.list.map wS).sum
 | .nil=>rfl
 | .cons e r=>by simp[wSs,Sts.list,qm9 r]
theorem qna:∀ds:List Dc,wDs ds=(ds.map wD).sum
 | []=>rfl
 | d::r=>by simp[wDs,qna r]
def C21(V:qc)(x:Ex):Prop:=∀ {cx:List Value} (most:Int),0≤most→most≤1000000→Ex.Is V x cx→Rel Tryz.prog 83 [.agg cx.toArray,.int .i64 most] V (WgR V most (wE x))
theorem c21b{V:qc}{op p:Int}{bo:Bool}{i f:Int}{nm:ByteArray}{es:Exs}(ih:∀x∈es.list,C21 V x):C21 V (.mk op p bo i f nm es):=by
 intro cx most hm0 hm1 hx;simp only[Ex.Is]at hx;obtain⟨sx,ex,rfl,hsx,has⟩:=hx;have hp:=Exs.parts has;obtain⟨tk,t0,tm,ts⟩:=quT wE es.list;have hW:wE (.mk op p bo i f nm es)=1+nm.size+tk es.list.length:=by rw[tm,← qig];rfl
 rw[hW];clear hW tm;generalize hm:es.list.length=m at *
 refine Qq Tryz.func83 rfl Tryz.ntmps83 rfl ?_;intro X w hM hw hV0 hR;dsimp only[qZ,Nat.zero_add,Nat.reduceAdd]
 (repeat'(first|refine qq ?_|refine qa ?_|refine qo ?_|refine qe ?_|refine qt ?_|(refine qn rfl ?_;first|refine Zh rfl rfl (by kernel_rfl) ?_|refine qhb rfl rfl ?_|refine qh rfl ?_|refine qd rfl ?_|refine jf rfl rfl (by omega) (by omega) ?_|refine qb tb rfl rfl ?_|(apply qp tb rfl rfl;(·exact At.own .here);(·exact rfl))|(refine qJ rfl ?_;intro b))))
 refine jC (fun L' V' G' μ=>∃i0:Nat,∃z:Int,i0≤m∧μ=m-i0∧V'=V∧G'=[(b,.cells [.int .u8 op,.int .i64 p,.bool bo,.int .i32 i,.int .u64 f,.string nm,sx].toArray 78 (0,0))]∧L'=[(6,.int .i64 i0),(5,.int .i64 z),(1,.int .i64 most),(2,.pointer (some ⟨b,0,none⟩))]∧0≤z∧z≤2*most+2∧(z≤most→z=1+(nm.size:Int)+(tk i0:Int))) (m0:=m) (by repeat(first|exact .nil|refine .cons rfl ?_)) (by repeat(first|exact .slnil|apply List.Sublist.cons_cons)) ⟨0,_,by omega,by omega,rfl,rfl,rfl,by omega,by omega,fun h=>by omega⟩ ?_
 rintro L' V' G' μ ⟨i0,z,hi,hμ,hVe,hGe,hLe,z0,z1,z2⟩
 subst hVe hGe hLe
 by_cases hlt:i0<m
 · obtain⟨ax,lx,qx,rfl,hq1,hq2,hlx,hpx⟩:=hsx
   have hxl:=hp.1;have hlx':lx=m:=by omega
   subst hlx';have hbig:lx≤9223372036854775807:=by unfold maxLen at hq2;omega
   obtain⟨bx,ox,rfl,hrx⟩:=hpx.resolve_left (by omega)
   obtain⟨c,hc1,⟨x,hx1,hc2⟩,hc3⟩:=hp.rd hrx (i:=i0) (by omega)
   have hts:=ts i0 x hx1;have hk:∀most,0≤most→most≤1000000→Rel Tryz.prog 83 [.agg c.toArray,.int .i64 most] V' (WgR V' most (wE x)):=fun most h0 h1=>ih x (zO hx1) most h0 h1 hc2
   (repeat'(first|refine qq ?_|refine qa ?_|refine qo ?_|refine qe ?_|refine qt ?_|refine qF ?_|refine qS ?_|refine jh ?_|refine qG ?_|refine qD ?_|refine qI ?_|refine qO ?_|((first|refine qn rfl ?_|refine Qa rfl rfl rfl ?_);(first|refine qB tb rfl rfl rfl (by omega) (by omega) ?_|refine yl tb rfl rfl hc1 (by decide) hc3 ?_|(refine jW tb rfl rfl (hk _ (by omega) (by omega)) ?_;rintro _ _ _ ⟨y,rfl,rfl,y0,y1,y2⟩)|refine qh rfl ?_|refine qd rfl ?_|refine jV rfl rfl ?_|refine JA rfl rfl ?_|refine qY rfl rfl ?_|refine ja rfl rfl ?_|refine jf rfl rfl (by omega) (by omega) ?_|refine qai rfl rfl (by omega) (by omega) ?_|refine qb tb rfl rfl ?_|refine jP tb rfl rfl rfl ?_|(apply qp tb rfl rfl;(·exact At.own .here);(·exact rfl))))|refine JI rfl rfl rfl rfl ?_|refine qz rfl ?_|refine yL rfl (fun _=>?_) (fun _=>?_)|refine yB rfl rfl (fun _=>?_) (fun _=>?_)))
   all_goals first
    | (exfalso;omega)
    | (refine yS hM hw hV0 hR (jU rfl rfl) ⟨_,rfl,rfl,by omega,by omega,fun h=>by omega⟩)
    | exact jb (by repeat(first|exact .nil|refine .cons rfl ?_)) (by repeat(first|exact .slnil|apply List.Sublist.cons_cons)) ⟨i0+1,_,by omega,rfl,rfl,rfl,rfl,by omega,by omega,fun h=>by omega⟩ (by omega)
 · obtain rfl:i0=m:=by omega
   (repeat'(first|refine qq ?_|refine qa ?_|refine qo ?_|refine qe ?_|refine qt ?_|refine qF ?_|refine jh ?_|refine qG ?_|refine qD ?_|refine qI ?_|refine qO ?_|((first|refine qn rfl ?_|refine Qa rfl rfl rfl ?_);(first|refine qX tb rfl hsx rfl rfl hp.1 (by decide) ?_|refine qh rfl ?_|refine qd rfl ?_|refine jV rfl rfl ?_|refine JA rfl rfl ?_|refine qY rfl rfl ?_|refine ja rfl rfl ?_|refine qb tb rfl rfl ?_|(apply qp tb rfl rfl;(·exact At.own .here);(·exact rfl))))|refine JI rfl rfl rfl rfl ?_|refine qz rfl ?_|refine yL rfl (fun _=>?_) (fun _=>?_)|refine yB rfl rfl (fun _=>?_) (fun _=>?_)))
   all_goals first
    | (exfalso;omega)
    | (refine yS hM hw hV0 hR (jU rfl rfl) ⟨_,rfl,rfl,by omega,by omega,fun h=>by omega⟩)
mutual
theorem c21{V:qc}:∀(x:Ex),C21 V x
 | .mk _ _ _ _ _ _ es=>c21b (c21s es)
 termination_by structural x=>x
theorem c21s{V:qc}:∀(es:Exs),∀x∈es.list,C21 V x
 | .nil,x,hm=>by simp[Exs.list]at hm
 | .cons e r,x,hm=>by
  rcases zK.1 hm with h|h
  · rw[h];exact c21 e
  · exact c21s r x h
 termination_by structural x=>x
end
theorem c49{V:qc}{es:Exs}{sx:Value}{cx:List Value}(most:Int)(hm0:0≤most)(hm1:most≤1000000)(hsx:Sl 7 V sx cx)(has:Exs.Is V es cx):Rel Tryz.prog 137 [sx,.int .i64 most] V (WgR V most (wEs es)):=by
 have hp:=Exs.parts has;obtain⟨tk,t0,tm,ts⟩:=quT wE es.list;have hW:wEs es=tk es.list.length:=by rw[tm,← qig]
 rw[hW];clear hW tm;generalize hm:es.list.length=m at *
 refine Qq Tryz.func137 rfl Tryz.ntmps137 rfl ?_;intro X w hM hw hV0 hR;dsimp only[qZ,Nat.zero_add,Nat.reduceAdd]
 (repeat'(first|refine qq ?_|refine qa ?_|refine qo ?_|refine qe ?_|refine qt ?_|((refine qn rfl ?_);(refine qd rfl ?_))))
 refine jC (fun L' V' G' μ=>∃i0:Nat,∃z:Int,i0≤m∧μ=m-i0∧V'=V∧G'=[]∧L'=[(6,.int .i64 i0),(5,.int .i64 z),(0,sx),(1,.int .i64 most)]∧0≤z∧z≤2*most+2∧(z≤most→z=(tk i0:Int))) (m0:=m) (by repeat(first|exact .nil|refine .cons rfl ?_)) (zJ _) ⟨0,_,by omega,by omega,rfl,rfl,rfl,by omega,by omega,fun h=>by omega⟩ ?_
 rintro L' V' G' μ ⟨i0,z,hi,hμ,hVe,hGe,hLe,z0,z1,z2⟩
 subst hVe hGe hLe
 by_cases hlt:i0<m
 · obtain⟨ax,lx,qx,rfl,hq1,hq2,hlx,hpx⟩:=hsx
   have hxl:=hp.1;have hlx':lx=m:=by omega
   subst hlx';have hbig:lx≤9223372036854775807:=by unfold maxLen at hq2;omega
   obtain⟨bx,ox,rfl,hrx⟩:=hpx.resolve_left (by omega)
   obtain⟨c,hc1,⟨x,hx1,hc2⟩,hc3⟩:=hp.rd hrx (i:=i0) (by omega)
   have hts:=ts i0 x hx1;have hk:∀most,0≤most→most≤1000000→Rel Tryz.prog 83 [.agg c.toArray,.int .i64 most] V' (WgR V' most (wE x)):=fun most h0 h1=>c21 x most h0 h1 hc2
   (repeat'(first|refine qq ?_|refine qa ?_|refine qo ?_|refine qe ?_|refine qt ?_|refine qF ?_|refine qS ?_|refine jh ?_|refine qG ?_|refine qD ?_|refine qI ?_|refine qO ?_|((first|refine qn rfl ?_|refine Qa rfl rfl rfl ?_);(first|refine qB tb rfl rfl rfl (by omega) (by omega) ?_|refine yl tb rfl rfl hc1 (by decide) hc3 ?_|(refine jW tb rfl rfl (hk _ (by omega) (by omega)) ?_;rintro _ _ _ ⟨y,rfl,rfl,y0,y1,y2⟩)|refine qh rfl ?_|refine qd rfl ?_|refine jV rfl rfl ?_|refine JA rfl rfl ?_|refine qY rfl rfl ?_|refine ja rfl rfl ?_|refine jf rfl rfl (by omega) (by omega) ?_|refine qai rfl rfl (by omega) (by omega) ?_|refine jP tb rfl rfl rfl ?_))|refine JI rfl rfl rfl rfl ?_|refine qz rfl ?_|refine yL rfl (fun _=>?_) (fun _=>?_)|refine yB rfl rfl (fun _=>?_) (fun _=>?_)))
   all_goals first
    | (exfalso;omega)
    | (refine yS hM hw hV0 hR (jU rfl rfl) ⟨_,rfl,rfl,by omega,by omega,fun h=>by omega⟩)
    | exact jb (by repeat(first|exact .nil|refine .cons rfl ?_)) (by repeat (exact .slnil)) ⟨i0+1,_,by omega,rfl,rfl,rfl,rfl,by omega,by omega,fun h=>by omega⟩ (by omega)
 · obtain rfl:i0=m:=by omega
   (repeat'(first|refine qq ?_|refine qa ?_|refine qo ?_|refine qe ?_|refine qt ?_|refine qF ?_|refine jh ?_|refine qG ?_|refine qD ?_|refine qI ?_|refine qO ?_|((first|refine qn rfl ?_|refine Qa rfl rfl rfl ?_);(first|refine qX tb rfl hsx rfl rfl hp.1 (by decide) ?_|refine qh rfl ?_|refine qd rfl ?_|refine jV rfl rfl ?_|refine JA rfl rfl ?_|refine qY rfl rfl ?_|refine ja rfl rfl ?_))|refine JI rfl rfl rfl rfl ?_|refine qz rfl ?_|refine yL rfl (fun _=>?_) (fun _=>?_)|refine yB rfl rfl (fun _=>?_) (fun _=>?_)))
   all_goals first
    | (exfalso;omega)
    | (refine yS hM hw hV0 hR (jU rfl rfl) ⟨_,rfl,rfl,by omega,by omega,fun h=>by omega⟩)
def C22(V:qc)(es:Sts):Prop:=∀ {sx:Value} {cx:List Value} (most:Int),0≤most→most≤1000000→Sl 15 V sx cx→Sts.Is V es cx→Rel Tryz.prog 84 [sx,.int .i64 most] V (WgR V most (wSs es))
def K22(V:qc):St_→Prop
 | .mk _ _ _ _ _ _ _ tn el=>C22 V tn∧C22 V el
set_option maxHeartbeats 2000000 in
theorem qxZ{V:qc}{es:Sts}(ih:∀x∈es.list,K22 V x):C22 V es:=by
 intro sx cx most hm0 hm1 hsx has;have hp:=Sts.parts has;obtain⟨tk,t0,tm,ts⟩:=quT wS es.list;have hW:wSs es=tk es.list.length:=by rw[tm,← qm9]
 rw[hW];clear hW tm;generalize hm:es.list.length=m at *
 refine Qq Tryz.func84 rfl Tryz.ntmps84 rfl ?_;intro X w hM hw hV0 hR;dsimp only[qZ,Nat.zero_add,Nat.reduceAdd]
 (repeat'(first|refine qq ?_|refine qa ?_|refine qo ?_|refine qe ?_|refine qt ?_|((refine qn rfl ?_);(refine qd rfl ?_))))
 refine jC (fun L' V' G' μ=>∃i0:Nat,∃z:Int,i0≤m∧μ=m-i0∧V'=V∧G'=[]∧L'=[(6,.int .i64 i0),(5,.int .i64 z),(0,sx),(1,.int .i64 most)]∧0≤z∧z≤2*most+2∧(z≤most→z=(tk i0:Int))) (m0:=m) (by repeat(first|exact .nil|refine .cons rfl ?_)) (zJ _) ⟨0,_,by omega,by omega,rfl,rfl,rfl,by omega,by omega,fun h=>by omega⟩ ?_
 rintro L' V' G' μ ⟨i0,z,hi,hμ,hVe,hGe,hLe,z0,z1,z2⟩
 subst hVe hGe hLe
 by_cases hlt:i0<m
 · obtain⟨ax,lx,qx,rfl,hq1,hq2,hlx,hpx⟩:=hsx
   have hxl:=hp.1;have hlx':lx=m:=by omega
   subst hlx';have hbig:lx≤9223372036854775807:=by unfold maxLen at hq2;omega
   obtain⟨bx,ox,rfl,hrx⟩:=hpx.resolve_left (by omega)
   obtain⟨c,hc1,⟨x,hx1,hc2⟩,hc3⟩:=hp.rd hrx (i:=i0) (by omega)
   have kids:=ih x (zO hx1)
   have hts:=ts i0 x hx1;obtain⟨kd,p,nm,ix,ex,lo,hi_,tn,el⟩:=x;simp only[wS]at hts;simp only[St_.Is]at hc2;obtain⟨s1,c1,ce,s2,c2,s3,c3,rfl,g1,h1,he,g2,h2,g3,h3⟩:=hc2;have k1:=fun most h0 h1'=>c49 (V:=V') most h0 h1' g1 h1
   have k2:∀most,0≤most→most≤1000000→Rel Tryz.prog 83 [.agg ce.toArray,.int .i64 most] V' (WgR V' most (wE ex)):=fun most h0 h1=>c21 ex most h0 h1 he
   have k3:=fun most h0 h1=>kids.1 most h0 h1 g2 h2
   have k4:=fun most h0 h1=>kids.2 most h0 h1 g3 h3
   obtain⟨a0,a1,a2,a3,a4,a5,a6,rfl⟩:=he.lit;simp only[zD,zy]at hc1 hc3;have r2:=hc3 2 _ rfl
   have r3:=hc3 3 _ rfl
   have r4:∀j v,[a0,a1,a2,a3,a4,a5,a6][j]?=some v→rd V' bx (ox+i0*15+4+j) v:=fun j v hj=>by
    rw[Kp];refine hc3 (4+j) v ?_
    rw[Wh];have:j<7:=by have:=(zu.1 hj).1;simpa using this
    rcases j with _|_|_|_|_|_|_|j <;> first|exact hj|omega
   have r13:=hc3 13 _ rfl
   have r14:=hc3 14 _ rfl
   (repeat'(first|refine qq ?_|refine qa ?_|refine qo ?_|refine qe ?_|refine qt ?_|refine qF ?_|refine qS ?_|refine jh ?_|refine qG ?_|refine qD ?_|refine qI ?_|refine qO ?_|((first|refine qn rfl ?_|refine Qa rfl rfl rfl ?_);(first|refine Zh rfl rfl (by kernel_rfl) ?_|refine qhb rfl rfl ?_|refine qB tb rfl rfl rfl (by omega) (by omega) ?_|refine ym tb rfl rfl r2 ?_|refine ym tb rfl rfl r3 ?_|refine ym tb rfl rfl r13 ?_|refine ym tb rfl rfl r14 ?_|refine yl tb rfl rfl rfl (by decide) r4 ?_|(refine jW tb rfl rfl (k1 _ (by omega) (by omega)) ?_;rintro _ _ _ ⟨y,rfl,rfl,y0,y1,y2⟩)|(refine jW tb rfl rfl (k2 _ (by omega) (by omega)) ?_;rintro _ _ _ ⟨y,rfl,rfl,y0,y1,y2⟩)|(refine jW tb rfl rfl (k3 _ (by omega) (by omega)) ?_;rintro _ _ _ ⟨y,rfl,rfl,y0,y1,y2⟩)|(refine jW tb rfl rfl (k4 _ (by omega) (by omega)) ?_;rintro _ _ _ ⟨y,rfl,rfl,y0,y1,y2⟩)|refine qh rfl ?_|refine qd rfl ?_|refine jV rfl rfl ?_|refine JA rfl rfl ?_|refine qY rfl rfl ?_|refine ja rfl rfl ?_|refine jf rfl rfl (by omega) (by omega) ?_|refine qai rfl rfl (by omega) (by omega) ?_|refine qb tb rfl rfl ?_|refine jP tb rfl rfl rfl ?_))|refine JI rfl rfl rfl rfl ?_|refine qz rfl ?_|refine yL rfl (fun _=>?_) (fun _=>?_)|refine yB rfl rfl (fun _=>?_) (fun _=>?_)))
   all_goals first
    | (exfalso;omega)
    | (refine yS hM hw hV0 hR (jU rfl rfl) ⟨_,rfl,rfl,by omega,by omega,fun h=>by omega⟩)
    | exact jb (by repeat(first|exact .nil|refine .cons rfl ?_)) (by repeat (exact .slnil)) ⟨i0+1,_,by omega,rfl,rfl,rfl,rfl,by omega,by omega,fun h=>by omega⟩ (by omega)
 · obtain rfl:i0=m:=by omega
   (repeat'(first|refine qq ?_|refine qa ?_|refine qo ?_|refine qe ?_|refine qt ?_|refine qF ?_|refine jh ?_|refine qG ?_|refine qD ?_|refine qI ?_|refine qO ?_|((first|refine qn rfl ?_|refine Qa rfl rfl rfl ?_);(first|refine qX tb rfl hsx rfl rfl hp.1 (by decide) ?_|refine qh rfl ?_|refine qd rfl ?_|refine jV rfl rfl ?_|refine JA rfl rfl ?_|refine qY rfl rfl ?_|refine ja rfl rfl ?_|refine jf rfl rfl (by omega) (by omega) ?_))|refine JI rfl rfl rfl rfl ?_|refine qz rfl ?_|refine yL rfl (fun _=>?_) (fun _=>?_)|refine yB rfl rfl (fun _=>?_) (fun _=>?_)))
   all_goals first
    | (exfalso;omega)
    | (refine yS hM hw hV0 hR (jU rfl rfl) ⟨_,rfl,rfl,by omega,by omega,fun h=>by omega⟩)
mutual
theorem c22k{V:qc}:∀(x:St_),K22 V x
 | .mk _ _ _ _ _ _ _ tn el=>⟨qxZ (c22l tn),qxZ (c22l el)⟩
 termination_by structural x=>x
theorem c22l{V:qc}:∀(es:Sts),∀x∈es.list,K22 V x
 | .nil,x,hm=>by simp[Sts.list]at hm
 | .cons e r,x,hm=>by
  rcases zK.1 hm with h|h
  · rw[h];exact c22k e
  · exact c22l r x h
 termination_by structural x=>x
end
theorem c22{V:qc}(es:Sts):C22 V es:=qxZ (c22l es)
set_option maxHeartbeats 2000000 in
theorem c7{V:qc}(p:Pg){cx:List Value}(most:Int)(hm0:0≤most)(hm1:most≤1000000)(hx:Pg.Is V p cx):Rel Tryz.prog 38 [.agg cx.toArray,.int .i64 most] V (WgR V most (wP p)):=by
 obtain⟨sd,cd,si,ci,ss,cS,rfl,g1,h1,g2,h2,g3,h3⟩:=hx;have q2:=fun most h0 h1=>c22 p.ini most h0 h1 g2 h2
 have q3:=fun most h0 h1=>c22 p.step most h0 h1 g3 h3
 have hp:=QA.parts h1;obtain⟨tk,t0,tm,ts⟩:=quT wD p.ds;have hW:wP p=tk p.ds.length+wSs p.ini+wSs p.step:=by rw[tm,← qna];rfl
 rw[hW];clear hW tm;generalize hm:p.ds.length=m at *
 refine Qq Tryz.func38 rfl Tryz.ntmps38 rfl ?_;intro X w hM hw hV0 hR;dsimp only[qZ,Nat.zero_add,Nat.reduceAdd]
 (repeat'(first|refine qq ?_|refine qa ?_|refine qo ?_|refine qe ?_|refine qt ?_|(refine qn rfl ?_;first|refine qd rfl ?_|(refine qJ rfl ?_;intro b))))
 refine jC (fun L' V' G' μ=>∃i0:Nat,∃z:Int,i0≤m∧μ=m-i0∧V'=V∧G'=[(b,.cells [.int .i64 p.ticks,sd,si,ss].toArray 66 (0,0))]∧L'=[(6,.int .i64 i0),(5,.int .i64 z),(1,.int .i64 most),(2,.pointer (some ⟨b,0,none⟩))]∧0≤z∧z≤2*most+2∧(z≤most→z=(tk i0:Int))) (m0:=m) (by repeat(first|exact .nil|refine .cons rfl ?_)) (zJ _) ⟨0,_,by omega,by omega,rfl,rfl,rfl,by omega,by omega,fun h=>by omega⟩ ?_
 rintro L' V' G' μ ⟨i0,z,hi,hμ,hVe,hGe,hLe,z0,z1,z2⟩
 subst hVe hGe hLe
 by_cases hlt:i0<m
 · obtain⟨ax,lx,qx,rfl,hq1,hq2,hlx,hpx⟩:=g1
   have hxl:=hp.1;have hlx':lx=m:=by omega
   subst hlx';have hbig:lx≤9223372036854775807:=by unfold maxLen at hq2;omega
   obtain⟨bx,ox,rfl,hrx⟩:=hpx.resolve_left (by omega)
   obtain⟨c,hc1,⟨x,hx1,hc2⟩,hc3⟩:=hp.rd hrx (i:=i0) (by omega)
   have hts:=ts i0 x hx1;unfold wD at hts;obtain⟨ce,cf,rfl,he,hf⟩:=hc2;have k1:∀most,0≤most→most≤1000000→Rel Tryz.prog 83 [.agg ce.toArray,.int .i64 most] V' (WgR V' most (wE x.lo)):=fun most h0 h1=>c21 _ most h0 h1 he
   have k2:∀most,0≤most→most≤1000000→Rel Tryz.prog 83 [.agg cf.toArray,.int .i64 most] V' (WgR V' most (wE x.hi)):=fun most h0 h1=>c21 _ most h0 h1 hf
   obtain⟨a0,a1,a2,a3,a4,a5,a6,rfl⟩:=he.lit;obtain⟨d0,d1,d2,d3,d4,d5,d6,rfl⟩:=hf.lit;simp only[zD,zy]at hc1 hc3;have r2:=hc3 2 _ rfl
   have r6:∀j v,[a0,a1,a2,a3,a4,a5,a6][j]?=some v→rd V' bx (ox+i0*20+6+j) v:=fun j v hj=>by
    rw[Kp];refine hc3 (6+j) v ?_
    rw[Wh];have:j<7:=by have:=(zu.1 hj).1;simpa using this
    rcases j with _|_|_|_|_|_|_|j <;> first|exact hj|omega
   have r13:∀j v,[d0,d1,d2,d3,d4,d5,d6][j]?=some v→rd V' bx (ox+i0*20+13+j) v:=fun j v hj=>by
    rw[Kp];refine hc3 (13+j) v ?_
    rw[Wh];have:j<7:=by have:=(zu.1 hj).1;simpa using this
    rcases j with _|_|_|_|_|_|_|j <;> first|exact hj|omega
   (repeat'(first|refine qq ?_|refine qa ?_|refine qo ?_|refine qe ?_|refine qt ?_|refine qF ?_|refine qS ?_|refine jh ?_|refine qG ?_|refine qD ?_|refine qI ?_|refine qO ?_|((first|refine qn rfl ?_|refine Qa rfl rfl rfl ?_);(first|refine Zh rfl rfl (by kernel_rfl) ?_|refine qhb rfl rfl ?_|refine qB tb rfl rfl rfl (by omega) (by omega) ?_|refine ym tb rfl rfl r2 ?_|refine yl tb rfl rfl rfl (by decide) r6 ?_|refine yl tb rfl rfl rfl (by decide) r13 ?_|(refine jW tb rfl rfl (k1 _ (by omega) (by omega)) ?_;rintro _ _ _ ⟨y,rfl,rfl,y0,y1,y2⟩)|(refine jW tb rfl rfl (k2 _ (by omega) (by omega)) ?_;rintro _ _ _ ⟨y,rfl,rfl,y0,y1,y2⟩)|(refine jW tb rfl rfl (q2 _ (by omega) (by omega)) ?_;rintro _ _ _ ⟨y,rfl,rfl,y0,y1,y2⟩)|(refine jW tb rfl rfl (q3 _ (by omega) (by omega)) ?_;rintro _ _ _ ⟨y,rfl,rfl,y0,y1,y2⟩)|refine qh rfl ?_|refine qd rfl ?_|refine jV rfl rfl ?_|refine JA rfl rfl ?_|refine qY rfl rfl ?_|refine ja rfl rfl ?_|refine jf rfl rfl (by omega) (by omega) ?_|refine qai rfl rfl (by omega) (by omega) ?_|refine qb tb rfl rfl ?_|refine jP tb rfl rfl rfl ?_|(apply qp tb rfl rfl;(·exact At.own .here);(·exact rfl))))|refine JI rfl rfl rfl rfl ?_|refine qz rfl ?_|refine yL rfl (fun _=>?_) (fun _=>?_)|refine yB rfl rfl (fun _=>?_) (fun _=>?_)))
   all_goals first
    | (exfalso;omega)
    | (refine yS hM hw hV0 hR (jU rfl rfl) ⟨_,rfl,rfl,by omega,by omega,fun h=>by omega⟩)
    | exact jb (by repeat(first|exact .nil|refine .cons rfl ?_)) (by repeat(first|exact .slnil|apply List.Sublist.cons_cons)) ⟨i0+1,_,by omega,rfl,rfl,rfl,rfl,by omega,by omega,fun h=>by omega⟩ (by omega)
 · obtain rfl:i0=m:=by omega
   (repeat'(first|refine qq ?_|refine qa ?_|refine qo ?_|refine qe ?_|refine qt ?_|refine qF ?_|refine jh ?_|refine qG ?_|refine qD ?_|refine qI ?_|refine qO ?_|((first|refine qn rfl ?_|refine Qa rfl rfl rfl ?_);(first|refine qX tb rfl g1 rfl rfl hp.1 (by decide) ?_|(refine jW tb rfl rfl (q2 _ (by omega) (by omega)) ?_;rintro _ _ _ ⟨y,rfl,rfl,y0,y1,y2⟩)|(refine jW tb rfl rfl (q3 _ (by omega) (by omega)) ?_;rintro _ _ _ ⟨y,rfl,rfl,y0,y1,y2⟩)|refine qh rfl ?_|refine qd rfl ?_|refine jV rfl rfl ?_|refine JA rfl rfl ?_|refine qY rfl rfl ?_|refine ja rfl rfl ?_|refine jf rfl rfl (by omega) (by omega) ?_|refine qai rfl rfl (by omega) (by omega) ?_|refine qb tb rfl rfl ?_|(apply qp tb rfl rfl;(·exact At.own .here);(·exact rfl))))|refine JI rfl rfl rfl rfl ?_|refine qz rfl ?_|refine yL rfl (fun _=>?_) (fun _=>?_)|refine yB rfl rfl (fun _=>?_) (fun _=>?_)))
   all_goals first
    | (exfalso;omega)
    | (refine yS hM hw hV0 hR (jU rfl rfl) ⟨_,rfl,rfl,by omega,by omega,fun h=>by omega⟩)
end Fly
end
section
namespace Su
open Go Go.Proofs Fly
theorem quU{n:Nat}:0<n→∃c r,dg n=c::r∧c≠48:=by
 induction n using Nat.strongRecOn with
 | ind n ih=>
  intro hn;by_cases h:n<10
  · refine⟨UInt8.ofNat (48+n),[],ZD h,fun e=>?_⟩
    have:=qhR h
    rw[e]at this;have e48:(48:UInt8).toNat=48:=rfl
    omega
  · obtain⟨c,r,e,hc⟩:=ih (n / 10) (by omega) (by omega)
    exact⟨c,r++[UInt8.ofNat (48+n % 10)],by rw[qb1 (by omega),e];rfl,hc⟩
theorem qoy{c x:UInt8}{l:List UInt8}(h:x≠c):yG c (x::l)=x::yG c l:=by
 rw[qbm];have hb:(x == c)=false:=by simpa using h
 rw[hb];by_cases h0:yG c l=[]
 · rw[z6 h0,h0];rfl
 · rw[zQ h0]
theorem quV{k n:Nat}{q:Int}(h:IsD k n q):okF (lb (qae n q).1) (qae n q).2=true:=by
 obtain⟨h0,h1,h2,h3,_⟩:=h;have hl:=qjP h1;have ht:=qgD 48 (dg n)
 obtain⟨c,r,e,hc⟩:=quU (n:=n) (by omega)
 have hp:0<(yG 48 (dg n)).length:=by rw[e,qoy hc];simp
 unfold qae;refine qh7.2 ?_
 simp only[qgv];omega
theorem qft{f:Int}(hf:inR .u64 f=true):∃s,Q4 f=some s∧s.size≤2000001:=by
 have sg:(sgL f).length≤1:=by unfold sgL;cases decide (Int.fdiv f (2^63)=1) <;> decide
 obtain⟨x,hx,hP⟩:=qrr (f:=f) hf
 unfold Q4;by_cases h4:((yw (bK f.toNat):Nat):Int)=4
 · rw[zh h4];exact⟨_,rfl,by rw[jB];decide⟩
 by_cases h3:((yw (bK f.toNat):Nat):Int)=3
 · rw[zq h4,zh h3];exact⟨_,rfl,by rw[jB,zb];show _+3≤_;omega⟩
 by_cases h0:((yw (bK f.toNat):Nat):Int)=0
 · rw[zq h4,zq h3,zh h0];exact⟨_,rfl,by rw[jB,zb];show _+3≤_;omega⟩
 rcases hP with⟨c2,c1,rfl⟩|⟨hc,n,q,hD,rfl⟩
 · exfalso
   have:=Z3 (bK f.toNat)
   revert this c2 c1
   (repeat' split) <;> omega
 · have f1:QE (qae n q)=some (bs (qgE (lb (qae n q).1) (qae n q).2)):=by unfold QE;rw[quV hD];rfl
   have hl:=qgF f1;rw[jB]at hl;refine⟨bs (sgL f++qgE (lb (qae n q).1) (qae n q).2),?_,by rw[jB,zb];omega⟩
   rw[zq h4,zq h3,zq h0,hx];simp only[zo,zm,f1,qgv]
theorem qvT{α β:Type}{f:Nat}{d:Dec α}{r:Dec β}{g:α→Option β}(hp:OkT f (prim d r g)){V:qc}(hgk:GOK tb V){xs:List T}{vs:List Value}{a:α}{y:β}(h:d.dec xs=some a)(hg:g a=some y)(hr:RepA V xs vs){Q:Value→qc→Own→Prop}
 (hQ:∀V' rvs,RepA V' (r.enc y) rvs→Q (YJ rvs) V' []):jk Tryz.prog f vs.toArray V [] Q:=by
 have hh:(∀xs y,(d.dec xs).bind g=some y→∀V vs,GOK tb V→RepA V xs vs→jk Tryz.prog f vs.toArray V [] fun v V' _=>∃rvs,RepA V' (r.enc y) rvs∧v=YJ rvs)∧_:=hp.2
 have hF:=hh.1 xs y (by rw[h];exact hg) V vs hgk hr
 intro w a1 a2 a3 a4;refine(hF w a1 a2 a3 a4).mono ?_
 rintro e w' ⟨v,V',G',rfl,hk,rvs,m1,rfl⟩
 exact⟨_,V',[],rfl,hk.sublist (Vy _),hQ V' rvs m1⟩
theorem quW{V:qc}(hgk:GOK tb V){f:Int}(hf:inR .u64 f=true){s:ByteArray}(h:Q4 f=some s):jk Tryz.prog 12 [.int .u64 f].toArray V [] fun v _ G=>v = .string s∧G=[]:=by
 refine qvT qj1 hgk (xs:=[.s (.int .u64 f)]) (vs:=[_]) (a:=f) ?_ h (.cons (.s hf) .nil) ?_
 · rfl
 · intro V' rvs m
   cases m with|cons m1 m=>cases m with|nil=>cases m1 with|s _=>exact⟨rfl,rfl⟩
theorem dgl{n j:Nat}(h:n<10^(j+1)):(dg n).length≤j+1:=by
 induction j generalizing n with
 | zero=>rw[ZD (by omega)];simp
 | succ j ih=>
  by_cases h1:n<10
  · rw[ZD h1];simp
  · rw[qb1 (by omega),zb]
    have:=ih (n:=n / 10) (by rw[Ke]at h;omega)
    simp only[VU];omega
theorem itL{n:Int}(h:inR .i64 n=true):(itT n).length≤30:=by
 obtain⟨h0,h1⟩:=QX.1 h;unfold itT;by_cases hn:n<0
 · rw[zh hn,zg,zf]
   have:=dgl (n:=n.natAbs) (j:=18) (by omega)
   omega
 · rw[zq hn,zo]
   have:=dgl (n:=n.toNat) (j:=18) (by omega)
   omega
end Su
namespace Fly
open Go Go.Proofs Su
noncomputable def JH:qV:=⟨fun z=>bif inR .i64 z then itT z else[],fun f=>bif inR .u64 f then lb ((Q4 f).getD (bs []))else[]⟩
theorem Y8:LeafLen JH where
 i z:=by
  show(bif inR .i64 z then itT z else[]).length≤30
  cases h:inR .i64 z with
  | true=>exact itL h
  | false=>exact Wv _
 f f:=by
  show(bif inR .u64 f then lb ((Q4 f).getD (bs []))else[]).length≤2000010
  cases h:inR .u64 f with
  | true=>
   obtain⟨s,hs,hl⟩:=qft h;have:(lb s).length=s.size:=by rw[← jB,qdd]
   rw[hs,zg,Option.getD_some];omega
  | false=>exact Wv _
theorem qsw{z:Int}(h:inR .i64 z=true):qie JH z:=fun V hs=>by
 obtain⟨h0,h1⟩:=QX.1 h;have e:JH.itoa z=itT z:=by show(bif inR .i64 z then itT z else[])=_;rw[h];rfl
 rw[e];exact qid hs.1 (by omega) (by omega)
theorem flok{f:Int}(h:inR .u64 f=true):∀V,yt V→jk Tryz.prog 12 [.int .u64 f].toArray V [] fun v _ G=>v = .string ⟨(JH.flt f).toArray⟩∧G=[]:=fun V hs=>by
 obtain⟨s,e,_⟩:=qft h;have e2:(⟨(JH.flt f).toArray⟩:ByteArray)=s:=by
  show bs (bif inR .u64 f then lb ((Q4 f).getD (bs []))else[])=s
  rw[h,e,zg,Option.getD_some,qdd]
 rw[e2];exact quW hs.1 h e
mutual
theorem qj5:∀ {x:Ex},qe0 x→Qt JH x
 | .mk op p bo i f nm al,⟨⟨h1,h2⟩,h3⟩=>⟨⟨fun _=>⟨qsw (qgy h1),r32 h1⟩,fun _=>flok h2⟩,leafEs h3⟩
theorem leafEs:∀ {x:Exs},RngEs x→LeafAlls JH x
 | .nil,_=>trivial
 | .cons e r,⟨h1,h2⟩=>⟨qj5 h1,leafEs h2⟩
end
mutual
theorem qzh:∀ {x:St_},qjr x→qj3 JH x
 | .mk kd p nm ix ex lo hi tn el,⟨h1,h2,h3,h4,h5,h6⟩=>⟨leafEs h1,qj5 h2,fun _=>⟨⟨qsw (qgy h3),r32 h3⟩,⟨qsw (qgy h4),r32 h4⟩⟩,leafSs h5,leafSs h6⟩
theorem leafSs:∀ {x:Sts},RngSs x→LeafSs JH x
 | .nil,_=>trivial
 | .cons e r,⟨h1,h2⟩=>⟨qzh h1,leafSs h2⟩
end
theorem qsx{d:Dc}:∀ {ds:List Dc},d∈ds→wD d≤wDs ds
 | x::r,h=>by
  rcases zK.1 h with h|h
  · subst h;simp only[wDs];omega
  · have:=qsx h;simp only[wDs];omega
theorem prt{V:qc}(hsg:yt V){p:Pg}{cp:List Value}(hp:Pg.Is V p cp)(gp:qnY p)(hw:wP p≤1500):ji Tryz.prog 42 [.agg cp.toArray] V (.string ⟨(Yd JH p).toArray⟩):=by
 obtain⟨g1,g2,g3,g4⟩:=gp;have hl:=qgt Y8 p (by omega)
 have hw':=hw;unfold wP at hw';refine c12 (fun d hd=>?_) (leafSs g3) (leafSs g4) (by omega) (by omega) (qsw g1) hsg hp (by omega)
 obtain⟨k1,k2,k3⟩:=g2 d hd;have hm:=qsx hd;unfold wD at hm;have e1:=Ye Y8 d.lo;have e2:=Ye Y8 d.hi;exact⟨⟨qj5 k2,qj5 k3,qsw k1⟩,by omega,by omega⟩
end Fly
end
