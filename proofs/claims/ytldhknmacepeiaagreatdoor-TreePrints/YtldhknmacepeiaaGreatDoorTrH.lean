/-
  A logic of walks. No condition.
-/
import Derived.Test.YtldhknmacepeiaaGreatDoorHP4
set_option linter.unusedVariables false
set_option linter.unusedSimpArgs false
section
namespace Fly
open Go Go.Proofs
set_option maxRecDepth 10000
attribute [local irreducible] WC WE WR Opr St Go.Calls Qy Qf yR Owe One Qg
attribute [local irreducible] Wn Yp
def ptr(b:Nat):Value:=.pointer (some ⟨b,0,none⟩)
abbrev G3(b1 b2 b3 p q:Nat):Own:=[(b3,.cells [.func (.func 134) #[] #[.pointer (some ⟨b1,0,none⟩),.pointer (some ⟨b2,0,none⟩),.pointer (some ⟨b3,0,none⟩)]].toArray 138 (0,0)),(b2,.cells [.int .i64 (Wn q)].toArray 3 (0,0)),(b1,.cells [.int .i64 (Wn p)].toArray 3 (0,0))]
def C39(es:Sts):Prop:=∀ {V:qc} {sx:Value} {cx:List Value} (b1 b2 b3 p q:Nat),Sl 15 V sx cx→Sts.Is V es cx →
 jk Tryz.prog 134 [sx,.pointer (some ⟨b1,0,none⟩),.pointer (some ⟨b2,0,none⟩),.pointer (some ⟨b3,0,none⟩)].toArray V (G3 b1 b2 b3 p q) fun _ _ G'=>G'=G3 b1 b2 b3 (p+cntSs es) (q+exSs es)
def K39:St_→Prop
 | .mk _ _ _ _ _ _ _ tn el=>C39 tn∧C39 el
set_option maxHeartbeats 2000000 in
theorem qwW{es:Sts}(ih:∀x∈es.list,K39 x):C39 es:=by
 intro V sx cx b1 b2 b3 p q hsx has;refine qH Tryz.func134 rfl Tryz.ntmps134 rfl ?_
 intro X w hM hMl hw hV0 hR;dsimp only[qZ,Nat.zero_add,Nat.reduceAdd];have hp:=Sts.parts has;generalize hm:es.list.length=m at *
 (repeat'(first|refine qq ?_|refine qa ?_|refine qo ?_|refine qe ?_|refine qt ?_|(refine qn rfl ?_;first|refine qX tb rfl hsx rfl rfl hp.1 (by decide) ?_|refine qh rfl ?_)))
 refine jC (fun L' V' G' μ=>∃i0:Nat,i0≤m∧μ=m-i0∧Sub V V'∧G'=G3 b1 b2 b3 (p+Yp qfG es.list i0) (q+Yp exS es.list i0)∧L'=[(9,.int .i64 i0),(7,sx),(8,.int .i64 m),(1,.pointer (some ⟨b1,0,none⟩)),(2,.pointer (some ⟨b2,0,none⟩)),(3,.pointer (some ⟨b3,0,none⟩))]) (G0:=G3 b1 b2 b3 p q) (m0:=m) (by repeat(first|exact .nil|refine .cons rfl ?_)) (zJ _) ⟨0,by omega,by omega,Sub.refl _,by rw[qap,qap];rfl,rfl⟩ ?_
 rintro L' V' G' μ ⟨i0,hi,hμ,hVs,hGe,hLe⟩
 subst hGe hLe
 by_cases hlt:i0<m
 · replace hsx:=hsx.mono hVs
   replace hp:=Sts.parts (Sts.Is.mono hVs es has)
   rw[hm]at hp;obtain⟨ax,lx,qx,rfl,hq1,hq2,hlx,hpx⟩:=hsx;have hxl:=hp.1;have hlx':lx=m:=by omega
   subst hlx';have hbig:lx≤9223372036854775807:=by unfold maxLen at hq2;omega
   obtain⟨bx,ox,rfl,hrx⟩:=hpx.resolve_left (by omega)
   obtain⟨c,hc1,⟨x,hx1,hc2⟩,hc3⟩:=hp.rd hrx (i:=i0) (by omega)
   have kids:=ih x (zO hx1)
   obtain⟨kd,pt,nm,ix,ex,lo,hi_,tn,el⟩:=x;simp only[St_.Is]at hc2;obtain⟨s1,c1,ce,s2,c2,s3,c3,rfl,g1,h1,he,g2,h2,g3,h3⟩:=hc2;obtain⟨eop,ep,eb,ei,ef,en,ea⟩:=ex;simp only[Ex.Is]at he;obtain⟨s4,c4,rfl,g4,h4⟩:=he;have k1:=c40 ix g1 h1;have k2:=c40 ea g4 h4;obtain⟨_,_,_,rfl⟩:=g1.lit;obtain⟨_,_,_,rfl⟩:=g2.lit;obtain⟨_,_,_,rfl⟩:=g3.lit;obtain⟨_,_,_,rfl⟩:=g4.lit;simp only[zD,zy]at hc1 hc3
   (repeat'(first|refine qq ?_|refine qa ?_|refine qo ?_|refine qe ?_|refine qt ?_|refine qF ?_|refine jh ?_|refine qG ?_|refine qD ?_|refine qI ?_|((first|refine qn rfl ?_|refine jE ?_);(first|refine qpc rfl rfl ?_|refine qB tb rfl rfl rfl (by omega) (by omega) ?_|refine yl tb rfl rfl hc1 (by decide) hc3 ?_|refine jV rfl rfl ?_|(apply qp tb rfl rfl;(·(refine At.own (?_);repeat(first|exact .here|refine .there ?_)));(·exact rfl))|(apply yk tb rfl rfl rfl rfl rfl;(·(repeat(first|exact Upd.here|apply Upd.there)));(·exact rfl))|(apply yX tb rfl rfl rfl rfl rfl;(·exact .here);(·exact rfl))|(refine yA tb rfl ?_;intro b)))|refine yL rfl (fun _=>?_) (fun _=>?_)))
   rotate_left
   · exfalso;omega
   (refine jo 4 mo rfl (by kernel_rfl) rfl ?_;(repeat (apply Prog.step (Q9 _) (jg _) rfl rfl;· (intro V1 F1 hs1;(repeat(first|refine jt ?_|refine js ?_));refine qW ?_;(first|refine qA tb rfl rfl (k1.mono (by assumption)) ?_|refine qb tb rfl rfl ?_|(apply qp tb rfl rfl;(·(refine At.own (Has.app ?_);repeat(first|exact .here|refine .there ?_)));(·exact rfl)));exact Qc)));refine Prog.done ?_;intro V1 hs1;repeat(first|refine jp ?_|refine jr ?_))
   replace g2:=g2.mono hs1
   replace g3:=g3.mono hs1
   replace h2:=Sts.Is.mono hs1 _ h2
   replace h3:=Sts.Is.mono hs1 _ h3
   replace k2:=k2.mono hs1
   replace hVs:=hVs.trans hs1
   clear hs1;have e1:p+Yp qfG es.list i0+1+cntSs tn+cntSs el=p+Yp qfG es.list (i0+1):=by
    rw[Jc hx1];simp only[qfG];omega
   (repeat'(first|refine qq ?_|refine qa ?_|refine qo ?_|refine qe ?_|refine qF ?_|((first|refine qn rfl ?_|refine jE ?_|refine Qa rfl rfl rfl ?_);(first|refine qbB rfl rfl ?_|refine qh rfl ?_|refine jI rfl rfl ?_|refine qY rfl rfl ?_|refine ja rfl rfl ?_|refine qb tb rfl rfl ?_|(apply qp tb rfl rfl;(·(refine At.own (?_);repeat(first|exact .here|refine .there ?_)));(·exact rfl))|(apply yk tb rfl rfl rfl rfl rfl;(·(repeat(first|exact Upd.here|apply Upd.there)));(·exact rfl))))|refine JI rfl rfl rfl rfl ?_|refine qE rfl ?_|refine yL rfl (fun _=>?_) (fun _=>?_)|refine yB rfl rfl (fun _=>?_) (fun _=>?_)))
   · (refine jo 6 mo rfl (by kernel_rfl) rfl ?_;(repeat (apply Prog.step (Q9 _) (jg _) rfl rfl;· (intro V1 F1 hs1;(repeat(first|refine jt ?_|refine js ?_));refine qW ?_;(first|refine qiI rfl rfl ?_|refine qA tb rfl rfl (k2.mono (by assumption)) ?_|refine qb tb rfl rfl ?_|(apply qp tb rfl rfl;(·(refine At.own (Has.app ?_);repeat(first|exact .here|refine .there ?_)));(·exact rfl)));exact Qc)));refine Prog.done ?_;intro V1 hs1;repeat(first|refine jp ?_|refine jr ?_))
     replace g2:=g2.mono hs1
     replace g3:=g3.mono hs1
     replace h2:=Sts.Is.mono hs1 _ h2
     replace h3:=Sts.Is.mono hs1 _ h3
     replace hVs:=hVs.trans hs1
     clear hs1
     (repeat'(first|refine qq ?_|refine qa ?_|refine qo ?_|refine qe ?_|refine qS ?_|((first|refine qn rfl ?_|refine jE ?_);(first|refine qbB rfl rfl ?_|(refine qr tb rfl rfl rfl (kids.1 b1 b2 b3 _ _ g2 h2) (zF (l₁:=[_])) ?_;rintro _ V2 _ hs2 rfl;dsimp only[List.cons_append,List.nil_append])|(refine qr tb rfl rfl rfl (kids.2 b1 b2 b3 _ _ (g3.mono hs2) (Sts.Is.mono hs2 el h3)) (zr _) ?_;rintro _ V3 _ hs3 rfl)|refine qh rfl ?_|refine jf rfl rfl (by omega) (by omega) ?_|refine qb tb rfl rfl ?_|(apply qp tb rfl rfl;(·(refine At.own (?_);repeat(first|exact .here|refine .there ?_)));(·exact rfl))|(apply yk tb rfl rfl rfl rfl rfl;(·(repeat(first|exact Upd.here|apply Upd.there)));(·exact rfl))))))
     have e2:q+Yp exS es.list i0+numEs ix+(1+numEs ea)+exSs tn+exSs el=q+Yp exS es.list (i0+1):=by
      rw[Jc hx1];simp only[exS,qdm];rw[z6 (by omega)];omega
     rw[e1,e2];exact jb (by repeat(first|exact .nil|refine .cons rfl ?_)) (zH _ _) ⟨i0+1,by omega,rfl,hVs.trans (hs2.trans hs3),rfl,rfl⟩ (by omega)
   · (refine jo 6 mo rfl (by kernel_rfl) rfl ?_;(repeat (apply Prog.step (Q9 _) (jg _) rfl rfl;· (intro V1 F1 hs1;(repeat(first|refine jt ?_|refine js ?_));refine qW ?_;(first|refine qiI rfl rfl ?_|refine qA tb rfl rfl (k2.mono (by assumption)) ?_|refine qb tb rfl rfl ?_|(apply qp tb rfl rfl;(·(refine At.own (Has.app ?_);repeat(first|exact .here|refine .there ?_)));(·exact rfl)));exact Qc)));refine Prog.done ?_;intro V1 hs1;repeat(first|refine jp ?_|refine jr ?_))
     replace g2:=g2.mono hs1
     replace g3:=g3.mono hs1
     replace h2:=Sts.Is.mono hs1 _ h2
     replace h3:=Sts.Is.mono hs1 _ h3
     replace hVs:=hVs.trans hs1
     clear hs1
     (repeat'(first|refine qq ?_|refine qa ?_|refine qo ?_|refine qe ?_|refine qS ?_|((first|refine qn rfl ?_|refine jE ?_);(first|refine qbB rfl rfl ?_|(refine qr tb rfl rfl rfl (kids.1 b1 b2 b3 _ _ g2 h2) (zF (l₁:=[_])) ?_;rintro _ V2 _ hs2 rfl;dsimp only[List.cons_append,List.nil_append])|(refine qr tb rfl rfl rfl (kids.2 b1 b2 b3 _ _ (g3.mono hs2) (Sts.Is.mono hs2 el h3)) (zr _) ?_;rintro _ V3 _ hs3 rfl)|refine qh rfl ?_|refine jf rfl rfl (by omega) (by omega) ?_|refine qb tb rfl rfl ?_|(apply qp tb rfl rfl;(·(refine At.own (?_);repeat(first|exact .here|refine .there ?_)));(·exact rfl))|(apply yk tb rfl rfl rfl rfl rfl;(·(repeat(first|exact Upd.here|apply Upd.there)));(·exact rfl))))))
     have e2:q+Yp exS es.list i0+numEs ix+(1+numEs ea)+exSs tn+exSs el=q+Yp exS es.list (i0+1):=by
      rw[Jc hx1];simp only[exS,qdm];rw[z6 (by omega)];omega
     rw[e1,e2];exact jb (by repeat(first|exact .nil|refine .cons rfl ?_)) (zH _ _) ⟨i0+1,by omega,rfl,hVs.trans (hs2.trans hs3),rfl,rfl⟩ (by omega)
   · (repeat'(first|refine qa ?_|refine qo ?_|refine qe ?_|refine qS ?_|(refine qn rfl ?_;first|(refine qr tb rfl rfl rfl (kids.1 b1 b2 b3 _ _ g2 h2) (zF (l₁:=[_])) ?_;rintro _ V2 _ hs2 rfl;dsimp only[List.cons_append,List.nil_append])|(refine qr tb rfl rfl rfl (kids.2 b1 b2 b3 _ _ (g3.mono hs2) (Sts.Is.mono hs2 el h3)) (zr _) ?_;rintro _ V3 _ hs3 rfl)|refine qh rfl ?_|refine jf rfl rfl (by omega) (by omega) ?_|refine qb tb rfl rfl ?_|(apply qp tb rfl rfl;(·(refine At.own (?_);repeat(first|exact .here|refine .there ?_)));(·exact rfl)))))
     have e2:q+Yp exS es.list i0+numEs ix+exSs tn+exSs el=q+Yp exS es.list (i0+1):=by
      rw[Jc hx1];simp only[exS,qdm];rw[zQ (by omega)];omega
     rw[e1,e2];exact jb (by repeat(first|exact .nil|refine .cons rfl ?_)) (zH _ _) ⟨i0+1,by omega,rfl,hVs.trans (hs2.trans hs3),rfl,rfl⟩ (by omega)
 · (repeat'(first|refine qq ?_|refine qa ?_|refine qo ?_|refine qe ?_|refine qt ?_|refine qF ?_|refine jh ?_|refine qG ?_|refine qD ?_|refine qI ?_|((refine qn rfl ?_);(refine jV rfl rfl ?_))|refine yL rfl (fun _=>?_) (fun _=>?_)))
   all_goals first
    | (exfalso;omega)
    | (refine je hM hw hV0 hR (G3 b1 b2 b3 (p+Yp qfG es.list i0) (q+Yp exS es.list i0)) (zJ _) (QB rfl) ?_;rw[qeu _ _ (by omega),qeu _ _ (by omega),qf0,qiH])
mutual
theorem c39k:∀(x:St_),K39 x
 | .mk _ _ _ _ _ _ _ tn el=>⟨qwW (c39l tn),qwW (c39l el)⟩
 termination_by structural x=>x
theorem c39l:∀(es:Sts),∀x∈es.list,K39 x
 | .nil,x,hm=>by simp[Sts.list]at hm
 | .cons e r,x,hm=>by
  rcases zK.1 hm with h|h
  · rw[h];exact c39k e
  · exact c39l r x h
 termination_by structural x=>x
end
theorem c39(es:Sts):C39 es:=qwW (c39l es)
end Fly
end
section
namespace Fly
open Go Go.Proofs
set_option maxRecDepth 10000
attribute [local irreducible] WC WE WR Opr St Go.Calls Qy Qf yR Owe One Qg
attribute [local irreducible] Wn Yp
theorem c14{V:qc}(p:Pg){cx:List Value}(hx:Pg.Is V p cx):ji Tryz.prog 81 [.agg cx.toArray] V (.tuple #[.int .i64 (Wn (cntSs p.ini+cntSs p.step)),.int .i64 (Wn (exSs p.ini+exSs p.step))]):=by
 obtain⟨sd,cd,si,ci,ss,cS,rfl,g1,h1,g2,h2,g3,h3⟩:=hx;refine qT Tryz.func81 rfl Tryz.ntmps81 rfl ?_;intro X w hM hw hV0 hR;dsimp only[qZ,Nat.zero_add,Nat.reduceAdd]
 (repeat'(first|refine qq ?_|refine qa ?_|refine qo ?_|refine qe ?_|((first|refine qn rfl ?_|refine jE ?_);(first|refine qc1 rfl rfl ?_|refine qd rfl ?_|refine qb tb rfl rfl ?_|(apply qp tb rfl rfl;(·(refine At.own (?_);repeat(first|exact .here|refine .there ?_)));(·exact rfl))|(apply yk tb rfl rfl rfl rfl rfl;(·(repeat(first|exact Upd.here|apply Upd.there)));(·exact rfl))|(refine qJ rfl ?_;intro b)|(refine yA tb rfl ?_;intro b)))))
 rename_i b1 b4 b5;have hF:=c39 p.ini b4 b5 b 0 0 g2 h2
 unfold G3 at hF;rw[qlP]at hF
 (repeat'(first|refine qq ?_|refine qa ?_|refine qo ?_|refine qe ?_|(refine qn rfl ?_;first|(refine qr tb rfl rfl rfl hF (zr _) ?_;rintro _ V2 _ hs2 rfl;dsimp only[List.cons_append,List.nil_append])|(refine qr tb rfl rfl rfl (c39 p.step b4 b5 b _ _ (g3.mono hs2) (Sts.Is.mono hs2 _ h3)) (zr _) ?_;rintro _ V3 _ hs3 rfl;dsimp only[G3,List.cons_append,List.nil_append])|refine qb tb rfl rfl ?_|(apply qp tb rfl rfl;(·(refine At.own (?_);repeat(first|exact .here|refine .there ?_)));(·exact rfl)))))
 (refine jo 3 mo rfl (by kernel_rfl) rfl ?_;(repeat (apply Prog.step (Q9 _) (jg _) rfl rfl;· (intro V1 F1 hs1;(repeat(first|refine jt ?_|refine js ?_));refine qW ?_;(first|refine qd rfl ?_|(apply qp tb rfl rfl;(·(refine At.own (Has.app ?_);repeat(first|exact .here|refine .there ?_)));(·exact rfl)));exact Qc)));refine Prog.done ?_;intro V1 hs1;repeat(first|refine jp ?_|refine jr ?_))
 (repeat'(first|refine qo ?_|refine qe ?_|refine qO ?_|((refine qn rfl ?_);(refine qd rfl ?_))))
 (refine qR hM hw hV0 hR (qsM rfl rfl rfl) ?_)
 simp only[zt]
end Fly
end
section
namespace Fly
open Go Go.Proofs
set_option maxRecDepth 10000
attribute [local irreducible] WC WE WR Opr St Go.Calls Qy Qf ji Rel jk Qe yR Owe One Qg Go.CallsD
def Z5(c:UInt8)(es:Exs):Ex:=.mk 4 0 false 0 0 ⟨#[c]⟩ es
def QZ:Ex:=.mk 7 0 false 0 0 .empty (.cons (.mk 17 0 false 0 0 .empty (.cons (.mk 5 0 false 0 0 .empty (.cons (Z5 97 .nil) (.cons (.mk 2 0 false 1 0 .empty .nil) .nil))) .nil)) (.cons (Z5 98 (.cons (Z5 105 .nil) .nil)) .nil))
theorem c20{V:qc}:Rel Tryz.prog 80 [] V fun v V'=>Sub V V'∧∃cs:List Value,v = .agg cs.toArray∧Ex.Is V' QZ cs:=by
 refine Qq Tryz.func80 rfl Tryz.ntmps80 rfl ?_;intro X w hM hw hV0 hR;dsimp only[qZ,Nat.zero_add,Nat.reduceAdd]
 (repeat'(first|refine qq ?_|refine qa ?_|refine qo ?_|refine qe ?_|refine qO ?_|((first|refine qn rfl ?_|refine jE ?_);(first|(apply JW tb hM;(·exact rfl);(·exact rfl);(·exact rfl);(·decide);(·(repeat(first|exact .nil|(apply Cat.cons;(·exact rfl);(·exact rfl);(·exact rfl))|exact .nil|apply App.cons)));intro b1 hb1)|(apply qK tb rfl rfl;(·(refine At.own (?_);repeat(first|exact .here|refine .there ?_)));(·exact rfl))|(apply yX tb rfl rfl rfl rfl rfl;(·(repeat(first|exact Upd.here|apply Upd.there)));(·exact rfl))|(apply Jo tb (by kernel_rfl) rfl (rfl:tb.fo _ 0=_);(·(repeat(first|exact Fill.nil|(apply Fill.cons;(·exact rfl);(·exact rfl);(·exact rfl);(·exact rfl);(·exact rfl))))))|(refine yA tb rfl ?_;intro b)))))
 rename_i r0 n1 hn1 r1 n2 hn2 n3 hn3;have s1:=fun o=>Sub.addV (o:=o) hn1
 have s2:=fun o=>Sub.addV (o:=o) hn2
 have s3:=fun o=>Sub.addV (o:=o) hn3
 have s4:=fun o=>Sub.addV (o:=o) hb1
 refine yS hM hw hV0 hR (jU rfl ⟨_,rfl,fun w hw=>rdN tb rfl (by refine At.own ?_;repeat(first|exact .here|refine .there ?_)) rfl hw⟩) ⟨(((s1 _).trans (s2 _)).trans (s3 _)).trans (s4 _),_,rfl,?_⟩
 simp only[QZ,Z5,Ex.Is,Exs.Is];refine⟨_,_,rfl,Sl.made hb1 rfl (by decide),_,_,(Kw 7 _).symm,⟨_,_,rfl,(Sl.made hn3 rfl (by decide)).mono (s4 _),_,_,(z7 _).symm,⟨_,_,rfl,(Sl.made hn1 rfl (by decide)).mono (((s2 _).trans (s3 _)).trans (s4 _)),_,_,(Kw 7 _).symm,⟨_,_,rfl,Sl.nil _ _,rfl⟩,_,_,(z7 _).symm,⟨_,_,rfl,Sl.nil _ _,rfl⟩,rfl⟩,rfl⟩,_,_,(z7 _).symm,⟨_,_,rfl,(Sl.made hn2 rfl (by decide)).mono ((s3 _).trans (s4 _)),_,_,(z7 _).symm,⟨_,_,rfl,Sl.nil _ _,rfl⟩,rfl⟩,rfl⟩
end Fly
end
section
namespace Fly
open Go Go.Proofs
set_option maxRecDepth 10000
attribute [local irreducible] WC WE WR Opr St Go.Calls Qy Qf yR Owe One Qg
theorem e122(v:Value)(w:World):(callFunc 204 #[v]).run Tryz.prog w = .ok (.value v) w:=by
 rw[run_callFunc_extern Tryz.func204 (by kernel_rfl) (by kernel_rfl) (by kernel_rfl) (e:=Extern.AbiNoEscape.same) (by kernel_rfl),Lib.run_noEscape];rfl
theorem c98{V:qc}{b:Nat}{p:Option Addr}{v x:Value}(hp:p=none∨p=some ⟨b,0,none⟩)(hv:v.oneCell'=true)(hx:x.oneCell'=true) :
 jk Tryz.prog 183 [.pointer (some ⟨b,0,none⟩)].toArray V [(b,.cells [.pointer p,v,x].toArray 133 (0,0))] fun _ _ G'=>G'=[(b,.cells [.pointer (some ⟨b,0,none⟩),v,x].toArray 133 (0,0))]:=by
 rcases hp with rfl|rfl
 · refine qH Tryz.func183 rfl Tryz.ntmps183 rfl ?_;intro X w hM hMl hw hV0 hR;dsimp only[qZ,Nat.zero_add,Nat.reduceAdd]
   (repeat'(first|refine qq ?_|refine qa ?_|refine qo ?_|refine qe ?_|((first|refine qn rfl ?_|refine jE ?_);(first|refine jz rfl ?_|refine qiJ rfl (te:=131) (by kernel_rfl) ?_|refine qno rfl (fun w=>e122 _ w) ?_|(apply qhu (src:=128) (dst:=243) (t:=131) (m:=3) rfl (by kernel_rfl) (by kernel_rfl) (by kernel_rfl);(·(refine At.own ?_;repeat (exact .here)));(·exact rfl);(·decide))|(apply qev (src:=243) (dst:=128) (u:=131) (m:=3) rfl (by kernel_rfl) (by kernel_rfl) (by kernel_rfl);(·(refine At.own ?_;repeat (exact .here)));(·exact rfl);(·kernel_rfl))|refine qh rfl ?_|refine qb tb rfl rfl ?_|(apply qp tb rfl rfl;(·exact At.own .here);(·exact rfl))|(apply yk tb rfl rfl rfl rfl rfl;(·exact .here);(·exact rfl))))|refine qE rfl ?_))
   exact je hM hw hV0 hR _ (zJ _) (QB rfl) rfl
 · refine qH Tryz.func183 rfl Tryz.ntmps183 rfl ?_;intro X w hM hMl hw hV0 hR;dsimp only[qZ,Nat.zero_add,Nat.reduceAdd]
   (repeat'(first|refine qq ?_|refine qa ?_|refine qo ?_|refine qe ?_|refine qF ?_|(refine qn rfl ?_;first|refine jz rfl ?_|refine qiJ rfl (te:=131) (by kernel_rfl) ?_|refine qiL rfl rfl (te:=131) (by kernel_rfl) (by kernel_rfl) ?_|refine qh rfl ?_|refine qb tb rfl rfl ?_|(apply qp tb rfl rfl;(·exact At.own .here);(·exact rfl)))|refine qz rfl ?_))
   exact je hM hw hV0 hR _ (zJ _) (QB rfl) rfl
inductive Wr (b:Nat) (d:Int):List UInt8→Own→Prop
 | new (p:Option Addr) (hp:p=none∨p=some ⟨b,0,none⟩):Wr b d [] [(b,.cells [.pointer p,.slice none 0 0,.int .i64 d].toArray 133 (0,0))]
 | full {s:List UInt8} {g cap:Nat} {cur:Array Value} (p:Option Addr) (hp:p=none∨p=some ⟨b,0,none⟩) (hs:s≠[]) (hm:s.length≤cap) (hc:cap≤maxLen) (hz:cur.size=cap) (ht:cur.toList.take s.length=YH s) :
  Wr b d s [(b,.cells [.pointer p,.slice (some ⟨g,0,none⟩) s.length cap,.int .i64 d].toArray 133 (0,0)),(g,.cells cur 5 (0,0))]
theorem qju(t:ByteArray):byteCells t=YH t.data.toList:=rfl
theorem qk4(s t:List UInt8):YH (s++t)=YH s++YH t:=by simp[YH]
theorem Qn(t:ByteArray):t.data.toList.length=t.size:=by rw[Ks];rfl
theorem Wr.app{b:Nat}{d:Int}{s:List UInt8}{t:ByteArray}{g cap:Nat}{cur:Array Value}(hne:s.length+t.size≠0)(hm:s.length+t.size≤cap)(hc:cap≤maxLen)(hz:cur.size=cap)(ht:cur.toList.take (s.length+t.size)=YH s++byteCells t) :
 Wr b d (s++t.data.toList) [(b,.cells [.pointer (some ⟨b,0,none⟩),.slice (some ⟨g,0,none⟩) (s.length+t.size) cap,.int .i64 d].toArray 133 (0,0)),(g,.cells cur 5 (0,0))]:=by
 have hl:(s++t.data.toList).length=s.length+t.size:=by rw[zb,Qn]
 rw[← hl];refine .full _ (.inr rfl) (fun h=>hne (by rw[← hl,h];rfl)) (by rw[hl];exact hm) hc hz ?_
 rw[hl,ht,qju,qk4]
theorem c68{V:qc}{b:Nat}{d:Int}{s:List UInt8}{t:ByteArray}{G0:Own}(hW:Wr b d s G0)(hl:s.length+t.size≤549755813888) :
 jk Tryz.prog 144 [.pointer (some ⟨b,0,none⟩),.string t].toArray V G0 fun _ _ G'=>Wr b d (s++t.data.toList) G':=by
 cases hW with
 | new p hp=>
  refine qH Tryz.func144 rfl Tryz.ntmps144 rfl ?_;intro X w hM hMl hw hV0 hR;dsimp only[qZ,Nat.zero_add,Nat.reduceAdd]
  (repeat'(first|refine qq ?_|refine qa ?_|refine qo ?_|refine qe ?_|((first|refine qn rfl ?_|refine jE ?_);(first|refine jz rfl ?_|(refine qr tb rfl rfl rfl (c98 hp rfl rfl) (zr _) ?_;rintro _ V1 _ hs1 rfl;dsimp only[List.cons_append,List.nil_append])|(refine qbC tb rfl rfl rfl (by kernel_rfl) (KM (by kernel_rfl)) rfl rfl .nil (zr _) (by simpa using hl) ?_;intro v' Gr' hR' hn')|refine qh rfl ?_|refine qd rfl ?_|refine qb tb rfl rfl ?_|(apply qp tb rfl rfl;(·exact At.own .here);(·exact rfl))))))
  rcases hR'.parts with⟨rfl,rfl,h0,h1⟩|⟨g',cap',cur',rfl,rfl,k1,k2,k3,k4⟩
  · dsimp only[List.cons_append,List.nil_append]
    (repeat'(first|refine qq ?_|refine qa ?_|refine qo ?_|refine qe ?_|refine qO ?_|((first|refine qn rfl ?_|refine jE ?_);(first|refine Zh rfl rfl (by kernel_rfl) ?_|refine qh rfl ?_|refine qd rfl ?_|(apply yk tb rfl rfl rfl rfl rfl;(·exact .here);(·exact rfl))))))
    refine QQ hM hw hV0 hR _ (zJ _) (qsM rfl rfl rfl) ?_
    have:t.data.toList=[]:=Va (by rw[Qn];omega)
    rw[this];exact .new _ (.inr rfl)
  · have hne:t.size≠0:=fun h=>by have:=(hn' h).1;cases this
    dsimp only[List.cons_append,List.nil_append]
    (repeat'(first|refine qq ?_|refine qa ?_|refine qo ?_|refine qe ?_|refine qO ?_|((first|refine qn rfl ?_|refine jE ?_);(first|refine Zh rfl rfl (by kernel_rfl) ?_|refine qh rfl ?_|refine qd rfl ?_|(apply yk tb rfl rfl rfl rfl rfl;(·(repeat(first|exact Upd.here|apply Upd.there)));(·exact rfl))))))
    refine qlA (List.Perm.swap _ _ _) ?_
    refine QQ hM hw hV0 hR _ (zJ _) (qsM rfl rfl rfl) ?_
    exact Wr.app (s:=[]) (by simpa using hne) (by simpa using k1) k2 k3 (by simpa[YH]using k4)
 | @full s g cap cur p hp hs hm hc hz ht=>
  have hsl:s.length≠0:=by simpa using hs
  refine qH Tryz.func144 rfl Tryz.ntmps144 rfl ?_;intro X w hM hMl hw hV0 hR;dsimp only[qZ,Nat.zero_add,Nat.reduceAdd]
  (repeat'(first|refine qq ?_|refine qa ?_|refine qo ?_|refine qe ?_|((first|refine qn rfl ?_|refine jE ?_);(first|refine jz rfl ?_|(refine qr tb rfl rfl rfl (c98 hp rfl rfl) (zr _) ?_;rintro _ V1 _ hs1 rfl;dsimp only[List.cons_append,List.nil_append])|(refine qbC tb rfl rfl rfl (by kernel_rfl) (KM (by kernel_rfl)) rfl rfl (.some hm hc (by simpa using hz) (by simpa using ht)) (List.Perm.swap _ _ _) hl ?_;intro v' Gr' hR' hn')|refine qh rfl ?_|refine qd rfl ?_|refine qb tb rfl rfl ?_|(apply qp tb rfl rfl;(·exact At.own .here);(·exact rfl))))))
  rcases hR'.parts with⟨rfl,rfl,h0,h1⟩|⟨g',cap',cur',rfl,rfl,k1,k2,k3,k4⟩
  · omega
  · dsimp only[List.cons_append,List.nil_append]
    (repeat'(first|refine qq ?_|refine qa ?_|refine qo ?_|refine qe ?_|refine qO ?_|((first|refine qn rfl ?_|refine jE ?_);(first|refine Zh rfl rfl (by kernel_rfl) ?_|refine qh rfl ?_|refine qd rfl ?_|(apply yk tb rfl rfl rfl rfl rfl;(·(repeat(first|exact Upd.here|apply Upd.there)));(·exact rfl))))))
    refine qlA (List.Perm.swap _ _ _) ?_
    refine QQ hM hw hV0 hR _ (zJ _) (qsM rfl rfl rfl) ?_
    exact Wr.app (by omega) k1 k2 k3 k4
end Fly
end
section
namespace Fly
open Go Go.Proofs
set_option maxRecDepth 10000
attribute [local irreducible] WC WE WR Opr St Go.Calls Qy Qf yR Owe One Qg
def y8(ts:List ByteArray):List UInt8:=(ts.map fun t=>t.data.toList).flatten
theorem qn3{ts:List ByteArray}{i:Nat}{t:ByteArray}(h:ts[i]?=some t):y8 (ts.take (i+1))=y8 (ts.take i)++t.data.toList:=by
 unfold y8;rw[VO,h];simp
theorem qhU(ts:List ByteArray)(i:Nat):(y8 (ts.take i)).length≤(y8 ts).length:=by
 have h:y8 ts=y8 (ts.take i)++y8 (ts.drop i):=by
  unfold y8;rw[← Wy,← Kr,Kw]
 rw[h,zb];omega
theorem qn4{V:qc}{b:Nat}{d:Int}{s:List UInt8}{ts:List ByteArray}{sl:Value}{G0:Own}(hS:Sl 1 V sl (ts.map .string))(hW:Wr b d s G0)(hl:s.length+(y8 ts).length≤549755813888) :
 jk Tryz.prog 93 [.pointer (some ⟨b,0,none⟩),sl].toArray V G0 (fun _ _ G'=>Wr b d (s++y8 ts) G')∧Qe Tryz.prog 93 [.pointer (some ⟨b,0,none⟩),sl].toArray V G0 (fun _ _ G'=>Wr b d (s++y8 ts) G'):=by
 have hlen:(ts.map Value.string).length=ts.length*1:=by simp
 have hmb:ts.length≤9223372036854775807:=by
  obtain⟨_,l,q,_,hq1,hq2,hl,_⟩:=hS;unfold maxLen at hq2;omega
 refine qiM Tryz.func93 rfl Tryz.ntmps93 rfl ?_;intro X w hM hMl hw hV0 hR;dsimp only[qZ,Nat.zero_add,Nat.reduceAdd]
 (repeat'(first|refine qq ?_|refine qa ?_|refine qo ?_|refine qe ?_|refine qt ?_|(refine qn rfl ?_;first|refine qX tb rfl hS rfl rfl hlen (by decide) ?_|refine qh rfl ?_)))
 refine jC (fun L' V' G' μ=>∃i:Nat,i≤ts.length∧μ=ts.length-i∧Sub V V'∧Wr b d (s++y8 (ts.take i)) G'∧L'=[(8,.int .i64 i),(6,sl),(7,.int .i64 ts.length),(0,.pointer (some ⟨b,0,none⟩))]) (m0:=ts.length) (by repeat(first|exact .nil|refine .cons rfl ?_)) (zJ _) ⟨0,by omega,by omega,Sub.refl _,by simpa[y8]using hW,rfl⟩ ?_
 rintro L' V' G' μ ⟨i,hi,hμ,hVs,hWi,hLe⟩
 subst hLe;by_cases hlt:i<ts.length
 · obtain⟨t,ht⟩:∃t,ts[i]?=some t:=⟨ts[i],by simp[hlt]⟩
   have htv:(ts.map Value.string)[(i:Int).toNat*1+0]?=some (.string t):=by simp[ht]
   have hcs:=qn3 ht;have hcl:(y8 (ts.take (i+1))).length≤(y8 ts).length:=qhU _ _
   have hfit:(s++y8 (ts.take i)).length+t.size≤549755813888:=by
    rw[hcs,zb,Qn]at hcl;rw[zb];omega
   (repeat'(first|refine qq ?_|refine qa ?_|refine qo ?_|refine qe ?_|refine qt ?_|refine qF ?_|refine qS ?_|refine jh ?_|refine qG ?_|refine qD ?_|refine qI ?_|(refine qn rfl ?_;first|(refine qv5 tb rfl (hS.mono hVs) rfl rfl (by omega) (by simpa using hlt) ?_;intro b1 o1 hrd)|refine ym tb rfl rfl (hrd 0 _ htv) ?_|refine jz rfl ?_|(refine qr tb rfl rfl rfl (c68 hWi hfit) (by rw[z7]) ?_;intro _ V1 G1 hs1 hW1)|refine qh rfl ?_|refine qd rfl ?_|refine jV rfl rfl ?_|refine jf rfl rfl (by omega) (by omega) ?_|refine qb tb rfl rfl ?_)|refine yL rfl (fun _=>?_) (fun _=>?_)))
   · refine jb (by repeat(first|exact .nil|refine .cons rfl ?_)) (zH _ _) ⟨i+1,by omega,rfl,hVs.trans hs1,?_,rfl⟩ (by omega)
     rw[hcs,← zw];exact hW1
   · exfalso;omega
 · (repeat'(first|refine qq ?_|refine qa ?_|refine qo ?_|refine qe ?_|refine qt ?_|refine qF ?_|refine jh ?_|refine qG ?_|refine qD ?_|refine qI ?_|((refine qn rfl ?_);(refine jV rfl rfl ?_))|refine yL rfl (fun _=>?_) (fun _=>?_)))
   · exfalso;omega
   · refine je hM hw hV0 hR _ (zJ _) (QB rfl) ?_
     rw[zP (by omega)]at hWi;exact hWi
theorem c34{V:qc}{b:Nat}{d:Int}{s:List UInt8}{ts:List ByteArray}{sl:Value}{G0:Own}(hS:Sl 1 V sl (ts.map .string))(hW:Wr b d s G0)(hl:s.length+(y8 ts).length≤549755813888) :
 jk Tryz.prog 93 [.pointer (some ⟨b,0,none⟩),sl].toArray V G0 fun _ _ G'=>Wr b d (s++y8 ts) G':=(qn4 hS hW hl).1
theorem c29{V:qc}{b:Nat}{d:Int}{s:List UInt8}{G0:Own}(hW:Wr b d s G0) :
 jk Tryz.prog 88 [.pointer (some ⟨b,0,none⟩)].toArray V G0 fun v _ G'=>v = .string ⟨s.toArray⟩∧G'=[]:=by
 cases hW with
 | new p hp=>
  refine qH Tryz.func88 rfl Tryz.ntmps88 rfl ?_;intro X w hM hMl hw hV0 hR;dsimp only[qZ,Nat.zero_add,Nat.reduceAdd]
  (repeat'(first|refine qq ?_|refine qa ?_|refine qo ?_|refine qe ?_|((refine qn rfl ?_);(refine qd rfl ?_))))
  (refine jo 10 mo rfl (by kernel_rfl) rfl ?_;(repeat (apply Prog.step (Q9 _) (jg _) rfl rfl;· (intro V1 F1 hs1;(repeat(first|refine jt ?_|refine js ?_));refine qW ?_;(first|refine jz rfl ?_|refine qfI rfl ?_|refine qh rfl ?_|refine qb tb rfl rfl ?_|refine jP tb rfl rfl rfl ?_|(apply qp tb rfl rfl;(·exact At.own (.app .here));(·exact rfl)));exact Qc)));refine Prog.done ?_;intro V1 hs1;repeat(first|refine jp ?_|refine jr ?_))
  (repeat'(first|refine qo ?_|refine qe ?_|refine qO ?_|(refine qn rfl ?_;first|refine qcC rfl rfl ?_|refine qd rfl ?_)))
  exact QQ hM hw hV0 hR [] (Vy _) (jU rfl rfl) ⟨rfl,rfl⟩
 | @full s g cap cur p hp hs hm hc hz ht=>
  have hsl:s.length≠0:=by simpa using hs
  refine qH Tryz.func88 rfl Tryz.ntmps88 rfl ?_;intro X w hM hMl hw hV0 hR;dsimp only[qZ,Nat.zero_add,Nat.reduceAdd]
  (repeat'(first|refine qq ?_|refine qa ?_|refine qo ?_|refine qe ?_|((refine qn rfl ?_);(refine qd rfl ?_))))
  (refine jo 10 mo rfl (by kernel_rfl) rfl ?_;(repeat (apply Prog.step (Q9 _) (jg _) rfl rfl;· (intro V1 F1 hs1;(repeat(first|refine jt ?_|refine js ?_));refine qW ?_;(first|refine jz rfl ?_|refine qhv rfl (by omega) ?_|refine qh rfl ?_|refine qb tb rfl rfl ?_|refine jP tb rfl rfl rfl ?_|(apply qp tb rfl rfl;(·exact At.own (.app .here));(·exact rfl)));exact Qc)));refine Prog.done ?_;intro V1 hs1;repeat(first|refine jp ?_|refine jr ?_))
  (repeat'(first|refine qo ?_|refine qe ?_|refine qO ?_|(refine qn rfl ?_;first|refine qdn rfl rfl rfl hs (by omega) (by unfold maxLen at hc;omega) ht (e:=5) (by kernel_rfl) (by kernel_rfl) (.there .here) ?_|refine qd rfl ?_)))
  exact QQ hM hw hV0 hR [] (Vy _) (jU rfl rfl) ⟨rfl,rfl⟩
end Fly
end
section
namespace Fly
open Go Go.Proofs
set_option maxRecDepth 10000
attribute [local irreducible] WC WE WR Opr St Go.Calls Qy Qf yR Owe One Qg
theorem c62(o:Int):Qf Tryz.prog 138 [.int .u8 o] (.bool (yU o)):=by
 refine Zb Tryz.func138 rfl Tryz.ntmps138 rfl ?_;intro X w V hM hw hV0 hR;dsimp only[qZ,Nat.zero_add,Nat.reduceAdd]
 (repeat'(first|refine qq ?_|refine qa ?_|refine qo ?_|refine qe ?_|refine qO ?_|((first|refine qn rfl ?_|refine Qa rfl rfl rfl ?_);(first|refine qh rfl ?_|refine qd rfl ?_|refine JA rfl rfl ?_|refine qY rfl rfl ?_|refine ja rfl rfl ?_))|refine JI rfl rfl rfl rfl ?_|refine yB rfl rfl (fun _=>?_) (fun _=>?_)))
 all_goals (refine ZL hM hw hV0 hR (jU rfl rfl) ?_)
 all_goals simp[yU, *]
theorem c97(b:Bool):Qf Tryz.prog 182 [.bool b] (.string (if b then⟨#[116,114,117,101]⟩else⟨#[102,97,108,115,101]⟩)):=by
 refine Zb Tryz.func182 rfl Tryz.ntmps182 rfl ?_;intro X w V hM hw hV0 hR;dsimp only[qZ,Nat.zero_add,Nat.reduceAdd]
 (repeat'(first|refine qq ?_|refine qa ?_|refine qo ?_|refine qe ?_|refine qF ?_|refine qO ?_|(refine qn rfl ?_;first|refine qh rfl ?_|refine qd rfl ?_)|refine qwj rfl (fun _=>?_) (fun _=>?_)))
 all_goals (refine ZL hM hw hV0 hR (jU rfl rfl) ?_)
 all_goals (subst_vars;rfl)
theorem c65(b:Bool):Qf Tryz.prog 141 [.bool b] (.string (if b then⟨#[116,114,117,101]⟩else⟨#[102,97,108,115,101]⟩)):=by
 refine Zb Tryz.func141 rfl Tryz.ntmps141 rfl ?_;intro X w V hM hw hV0 hR;dsimp only[qZ,Nat.zero_add,Nat.reduceAdd]
 (repeat'(first|refine qq ?_|refine qa ?_|refine qo ?_|refine qe ?_|refine qO ?_|(refine qn rfl ?_;first|refine yK tb rfl rfl (c97 b) ?_|refine qh rfl ?_|refine qd rfl ?_)))
 all_goals (refine ZL hM hw hV0 hR (jU rfl rfl) ?_)
 all_goals rfl
def yt(V:qc):Prop:=Su.GOK Su.tb V∧∀o:Int,yU o=true→rd V 0 (o-5).toNat (.string ⟨(ZC o).toArray⟩)
theorem yt.mono{V V':qc}(h:yt V)(hs:Sub V V'):yt V':=⟨Su.GOK.mono h.1 hs,fun o ho=>(h.2 o ho).mono hs⟩
theorem c64{V:qc}(hs:yt V){o:Int}(ho:yU o=true):ji Tryz.prog 140 [.int .u8 o] V (.string ⟨(ZC o).toArray⟩):=by
 have h1:=hs.2 o ho;have h2:5≤o∧o≤16:=by simpa[yU]using ho
 have h3:rd V 0 (0+(o-5).toNat*1) (.string ⟨(ZC o).toArray⟩):=by simpa using h1
 refine qT Tryz.func140 rfl Tryz.ntmps140 rfl ?_;intro X w hM hw hV0 hR;dsimp only[qZ,Nat.zero_add,Nat.reduceAdd]
 (repeat'(first|refine qq ?_|refine qa ?_|refine qo ?_|refine qe ?_|refine qO ?_|(refine qn rfl ?_;first|refine qiO rfl rfl (by omega) (by omega) ?_|refine qfJ (t:=225) (m:=12) (e:=9) (k:=1) (g:=false) rfl rfl (by kernel_rfl) (by kernel_rfl) (by omega) (by omega) ?_|refine ym tb rfl rfl h3 ?_|refine qh rfl ?_|refine qd rfl ?_)))
 (refine qR hM hw hV0 hR (jU rfl rfl) ?_)
 rfl
end Fly
end
section
namespace Fly
open Go Go.Proofs
set_option maxRecDepth 10000
attribute [local irreducible] WC WE WR Opr St Go.Calls Qy Qf ji Rel jk Qe yR Owe One Qg Go.CallsD
def E28(l:qV)(x:Ex):Prop:=∀ {V:qc} {b:Nat} {d:Int} {s:List UInt8} {G0:Own} {cx:List Value},yt V→Ex.Is V x cx→Wr b d s G0→s.length+(jJ l x).length≤549755813888 →
 jk Tryz.prog 87 [.pointer (some ⟨b,0,none⟩),.agg cx.toArray].toArray V G0 fun _ _ G'=>Wr b d (s++jJ l x) G'
theorem Yq{V:qc}{b b1:Nat}{d:Int}{s:List UInt8}{t:ByteArray}{G0:Own}(hb:V b1=none)(hW:Wr b d s G0)(hl:s.length+t.size≤549755813888) :
 jk Tryz.prog 93 [.pointer (some ⟨b,0,none⟩),.slice (some ⟨b1,0,none⟩) 1 1].toArray (addV V b1 (.cells [.string t].toArray 9 (0,0))) G0 (fun _ _ G'=>Wr b d (s++t.data.toList) G') ∧
 Qe Tryz.prog 93 [.pointer (some ⟨b,0,none⟩),.slice (some ⟨b1,0,none⟩) 1 1].toArray (addV V b1 (.cells [.string t].toArray 9 (0,0))) G0 (fun _ _ G'=>Wr b d (s++t.data.toList) G'):=by
 have:=qn4 (ts:=[t]) (Sl.made (k:=1) (e:=9) hb rfl (by decide)) hW (by simpa[y8,Qn]using hl)
 simpa[y8]using this
theorem qn5{V:qc}{b b1:Nat}{d:Int}{s:List UInt8}{t t2 t3:ByteArray}{G0:Own}(hb:V b1=none)(hW:Wr b d s G0)(hl:s.length+(t.size+t2.size+t3.size)≤549755813888) :
 jk Tryz.prog 93 [.pointer (some ⟨b,0,none⟩),.slice (some ⟨b1,0,none⟩) 3 3].toArray (addV V b1 (.cells [.string t,.string t2,.string t3].toArray 9 (0,0))) G0 (fun _ _ G'=>Wr b d (s++(t.data.toList++t2.data.toList++t3.data.toList)) G'):=by
 have:=(qn4 (ts:=[t,t2,t3]) (Sl.made (k:=1) (m:=3) (e:=9) hb rfl (by decide)) hW (by simpa[y8,Qn,Kp]using hl)).1
 simpa[y8]using this
theorem qyH{V:qc}{b:Nat}{d:Int}{s:List UInt8}{t:ByteArray}{sl:Value}{G0:Own}(hS:Sl 1 V sl [.string t])(hW:Wr b d s G0)(hl:s.length+t.size≤549755813888) :
 Qe Tryz.prog 93 [.pointer (some ⟨b,0,none⟩),sl].toArray V G0 (fun _ _ G'=>Wr b d (s++t.data.toList) G'):=by
 have:=(qn4 (ts:=[t]) hS hW (by simpa[y8,Qn]using hl)).2
 simpa[y8]using this
theorem c96{l:qV}{op p:Int}{bo:Bool}{i f:Int}{nm:ByteArray}{es:Exs}(hk:∀x∈es.list,E28 l x){V:qc}{b:Nat}{d:Int}{s:List UInt8}{G0:Own}{cx:List Value}(j:Nat)(hsg:yt V)(hE:Ex.Is V (.mk op p bo i f nm es) cx)(hW:Wr b d s G0)
 (hl:s.length+(Jh (textEs l es) j).length≤549755813888) (hj:j≤1):jk Tryz.prog 181 [.pointer (some ⟨b,0,none⟩),.agg cx.toArray,.int .i64 j].toArray V G0 fun _ _ G'=>Wr b d (s++Jh (textEs l es) j) G':=by
 simp only[Ex.Is]at hE;obtain⟨sx,ex,rfl,hsx,has⟩:=hE;have hp:=Exs.parts has;cases hx1:es.list[j]? with
 | none=>
  have hlen:es.list.length≤j:=VS.1 hx1
  rw[JT hx1,z7];refine qH Tryz.func181 rfl Tryz.ntmps181 rfl ?_;intro X w hM hMl hw hV0 hR;dsimp only[qZ,Nat.zero_add,Nat.reduceAdd]
  (repeat'(first|refine qq ?_|refine qa ?_|refine qo ?_|refine qe ?_|refine qF ?_|(refine qn rfl ?_;first|(refine qJ rfl ?_;intro bx;refine jF (zF (l₁:=[_])) ?_)|(apply qp tb rfl rfl;(·exact At.own (.app .here));(·exact rfl))|refine qX tb rfl hsx rfl rfl hp.1 (by decide) ?_|refine qh rfl ?_|refine jV rfl rfl ?_|refine qb tb rfl rfl ?_)|refine yL rfl (fun _=>?_) (fun _=>?_)))
  · exfalso;omega
  · exact je hM hw hV0 hR _ (zH _ _) (QB rfl) hW
 | some x=>
  have hlen:j<es.list.length:=(zu.1 hx1).1
  rw[QL hx1]at hl ⊢;obtain⟨ax,lx,qx,rfl,hq1,hq2,hlx,hpx⟩:=hsx;have hxl:=hp.1;have hlx':lx=es.list.length:=by omega
  obtain⟨b2,o2,rfl,hrx⟩:=hpx.resolve_left (by omega)
  obtain⟨c,hc1,⟨x',hx1',hc2⟩,hc3⟩:=hp.rd hrx (i:=j) hlen
  obtain rfl:x'=x:=by rw[hx1]at hx1';exact(KV hx1').symm
  refine qH Tryz.func181 rfl Tryz.ntmps181 rfl ?_;intro X w hM hMl hw hV0 hR;dsimp only[qZ,Nat.zero_add,Nat.reduceAdd]
  (repeat'(first|refine qq ?_|refine qa ?_|refine qo ?_|refine qe ?_|refine qF ?_|(refine qn rfl ?_;first|(refine qJ rfl ?_;intro bx;refine jF (zF (l₁:=[_])) ?_)|(apply qp tb rfl rfl;(·exact At.own (.app .here));(·exact rfl))|refine qB tb rfl rfl rfl (by omega) (by omega) ?_|refine yl tb rfl rfl hc1 (by decide) hc3 ?_|(refine qr tb rfl rfl rfl (hk _ (zO hx1) hsg hc2 hW hl) (zr _) ?_;intro _ V1 G1 hs1 hW1)|refine qh rfl ?_|refine jV rfl rfl ?_|refine qb tb rfl rfl ?_|refine jP tb rfl rfl rfl ?_)|refine yL rfl (fun _=>?_) (fun _=>?_)))
  · exact je hM hw hV0 hR _ (zH _ _) (QB rfl) hW1
  · exfalso;omega
theorem qn6{l:qV}{es:Exs}{i:Nat}{x:Ex}(h:es.list[i]?=some x)(ho:yU (opE x)=true):j0 (textEs l es) i=[40]++jJ l x++[41]:=by rw[qbf h,z6 ho]
theorem qn7{l:qV}{es:Exs}{i:Nat}{x:Ex}(h:es.list[i]?=some x)(ho:yU (opE x)=false):j0 (textEs l es) i=jJ l x:=by rw[qbf h,zQ (by rw[ho];simp)]
set_option maxHeartbeats 1000000 in
theorem c63{l:qV}{op p:Int}{bo:Bool}{i f:Int}{nm:ByteArray}{es:Exs}(hk:∀x∈es.list,E28 l x){V:qc}{b:Nat}{d:Int}{s:List UInt8}{G0:Own}{cx:List Value}(j:Nat)(hsg:yt V)(hE:Ex.Is V (.mk op p bo i f nm es) cx)(hW:Wr b d s G0)
 (hl:s.length+(j0 (textEs l es) j).length≤549755813888) (hj:j≤1):jk Tryz.prog 139 [.pointer (some ⟨b,0,none⟩),.agg cx.toArray,.int .i64 j].toArray V G0 fun _ _ G'=>Wr b d (s++j0 (textEs l es) j) G':=by
 have hE0:=hE;simp only[Ex.Is]at hE;obtain⟨sx,ex,rfl,hsx,has⟩:=hE;have hp:=Exs.parts has;cases hx1:es.list[j]? with
 | none=>
  have hlen:es.list.length≤j:=VS.1 hx1
  have ha:=c96 hk j hsg hE0 hW (by rw[JT hx1];rw[qbg hx1]at hl;exact hl) hj
  rw[JT hx1]at ha;rw[qbg hx1];refine ZR Tryz.func139 rfl Tryz.ntmps139 rfl ?_;intro X w hM hMl hw hV0 hR;dsimp only[qZ,Nat.zero_add,Nat.reduceAdd]
  (repeat'(first|refine qq ?_|refine qa ?_|refine qo ?_|refine qe ?_|refine qF ?_|(refine qn rfl ?_;first|(refine qJ rfl ?_;intro bx;refine jF (zF (l₁:=[_])) ?_)|(apply qp tb rfl rfl;(·exact At.own (.app .here));(·exact rfl))|(apply qK tb rfl rfl;(·exact At.own (.app .here));(·exact rfl))|refine QD rfl rfl (by omega) ?_|refine qX tb rfl hsx rfl rfl hp.1 (by decide) ?_|(refine qr tb rfl rfl rfl ha (zr _) ?_;intro _ V1 G1 hs1 hW1)|refine qh rfl ?_|refine ja rfl rfl ?_|refine qb tb rfl rfl ?_)|refine JI rfl rfl rfl rfl ?_|refine qz rfl ?_))
  all_goals first
   | (exfalso;omega)
   | exact qf4 hM hw hV0 hR _ (zH _ _) (QB rfl) hW1
 | some x=>
  have hlen:j<es.list.length:=(zu.1 hx1).1
  have ha:=fun(V':qc) (hs:Sub V V') (s':List UInt8) (G':Own) (hW':Wr b d s' G') (hl':s'.length+(jJ l x).length≤549755813888)=>c96 hk j (hsg.mono hs) (Ex.Is.mono hs _ hE0) hW' (by rw[QL hx1];exact hl') hj
  simp only[QL hx1]at ha;obtain⟨ax,lx,qx,rfl,hq1,hq2,hlx,hpx⟩:=hsx;have hxl:=hp.1;have hlx':lx=es.list.length:=by omega
  obtain⟨b2,o2,rfl,hrx⟩:=hpx.resolve_left (by omega)
  obtain⟨c,hc1,⟨x',hx1',hc2⟩,hc3⟩:=hp.rd hrx (i:=j) hlen
  obtain rfl:x'=x:=by rw[hx1]at hx1';exact(KV hx1').symm
  obtain⟨xo,xp,xb,xi,xf,xn,xs⟩:=x';simp only[Ex.Is]at hc2;obtain⟨sy,ey,rfl,_,_⟩:=hc2;have r0:=hc3 0 _ rfl
  cases ho:yU xo with
  | false=>
   rw[qn7 hx1 ho]at hl ⊢;refine ZR Tryz.func139 rfl Tryz.ntmps139 rfl ?_;intro X w hM hMl hw hV0 hR;dsimp only[qZ,Nat.zero_add,Nat.reduceAdd]
   have hC:=c62 xo;rw[ho]at hC
   (repeat'(first|refine qq ?_|refine qa ?_|refine qo ?_|refine qe ?_|refine qF ?_|((first|refine qn rfl ?_|refine Qa rfl rfl rfl ?_);(first|(refine qJ rfl ?_;intro bx;refine jF (zF (l₁:=[_])) ?_)|(apply qp tb rfl rfl;(·exact At.own (.app .here));(·exact rfl))|(apply qK tb rfl rfl;(·exact At.own (.app .here));(·exact rfl))|refine Qr rfl rfl (by omega) ?_|refine qB tb rfl rfl rfl (by omega) (by omega) ?_|refine ym tb rfl rfl r0 ?_|refine yK tb rfl rfl hC ?_|(refine qr tb rfl rfl rfl (ha V (Sub.refl _) s G0 hW hl) (zr _) ?_;intro _ V1 G1 hs1 hW1)|refine qh rfl ?_|refine qY rfl rfl ?_|refine qb tb rfl rfl ?_|refine jP tb rfl rfl rfl ?_))|refine qz rfl ?_))
   all_goals first
    | (exfalso;omega)
    | exact qf4 hM hw hV0 hR _ (zH _ _) (QB rfl) hW1
  | true=>
   rw[qn6 hx1 ho]at hl ⊢;refine ZR Tryz.func139 rfl Tryz.ntmps139 rfl ?_;intro X w hM hMl hw hV0 hR;dsimp only[qZ,Nat.zero_add,Nat.reduceAdd]
   simp only[zb,zf,zk]at hl;have hC:=c62 xo;rw[ho]at hC
   (repeat'(first|refine qq ?_|refine qa ?_|refine qo ?_|refine qe ?_|((first|refine qn rfl ?_|refine jE ?_|refine Qa rfl rfl rfl ?_);(first|(refine qJ rfl ?_;intro bx;refine jF (zF (l₁:=[_])) ?_)|(apply qp tb rfl rfl;(·exact At.own (.app .here));(·exact rfl))|refine Qr rfl rfl (by omega) ?_|(apply qw tb hMl;(·exact rfl);(·exact rfl);(·exact rfl);(·decide);(·(repeat(first|exact .nil|(apply Cat.cons;(·exact rfl);(·exact rfl);(·exact rfl))|exact .nil|apply App.cons)));intro b1 hb1)|refine qB tb rfl rfl rfl (by omega) (by omega) ?_|refine ym tb rfl rfl r0 ?_|refine yK tb rfl rfl hC ?_|(refine qr tb rfl rfl rfl (Yq hb1 hW (by show _+1≤_;omega)).1 (zr _) ?_;intro _ V1 G1 hs1 hW1;have hq1:=(Sub.addV hb1).trans hs1)|refine qh rfl ?_|refine qY rfl rfl ?_|refine qb tb rfl rfl ?_|refine jP tb rfl rfl rfl ?_))|refine qE rfl ?_))
   refine qpd rfl hR ?_
   have hW1':Wr b d (s++[40]) G1:=hW1
   have hcall:=ha (addV V1 b1 (.cells [Value.string ⟨#[41]⟩].toArray 9 (0,0))) (hq1.trans (Sub.addV hb1)) (s++[40]) G1 hW1' (by rw[zb];show s.length+1+_≤_;omega)
   (repeat'(first|refine qo ?_|(refine qn rfl ?_;first|(apply qK tb rfl rfl;(·exact At.own (.app .here));(·exact rfl))|(refine qr tb rfl rfl rfl hcall (zr _) ?_;intro _ V2 G2 hs2 hW2)|refine qh rfl ?_)))
   refine qkJ tb rfl hM hw hV0 (qyH ((Sl.made hb1 rfl (by decide)).mono hs2) hW2 ?_) (zr _) rfl ?_
   · rw[zb,zb];show s.length+1+_+1≤_;omega
   · intro v V' G' h
     refine⟨G',zH _ _,?_⟩
     rw[← zw,← zw];exact h
end Fly
end
