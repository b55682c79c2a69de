/-
  A logic of walks. No condition.
-/
import Derived.Test.YtldhknmacepeiaaGreatDoorTrH
import Derived.Shelf.Strings.Repeat
import Derived.Shelf.Small.Strs
import Derived.Shelf.Strconv.Itoa3
import Derived.Test.YtldhknmacepeiaaGreatDoorRb
set_option linter.unusedVariables false
set_option linter.unusedSimpArgs false
section
namespace Fly
open Go Go.Proofs
set_option maxRecDepth 10000
attribute [local irreducible] WC WE WR Opr St Go.Calls Qy Qf ji Rel jk Qe yR Owe One Qg Go.CallsD
theorem c66{l:qV}{op p:Int}{bo:Bool}{i f:Int}{nm:ByteArray}{es:Exs}(hk:∀x∈es.list,E28 l x){V:qc}{b:Nat}{d:Int}{s:List UInt8}{G0:Own}{cx:List Value}(u v:ByteArray)(hsg:yt V)(hE:Ex.Is V (.mk op p bo i f nm es) cx)(hW:Wr b d s G0)
 (hl:s.length+(u.size+(Jh (textEs l es) 0).length+v.size)≤549755813888):jk Tryz.prog 142 [.pointer (some ⟨b,0,none⟩),.string u,.agg cx.toArray,.string v].toArray V G0 fun _ _ G'=>Wr b d (s++(u.data.toList++Jh (textEs l es) 0++v.data.toList)) G':=by
 have hE0:=hE;simp only[Ex.Is]at hE;obtain⟨sx,ex,rfl,hsx,has⟩:=hE;have hu:=Qn u;have hv:=Qn v;have ha:=fun(V':qc) (hs:Sub V V') (s':List UInt8) (G':Own) (hW':Wr b d s' G') (hl':s'.length+(Jh (textEs l es) 0).length≤549755813888)=>c96 hk 0 (hsg.mono hs) (Ex.Is.mono hs _ hE0) hW' hl' (by omega)
 refine qH Tryz.func142 rfl Tryz.ntmps142 rfl ?_;intro X w hM hMl hw hV0 hR;dsimp only[qZ,Nat.zero_add,Nat.reduceAdd]
 (repeat'(first|refine qq ?_|refine qa ?_|refine qo ?_|refine qe ?_|(refine qn rfl ?_;first|(refine qJ rfl ?_;intro bx;refine jF (zF (l₁:=[_])) ?_)|(apply qw tb hMl;(·exact rfl);(·exact rfl);(·exact rfl);(·decide);(·(repeat(first|exact .nil|(apply Cat.cons;(·exact rfl);(·exact rfl);(·exact rfl))|exact .nil|apply App.cons)));intro b1 hb1)|(refine qr tb rfl rfl rfl (Yq hb1 hW (by omega)).1 (zr _) ?_;intro _ V1 G1 hs1 hW1;have hq1:=(Sub.addV hb1).trans hs1)|refine qh rfl ?_)))
 have hcall:=ha V1 hq1 _ G1 hW1 (by rw[zb];omega)
 (repeat'(first|refine qa ?_|refine qo ?_|refine qe ?_|(refine qn rfl ?_;first|(apply qK tb rfl rfl;(·exact At.own (.app .here));(·exact rfl))|(apply qw tb hMl;(·exact rfl);(·exact rfl);(·exact rfl);(·decide);(·(repeat(first|exact .nil|(apply Cat.cons;(·exact rfl);(·exact rfl);(·exact rfl))|exact .nil|apply App.cons)));intro b1 hb1)|(refine qr tb rfl rfl rfl hcall (zr _) ?_;intro _ V2 G2 hs2 hW2)|(refine qr tb rfl rfl rfl (Yq hb1 hW2 (by rw[zb,zb];omega)).1 (zr _) ?_;intro _ V3 G3 hs3 hW3)|refine qh rfl ?_)))
 refine je hM hw hV0 hR _ (zH _ _) (QB rfl) ?_
 rw[← zw,← zw];exact hW3
def qhV(l:qV):Ex→Prop
 | .mk op _ _ i f _ _=>(op=2→(∀V,yt V→jk Tryz.prog 94 [.int .i64 i].toArray V [] fun v _ G=>v = .string ⟨(l.itoa i).toArray⟩∧G=[])∧-2147483648≤i∧i≤2147483647)∧(op=3→∀V,yt V→jk Tryz.prog 12 [.int .u64 f].toArray V [] fun v _ G=>v = .string ⟨(l.flt f).toArray⟩∧G=[])
mutual
def Qt(l:qV):Ex→Prop
 | .mk op p bo i f nm es=>qhV l (.mk op p bo i f nm es)∧LeafAlls l es
def LeafAlls(l:qV):Exs→Prop
 | .nil=>True
 | .cons e r=>Qt l e∧LeafAlls l r
end
theorem jd(t:List UInt8):(⟨t.toArray⟩:ByteArray).size=t.length:=rfl
set_option maxHeartbeats 2000000 in
theorem c28b{l:qV}{op p:Int}{bo:Bool}{i f:Int}{nm:ByteArray}{es:Exs}(hk:∀x∈es.list,E28 l x)(hf:qhV l (.mk op p bo i f nm es)):E28 l (.mk op p bo i f nm es):=by
 intro V b d s G0 cx hsg hE hW hl;have hE0:=hE;simp only[Ex.Is]at hE;obtain⟨sx,ex,rfl,hsx,has⟩:=hE;have hp:=Exs.parts has;have hside:=fun(j:Nat) (hj:j≤1) (V':qc) (hs:Sub V V') (s':List UInt8) (G':Own) (hW':Wr b d s' G') (hl':s'.length+(j0 (textEs l es) j).length≤549755813888)=>c63 hk j (hsg.mono hs) (Ex.Is.mono hs _ hE0) hW' hl' hj
 have hcall:=fun(u v:ByteArray) (hl':s.length+(u.size+(Jh (textEs l es) 0).length+v.size)≤549755813888)=>c66 hk u v hsg hE0 hW hl'
 simp only[qhV]at hf;by_cases h2:yU op=true
 · have ht:jJ l (.mk op p bo i f nm es)=j0 (textEs l es) 0++([32]++ZC op++[32])++j0 (textEs l es) 1:=by simp only[jJ,h2,VG]
   rw[ht]at hl ⊢;simp only[zb,zf,zk]at hl;have hC:=c62 op;rw[h2]at hC;have hc1:=hside 0 (by omega) V (Sub.refl _) s G0 hW (by omega)
   refine qH Tryz.func87 rfl Tryz.ntmps87 rfl ?_;intro X w hM hMl hw hV0 hR;dsimp only[qZ,Nat.zero_add,Nat.reduceAdd]
   (repeat'(first|refine qq ?_|refine qa ?_|refine qo ?_|refine qe ?_|refine qt ?_|(refine qn rfl ?_;first|(refine qJ rfl ?_;intro bx;refine jF (zF (l₁:=[_])) ?_)|(apply qp tb rfl rfl;(·exact At.own (.app .here));(·exact rfl))|(apply qK tb rfl rfl;(·exact At.own (.app .here));(·exact rfl))|(apply qw tb hMl;(·exact rfl);(·exact rfl);(·exact rfl);(·decide);(·(repeat(first|exact .nil|(apply Cat.cons;(·exact rfl);(·exact rfl);(·exact rfl))|exact .nil|apply App.cons)));intro b1 hb1)|refine yK tb rfl rfl hC ?_|(refine qr tb rfl rfl rfl hc1 (zr _) ?_;intro _ V1 G1 hs1 hW1)|refine qA tb rfl rfl (c64 (hsg.mono hs1) h2) ?_|(refine qr tb rfl rfl rfl (qn5 hb1 hW1 (by simp only[zb,jd,zf,zk];omega)) (zr _) ?_;intro _ V2 G2 hs2 hW2;have hq2:=hs1.trans ((Sub.addV hb1).trans hs2))|refine qh rfl ?_|refine qd rfl ?_|refine qb tb rfl rfl ?_)|refine qE rfl ?_))
   have hc2:=hside 1 (by omega) V2 hq2 _ G2 hW2 (by simp only[zb,zf,zk];omega)
   (repeat'(first|refine qo ?_|refine qS ?_|((refine qn rfl ?_);(refine qr tb rfl rfl rfl hc2 (zr _) ?_;intro _ V3 G3 hs3 hW3))))
   refine je hM hw hV0 hR _ (zH _ _) (QB rfl) ?_
   rw[← zw,← zw];exact hW3
 have hC:=c62 op;have h2':yU op=false:=by cases h:yU op with|true=>exact absurd h h2|false=>rfl
 rw[h2']at hC;have ht:jJ l (.mk op p bo i f nm es)=if op=1 then(if bo then[116,114,117,101]else[102,97,108,115,101])
  else if op=2 then l.itoa i
  else if op=3 then l.flt f
  else if op=4 then qgr nm.data.toList (textEs l es)
  else if op=17 then[45]++j0 (textEs l es) 0
  else if op=18 then[33]++j0 (textEs l es) 0
  else if op=19 then[105,110,116,40]++Jh (textEs l es) 0++[41]
  else if op=20 then[102,108,111,97,116,40]++Jh (textEs l es) 0++[41]
  else if op=21 then[97,98,115,40]++Jh (textEs l es) 0++[41]
  else[]:=by simp only[jJ,h2',Vs,Vv]
 rw[ht]at hl ⊢;clear ht;by_cases o1:op=1
 · subst o1
   simp only[VG]at hl ⊢;have hb':=c65 bo;have hbs:(if bo then(⟨#[116,114,117,101]⟩:ByteArray)else⟨#[102,97,108,115,101]⟩)=⟨(if bo then[116,114,117,101]else[102,97,108,115,101]:List UInt8).toArray⟩:=by cases bo <;> rfl
   rw[hbs]at hb';refine qH Tryz.func87 rfl Tryz.ntmps87 rfl ?_;intro X w hM hMl hw hV0 hR;dsimp only[qZ,Nat.zero_add,Nat.reduceAdd]
   (repeat'(first|refine qq ?_|refine qa ?_|refine qo ?_|refine qe ?_|refine qt ?_|refine qS ?_|(refine qn rfl ?_;first|(refine qJ rfl ?_;intro bx;refine jF (zF (l₁:=[_])) ?_)|(apply qp tb rfl rfl;(·exact At.own (.app .here));(·exact rfl))|(apply qw tb hMl;(·exact rfl);(·exact rfl);(·exact rfl);(·decide);(·(repeat(first|exact .nil|(apply Cat.cons;(·exact rfl);(·exact rfl);(·exact rfl))|exact .nil|apply App.cons)));intro b1 hb1)|refine yK tb rfl rfl hC ?_|refine yK tb rfl rfl hb' ?_|(refine qr tb rfl rfl rfl (Yq hb1 hW (by simp only[jd];omega)).1 (zr _) ?_;intro _ V1 G1 hs1 hW1)|refine qh rfl ?_|refine qd rfl ?_|refine jI rfl rfl ?_|refine qb tb rfl rfl ?_)|refine qE rfl ?_|refine qz rfl ?_))
   all_goals first
    | contradiction
    | exact je hM hw hV0 hR _ (zH _ _) (QB rfl) hW1
 rw[zQ o1]at hl ⊢;by_cases o2:op=2
 · subst o2
   rw[z6 rfl]at hl ⊢;obtain⟨hi,hi1,hi2⟩:=hf.1 rfl;refine qH Tryz.func87 rfl Tryz.ntmps87 rfl ?_;intro X w hM hMl hw hV0 hR;dsimp only[qZ,Nat.zero_add,Nat.reduceAdd]
   have hi:=hi V hsg
   (repeat'(first|refine qq ?_|refine qa ?_|refine qo ?_|refine qe ?_|refine qt ?_|refine qS ?_|(refine qn rfl ?_;first|(refine qJ rfl ?_;intro bx;refine jF (zF (l₁:=[_])) ?_)|(apply qp tb rfl rfl;(·exact At.own (.app .here));(·exact rfl))|(apply qw tb hMl;(·exact rfl);(·exact rfl);(·exact rfl);(·decide);(·(repeat(first|exact .nil|(apply Cat.cons;(·exact rfl);(·exact rfl);(·exact rfl))|exact .nil|apply App.cons)));intro b1 hb1)|refine yK tb rfl rfl hC ?_|refine qar tb rfl rfl rfl (by omega) (by omega) ?_|(refine qr (first:=[]) tb rfl rfl rfl hi (zr _) ?_;rintro _ V0 _ hs0 ⟨rfl,rfl⟩;dsimp only[List.nil_append])|(refine qr tb rfl rfl rfl (Yq hb1 hW (by simp only[jd];omega)).1 (zr _) ?_;intro _ V1 G1 hs1 hW1)|refine qh rfl ?_|refine qd rfl ?_|refine jI rfl rfl ?_|refine qb tb rfl rfl ?_)|refine qE rfl ?_|refine qz rfl ?_))
   exact je hM hw hV0 hR _ (zH _ _) (QB rfl) hW1
 rw[zQ o2]at hl ⊢;by_cases o3:op=3
 · subst o3
   rw[z6 rfl]at hl ⊢;have hi:=hf.2 rfl V hsg;refine qH Tryz.func87 rfl Tryz.ntmps87 rfl ?_;intro X w hM hMl hw hV0 hR;dsimp only[qZ,Nat.zero_add,Nat.reduceAdd]
   (repeat'(first|refine qq ?_|refine qa ?_|refine qo ?_|refine qe ?_|refine qt ?_|refine qS ?_|(refine qn rfl ?_;first|(refine qJ rfl ?_;intro bx;refine jF (zF (l₁:=[_])) ?_)|(apply qp tb rfl rfl;(·exact At.own (.app .here));(·exact rfl))|(apply qw tb hMl;(·exact rfl);(·exact rfl);(·exact rfl);(·decide);(·(repeat(first|exact .nil|(apply Cat.cons;(·exact rfl);(·exact rfl);(·exact rfl))|exact .nil|apply App.cons)));intro b1 hb1)|refine yK tb rfl rfl hC ?_|(refine qr (first:=[]) tb rfl rfl rfl hi (zr _) ?_;rintro _ V0 _ hs0 ⟨rfl,rfl⟩;dsimp only[List.nil_append])|(refine qr tb rfl rfl rfl (Yq hb1 hW (by simp only[jd];omega)).1 (zr _) ?_;intro _ V1 G1 hs1 hW1)|refine qh rfl ?_|refine qd rfl ?_|refine jI rfl rfl ?_|refine qb tb rfl rfl ?_)|refine qE rfl ?_|refine qz rfl ?_))
   exact je hM hw hV0 hR _ (zH _ _) (QB rfl) hW1
 rw[zQ o3]at hl ⊢;by_cases o4:op=4
 · subst o4
   rw[z6 rfl]at hl ⊢;have hna:=Qn nm;unfold qgr at hl ⊢
   rw[Ji]at hl ⊢;by_cases h0:es.list.length=0
   · rw[z6 h0]at hl ⊢
     refine qH Tryz.func87 rfl Tryz.ntmps87 rfl ?_;intro X w hM hMl hw hV0 hR;dsimp only[qZ,Nat.zero_add,Nat.reduceAdd]
     (repeat'(first|refine qq ?_|refine qa ?_|refine qo ?_|refine qe ?_|refine qt ?_|refine qS ?_|((first|refine qn rfl ?_|refine Qa rfl rfl rfl ?_);(first|(refine qJ rfl ?_;intro bx;refine jF (zF (l₁:=[_])) ?_)|(apply qp tb rfl rfl;(·exact At.own (.app .here));(·exact rfl))|(apply qw tb hMl;(·exact rfl);(·exact rfl);(·exact rfl);(·decide);(·(repeat(first|exact .nil|(apply Cat.cons;(·exact rfl);(·exact rfl);(·exact rfl))|exact .nil|apply App.cons)));intro b1 hb1)|refine yK tb rfl rfl hC ?_|refine qX tb rfl hsx rfl rfl hp.1 (by decide) ?_|refine qbE rfl rfl (by omega) ?_|(refine qr tb rfl rfl rfl (Yq hb1 hW (by omega)).1 (zr _) ?_;intro _ V1 G1 hs1 hW1)|refine qh rfl ?_|refine qd rfl ?_|refine jI rfl rfl ?_|refine qY rfl rfl ?_|refine qb tb rfl rfl ?_))|refine qE rfl ?_|refine qz rfl ?_))
     exact je hM hw hV0 hR _ (zH _ _) (QB rfl) hW1
   · rw[zQ h0]at hl ⊢
     simp only[zb,zf,zk]at hl;have hap:(nm++(⟨#[91]⟩:ByteArray)).data.toList=nm.data.toList++[91]:=by simp
     have hsz:(nm++(⟨#[91]⟩:ByteArray)).size=nm.size+1:=by rw[ByteArray.size_append];rfl
     have hcc:=hcall (nm++⟨#[91]⟩) ⟨#[93]⟩ (by rw[hsz,show(⟨#[93]⟩:ByteArray).size=1 from rfl];omega)
     rw[hap]at hcc;refine qH Tryz.func87 rfl Tryz.ntmps87 rfl ?_;intro X w hM hMl hw hV0 hR;dsimp only[qZ,Nat.zero_add,Nat.reduceAdd]
     (repeat'(first|refine qq ?_|refine qa ?_|refine qo ?_|refine qe ?_|refine qt ?_|refine qS ?_|((first|refine qn rfl ?_|refine Qa rfl rfl rfl ?_);(first|(refine qJ rfl ?_;intro bx;refine jF (zF (l₁:=[_])) ?_)|(apply qp tb rfl rfl;(·exact At.own (.app .here));(·exact rfl))|(apply qK tb rfl rfl;(·exact At.own (.app .here));(·exact rfl))|refine yK tb rfl rfl hC ?_|refine qX tb rfl hsx rfl rfl hp.1 (by decide) ?_|refine qbD rfl rfl (by omega) ?_|refine qhw rfl rfl (by show nm.size+1≤_;omega) ?_|(refine qr tb rfl rfl rfl hcc (zr _) ?_;intro _ V1 G1 hs1 hW1)|refine qh rfl ?_|refine qd rfl ?_|refine jI rfl rfl ?_|refine qY rfl rfl ?_|refine qb tb rfl rfl ?_))|refine qE rfl ?_|refine qz rfl ?_))
     exact je hM hw hV0 hR _ (zH _ _) (QB rfl) hW1
 rw[zQ o4]at hl ⊢;by_cases o17:op=17
 · subst o17
   rw[z6 rfl]at hl ⊢;simp only[zb,zf,zk]at hl;refine qH Tryz.func87 rfl Tryz.ntmps87 rfl ?_;intro X w hM hMl hw hV0 hR;dsimp only[qZ,Nat.zero_add,Nat.reduceAdd]
   (repeat'(first|refine qq ?_|refine qa ?_|refine qo ?_|refine qe ?_|refine qt ?_|(refine qn rfl ?_;first|(refine qJ rfl ?_;intro bx;refine jF (zF (l₁:=[_])) ?_)|(apply qp tb rfl rfl;(·exact At.own (.app .here));(·exact rfl))|(apply qK tb rfl rfl;(·exact At.own (.app .here));(·exact rfl))|(apply qw tb hMl;(·exact rfl);(·exact rfl);(·exact rfl);(·decide);(·(repeat(first|exact .nil|(apply Cat.cons;(·exact rfl);(·exact rfl);(·exact rfl))|exact .nil|apply App.cons)));intro b1 hb1)|refine yK tb rfl rfl hC ?_|(refine qr tb rfl rfl rfl (Yq hb1 hW (by simp only[jd,zf,zk];omega)).1 (zr _) ?_;intro _ V1 G1 hs1 hW1;have hq1:=(Sub.addV hb1).trans hs1)|refine qh rfl ?_|refine qd rfl ?_|refine jI rfl rfl ?_|refine ja rfl rfl ?_|refine qb tb rfl rfl ?_)|refine JI rfl rfl rfl rfl ?_|refine qE rfl ?_|refine qz rfl ?_))
   have hc1:=hside 0 (by omega) V1 hq1 _ G1 hW1 (by simp only[zb,zf,zk];omega)
   (repeat'(first|refine qo ?_|refine qS ?_|((refine qn rfl ?_);(refine qr tb rfl rfl rfl hc1 (zr _) ?_;intro _ V2 G2 hs2 hW2))))
   refine je hM hw hV0 hR _ (zH _ _) (QB rfl) ?_
   rw[← zw];exact hW2
 rw[zQ o17]at hl ⊢;by_cases o18:op=18
 · subst o18
   rw[z6 rfl]at hl ⊢;simp only[zb,zf,zk]at hl;refine qH Tryz.func87 rfl Tryz.ntmps87 rfl ?_;intro X w hM hMl hw hV0 hR;dsimp only[qZ,Nat.zero_add,Nat.reduceAdd]
   (repeat'(first|refine qq ?_|refine qa ?_|refine qo ?_|refine qe ?_|refine qt ?_|(refine qn rfl ?_;first|(refine qJ rfl ?_;intro bx;refine jF (zF (l₁:=[_])) ?_)|(apply qp tb rfl rfl;(·exact At.own (.app .here));(·exact rfl))|(apply qK tb rfl rfl;(·exact At.own (.app .here));(·exact rfl))|(apply qw tb hMl;(·exact rfl);(·exact rfl);(·exact rfl);(·decide);(·(repeat(first|exact .nil|(apply Cat.cons;(·exact rfl);(·exact rfl);(·exact rfl))|exact .nil|apply App.cons)));intro b1 hb1)|refine yK tb rfl rfl hC ?_|(refine qr tb rfl rfl rfl (Yq hb1 hW (by simp only[jd,zf,zk];omega)).1 (zr _) ?_;intro _ V1 G1 hs1 hW1;have hq1:=(Sub.addV hb1).trans hs1)|refine qh rfl ?_|refine qd rfl ?_|refine jI rfl rfl ?_|refine ja rfl rfl ?_|refine qb tb rfl rfl ?_)|refine JI rfl rfl rfl rfl ?_|refine qE rfl ?_|refine qz rfl ?_))
   have hc1:=hside 0 (by omega) V1 hq1 _ G1 hW1 (by simp only[zb,zf,zk];omega)
   (repeat'(first|refine qo ?_|refine qS ?_|((refine qn rfl ?_);(refine qr tb rfl rfl rfl hc1 (zr _) ?_;intro _ V2 G2 hs2 hW2))))
   refine je hM hw hV0 hR _ (zH _ _) (QB rfl) ?_
   rw[← zw];exact hW2
 rw[zQ o18]at hl ⊢;by_cases o19:op=19
 · subst o19
   rw[z6 rfl]at hl ⊢;simp only[zb,zf,zk]at hl;have hcc:=hcall ⟨#[105,110,116,40]⟩ ⟨#[41]⟩ (by simp only[jd,zf,zk];omega)
   refine qH Tryz.func87 rfl Tryz.ntmps87 rfl ?_;intro X w hM hMl hw hV0 hR;dsimp only[qZ,Nat.zero_add,Nat.reduceAdd]
   (repeat'(first|refine qq ?_|refine qa ?_|refine qo ?_|refine qe ?_|refine qt ?_|refine qS ?_|(refine qn rfl ?_;first|(refine qJ rfl ?_;intro bx;refine jF (zF (l₁:=[_])) ?_)|(apply qp tb rfl rfl;(·exact At.own (.app .here));(·exact rfl))|(apply qK tb rfl rfl;(·exact At.own (.app .here));(·exact rfl))|refine yK tb rfl rfl hC ?_|(refine qr tb rfl rfl rfl hcc (zr _) ?_;intro _ V1 G1 hs1 hW1)|refine qh rfl ?_|refine qd rfl ?_|refine jI rfl rfl ?_|refine ja rfl rfl ?_|refine qb tb rfl rfl ?_)|refine JI rfl rfl rfl rfl ?_|refine qE rfl ?_|refine qz rfl ?_))
   exact je hM hw hV0 hR _ (zH _ _) (QB rfl) hW1
 rw[zQ o19]at hl ⊢;by_cases o20:op=20
 · subst o20
   rw[z6 rfl]at hl ⊢;simp only[zb,zf,zk]at hl;have hcc:=hcall ⟨#[102,108,111,97,116,40]⟩ ⟨#[41]⟩ (by simp only[jd,zf,zk];omega)
   refine qH Tryz.func87 rfl Tryz.ntmps87 rfl ?_;intro X w hM hMl hw hV0 hR;dsimp only[qZ,Nat.zero_add,Nat.reduceAdd]
   (repeat'(first|refine qq ?_|refine qa ?_|refine qo ?_|refine qe ?_|refine qt ?_|refine qS ?_|(refine qn rfl ?_;first|(refine qJ rfl ?_;intro bx;refine jF (zF (l₁:=[_])) ?_)|(apply qp tb rfl rfl;(·exact At.own (.app .here));(·exact rfl))|(apply qK tb rfl rfl;(·exact At.own (.app .here));(·exact rfl))|refine yK tb rfl rfl hC ?_|(refine qr tb rfl rfl rfl hcc (zr _) ?_;intro _ V1 G1 hs1 hW1)|refine qh rfl ?_|refine qd rfl ?_|refine jI rfl rfl ?_|refine ja rfl rfl ?_|refine qb tb rfl rfl ?_)|refine JI rfl rfl rfl rfl ?_|refine qE rfl ?_|refine qz rfl ?_))
   exact je hM hw hV0 hR _ (zH _ _) (QB rfl) hW1
 rw[zQ o20]at hl ⊢;by_cases o21:op=21
 · subst o21
   rw[z6 rfl]at hl ⊢;simp only[zb,zf,zk]at hl;have hcc:=hcall ⟨#[97,98,115,40]⟩ ⟨#[41]⟩ (by simp only[jd,zf,zk];omega)
   refine qH Tryz.func87 rfl Tryz.ntmps87 rfl ?_;intro X w hM hMl hw hV0 hR;dsimp only[qZ,Nat.zero_add,Nat.reduceAdd]
   (repeat'(first|refine qq ?_|refine qa ?_|refine qo ?_|refine qe ?_|refine qt ?_|refine qS ?_|(refine qn rfl ?_;first|(refine qJ rfl ?_;intro bx;refine jF (zF (l₁:=[_])) ?_)|(apply qp tb rfl rfl;(·exact At.own (.app .here));(·exact rfl))|(apply qK tb rfl rfl;(·exact At.own (.app .here));(·exact rfl))|refine yK tb rfl rfl hC ?_|(refine qr tb rfl rfl rfl hcc (zr _) ?_;intro _ V1 G1 hs1 hW1)|refine qh rfl ?_|refine qd rfl ?_|refine jI rfl rfl ?_|refine ja rfl rfl ?_|refine qb tb rfl rfl ?_)|refine JI rfl rfl rfl rfl ?_|refine qE rfl ?_|refine qz rfl ?_))
   exact je hM hw hV0 hR _ (zH _ _) (QB rfl) hW1
 rw[zQ o21]at hl ⊢;rw[z7];refine qH Tryz.func87 rfl Tryz.ntmps87 rfl ?_;intro X w hM hMl hw hV0 hR;dsimp only[qZ,Nat.zero_add,Nat.reduceAdd]
 (repeat'(first|refine qq ?_|refine qa ?_|refine qo ?_|refine qe ?_|refine qt ?_|refine qF ?_|refine qS ?_|(refine qn rfl ?_;first|(refine qJ rfl ?_;intro bx;refine jF (zF (l₁:=[_])) ?_)|(apply qp tb rfl rfl;(·exact At.own (.app .here));(·exact rfl))|refine yK tb rfl rfl hC ?_|refine qaq rfl rfl (by omega) ?_|refine qh rfl ?_|refine qd rfl ?_|refine ja rfl rfl ?_|refine qb tb rfl rfl ?_)|refine JI rfl rfl rfl rfl ?_|refine qz rfl ?_))
 exact je hM hw hV0 hR _ (zH _ _) (QB rfl) hW
mutual
theorem c28{l:qV}:∀(x:Ex),Qt l x→E28 l x
 | .mk _ _ _ _ _ _ es,h=>c28b (c28l es h.2) h.1
 termination_by structural x=>x
theorem c28l{l:qV}:∀(es:Exs),LeafAlls l es→∀x∈es.list,E28 l x
 | .nil,_,x,hm=>by simp[Exs.list]at hm
 | .cons e r,h,x,hm=>by
  rcases zK.1 hm with h'|h'
  · rw[h'];exact c28 e h.1
  · exact c28l r h.2 x h'
 termination_by structural x=>x
end
end Fly
end
section
namespace Fly
open Go Go.Proofs
set_option maxRecDepth 10000
attribute [local irreducible] WC WE WR Opr St Go.Calls Qy Qf ji Rel jk Qe yR Owe One Qg Go.CallsD
theorem c10{l:qV}{x:Ex}(hf:Qt l x){V:qc}{cx:List Value}(hsg:yt V)(hE:Ex.Is V x cx)(hl:(jJ l x).length≤549755813888):ji Tryz.prog 40 [.agg cx.toArray] V (.string ⟨(jJ l x).toArray⟩):=by
 obtain⟨a0,a1,a2,a3,a4,a5,a6,rfl⟩:=hE.lit;have hc:E28 l x:=c28 x hf
 refine qT Tryz.func40 rfl Tryz.ntmps40 rfl ?_;intro X w hM hw hV0 hR;dsimp only[qZ,Nat.zero_add,Nat.reduceAdd]
 (repeat'(first|refine qq ?_|refine qa ?_|refine qo ?_|refine qe ?_|(refine qn rfl ?_;first|refine jz rfl ?_|(refine qr tb rfl rfl rfl (hc hsg hE (.new (d:=0) none (.inl rfl)) (by simpa using hl)) (zr _) ?_;intro _ V1 G1 hs1 hW1)|refine qh rfl ?_|refine qd rfl ?_|refine qb tb rfl rfl ?_|(apply qK tb rfl rfl;(·(refine At.own (?_);repeat(first|exact .here|refine .there ?_)));(·exact rfl))|(apply Jo tb (by kernel_rfl) rfl (rfl:tb.fo _ 0=_);(·(repeat (exact Fill.nil))))|(refine qJ rfl ?_;intro b))))
 (repeat'(first|refine qo ?_|refine qe ?_|refine qO ?_|(refine qn rfl ?_;first|(refine qr tb rfl rfl rfl (c29 hW1) (zr _) ?_;rintro _ V2 G2 hs2 ⟨rfl,rfl⟩)|refine qd rfl ?_)))
 (refine qR hM hw hV0 hR (jU rfl rfl) ?_)
 rfl
end Fly
end
section
namespace Go.Proofs
open Go.Shelf
def Tryz.repN_ren:Go.Shelf.Ren:=⟨fun|105=>102|212=>149|99=>126|165=>150|166=>144|170=>151|169=>88|263=>185|264=>186|206=>171|240=>183|241=>187|276=>204|277=>209|n=>n,fun|9=>9|3=>3|4=>4|20=>20|0=>0|46=>28|109=>198|5=>5|72=>131|76=>194|51=>105|146=>227|53=>22|148=>229|70=>128|37=>129|75=>193|127=>191|164=>243|80=>96|n=>n,fun|n=>n⟩
theorem Tryz.repN:Go.Proofs.Lays.n105 Tryz.prog Tryz.repN_ren:={
 mixed:=by kernel_rfl
 f99:=Tryz.func126.trans (congrArg some (by kernel_rfl))
 f105:=Tryz.func102.trans (congrArg some (by kernel_rfl))
 f165:=Tryz.func150.trans (congrArg some (by kernel_rfl))
 f166:=Tryz.func144.trans (congrArg some (by kernel_rfl))
 f169:=Tryz.func88.trans (congrArg some (by kernel_rfl))
 f170:=Tryz.func151.trans (congrArg some (by kernel_rfl))
 f206:=Tryz.func171.trans (congrArg some (by kernel_rfl))
 f212:=Tryz.func149.trans (congrArg some (by kernel_rfl))
 f240:=Tryz.func183.trans (congrArg some (by kernel_rfl))
 f241:=Tryz.func187.trans (congrArg some (by kernel_rfl))
 f263:=Tryz.func185.trans (congrArg some (by kernel_rfl))
 f264:=Tryz.func186.trans (congrArg some (by kernel_rfl))
 f276:=Tryz.func204.trans (congrArg some (by kernel_rfl))
 f277:=Tryz.func209.trans (congrArg some (by kernel_rfl))
 t0:=Tryz.underlying0
 a0:=Tryz.isAgg0
 z0:=Tryz.sizeOf0
 v0:=Tryz.zeroValue0
 t3:=Tryz.underlying3
 a3:=Tryz.isAgg3
 z3:=Tryz.sizeOf3
 v3:=Tryz.zeroValue3
 t4:=Tryz.underlying4
 a4:=Tryz.isAgg4
 z4:=Tryz.sizeOf4
 v4:=Tryz.zeroValue4
 t5:=Tryz.underlying5
 a5:=Tryz.isAgg5
 z5:=Tryz.sizeOf5
 v5:=Tryz.zeroValue5
 t9:=Tryz.underlying9
 a9:=Tryz.isAgg9
 z9:=Tryz.sizeOf9
 v9:=Tryz.zeroValue9
 t20:=Tryz.underlying20
 a20:=Tryz.isAgg20
 z20:=Tryz.sizeOf20
 v20:=Tryz.zeroValue20
 t37:=Tryz.underlying129
 a37:=Tryz.isAgg129
 z37:=Tryz.sizeOf129
 v37:=Tryz.zeroValue129
 t46:=Tryz.underlying28
 a46:=Tryz.isAgg28
 z46:=Tryz.sizeOf28
 v46:=Tryz.zeroValue28
 t51:=Tryz.underlying105
 a51:=Tryz.isAgg105
 z51:=Tryz.sizeOf105
 v51:=Tryz.zeroValue105
 t53:=Tryz.underlying22
 a53:=Tryz.isAgg22
 z53:=Tryz.sizeOf22
 v53:=Tryz.zeroValue22
 t70:=Tryz.underlying128
 a70:=Tryz.isAgg128
 z70:=Tryz.sizeOf128
 v70:=Tryz.zeroValue128
 t72:=Tryz.underlying131
 a72:=Tryz.isAgg131
 z72:=Tryz.sizeOf131
 v72:=Tryz.zeroValue131
 t75:=Tryz.underlying193
 a75:=Tryz.isAgg193
 z75:=Tryz.sizeOf193
 v75:=Tryz.zeroValue193
 t76:=Tryz.underlying194
 a76:=Tryz.isAgg194
 z76:=Tryz.sizeOf194
 v76:=Tryz.zeroValue194
 t109:=Tryz.underlying198
 a109:=Tryz.isAgg198
 z109:=Tryz.sizeOf198
 v109:=Tryz.zeroValue198
 t127:=Tryz.underlying191
 a127:=Tryz.isAgg191
 z127:=Tryz.sizeOf191
 v127:=Tryz.zeroValue191
 t146:=Tryz.underlying227
 a146:=Tryz.isAgg227
 z146:=Tryz.sizeOf227
 v146:=Tryz.zeroValue227
 t148:=Tryz.underlying229
 a148:=Tryz.isAgg229
 z148:=Tryz.sizeOf229
 v148:=Tryz.zeroValue229
 t164:=Tryz.underlying243
 a164:=Tryz.isAgg243
 z164:=Tryz.sizeOf243
 v164:=Tryz.zeroValue243 }
end Go.Proofs
end
section
namespace Go.Proofs
open Go.Shelf
def Tryz.idxB_ren:Go.Shelf.Ren:=⟨fun|137=>125|217=>170|266=>194|n=>n,fun|9=>9|5=>5|3=>3|n=>n,fun|n=>n⟩
theorem Tryz.idxB:Go.Proofs.Lays.n137 Tryz.prog Tryz.idxB_ren:={
 mixed:=by kernel_rfl
 f137:=Tryz.func125.trans (congrArg some (by kernel_rfl))
 f217:=Tryz.func170.trans (congrArg some (by kernel_rfl))
 f266:=Tryz.func194.trans (congrArg some (by kernel_rfl))
 t3:=Tryz.underlying3
 a3:=Tryz.isAgg3
 z3:=Tryz.sizeOf3
 v3:=Tryz.zeroValue3
 t5:=Tryz.underlying5
 a5:=Tryz.isAgg5
 z5:=Tryz.sizeOf5
 v5:=Tryz.zeroValue5
 t9:=Tryz.underlying9
 a9:=Tryz.isAgg9
 z9:=Tryz.sizeOf9
 v9:=Tryz.zeroValue9 }
def Tryz.itoa_ren:Go.Shelf.Ren:=⟨fun|171=>94|243=>145|246=>184|283=>205|284=>206|285=>207|286=>208|129=>122|317=>224|318=>225|319=>226|320=>227|337=>235|338=>236|n=>n,fun|3=>3|9=>9|2=>2|4=>4|171=>245|0=>0|53=>22|37=>129|5=>5|173=>247|212=>266|51=>105|20=>20|213=>267|46=>28|232=>282|233=>283|n=>n,fun|17=>4|18=>7|19=>8|n=>n⟩
theorem Tryz.itoa:Go.Proofs.LaysM.n171 Tryz.prog Tryz.itoa_ren:={
 mixed:=by kernel_rfl
 f129:=Tryz.func122.trans (congrArg some (by kernel_rfl))
 f171:=Tryz.func94.trans (congrArg some (by kernel_rfl))
 f243:=Tryz.func145.trans (congrArg some (by kernel_rfl))
 f246:=Tryz.func184.trans (congrArg some (by kernel_rfl))
 f283:=Tryz.func205.trans (congrArg some (by kernel_rfl))
 f284:=Tryz.func206.trans (congrArg some (by kernel_rfl))
 f285:=Tryz.func207.trans (congrArg some (by kernel_rfl))
 f286:=Tryz.func208.trans (congrArg some (by kernel_rfl))
 f317:=Tryz.func224.trans (congrArg some (by kernel_rfl))
 f318:=Tryz.func225.trans (congrArg some (by kernel_rfl))
 f319:=Tryz.func226.trans (congrArg some (by kernel_rfl))
 f320:=Tryz.func227.trans (congrArg some (by kernel_rfl))
 f337:=Tryz.func235.trans (congrArg some (by kernel_rfl))
 f338:=Tryz.func236.trans (congrArg some (by kernel_rfl))
 t0:=Tryz.underlying0
 a0:=Tryz.isAgg0
 z0:=Tryz.sizeOf0
 v0:=Tryz.zeroValue0
 t2:=Tryz.underlying2
 a2:=Tryz.isAgg2
 z2:=Tryz.sizeOf2
 v2:=Tryz.zeroValue2
 t3:=Tryz.underlying3
 a3:=Tryz.isAgg3
 z3:=Tryz.sizeOf3
 v3:=Tryz.zeroValue3
 t4:=Tryz.underlying4
 a4:=Tryz.isAgg4
 z4:=Tryz.sizeOf4
 v4:=Tryz.zeroValue4
 t5:=Tryz.underlying5
 a5:=Tryz.isAgg5
 z5:=Tryz.sizeOf5
 v5:=Tryz.zeroValue5
 t9:=Tryz.underlying9
 a9:=Tryz.isAgg9
 z9:=Tryz.sizeOf9
 v9:=Tryz.zeroValue9
 t20:=Tryz.underlying20
 a20:=Tryz.isAgg20
 z20:=Tryz.sizeOf20
 v20:=Tryz.zeroValue20
 t37:=Tryz.underlying129
 a37:=Tryz.isAgg129
 z37:=Tryz.sizeOf129
 v37:=Tryz.zeroValue129
 t46:=Tryz.underlying28
 a46:=Tryz.isAgg28
 z46:=Tryz.sizeOf28
 v46:=Tryz.zeroValue28
 t51:=Tryz.underlying105
 a51:=Tryz.isAgg105
 z51:=Tryz.sizeOf105
 v51:=Tryz.zeroValue105
 t53:=Tryz.underlying22
 a53:=Tryz.isAgg22
 z53:=Tryz.sizeOf22
 v53:=Tryz.zeroValue22
 t171:=Tryz.underlying245
 a171:=Tryz.isAgg245
 z171:=Tryz.sizeOf245
 v171:=Tryz.zeroValue245
 t173:=Tryz.underlying247
 a173:=Tryz.isAgg247
 z173:=Tryz.sizeOf247
 v173:=Tryz.zeroValue247
 t212:=Tryz.underlying266
 a212:=Tryz.isAgg266
 z212:=Tryz.sizeOf266
 v212:=Tryz.zeroValue266
 t213:=Tryz.underlying267
 a213:=Tryz.isAgg267
 z213:=Tryz.sizeOf267
 t232:=Tryz.underlying282
 a232:=Tryz.isAgg282
 z232:=Tryz.sizeOf282
 v232:=Tryz.zeroValue282
 t233:=Tryz.underlying283
 a233:=Tryz.isAgg283
 z233:=Tryz.sizeOf283
 v233:=Tryz.zeroValue283
 g17:=by kernel_rfl
 g18:=by kernel_rfl
 g19:=by kernel_rfl
 i0:=by kernel_rfl
 i2:=by kernel_rfl
 i3:=by kernel_rfl
 i4:=by kernel_rfl
 i5:=by kernel_rfl
 i9:=by kernel_rfl
 i20:=by kernel_rfl
 i37:=by kernel_rfl
 i46:=by kernel_rfl
 i51:=by kernel_rfl
 i53:=by kernel_rfl
 i171:=by kernel_rfl
 i173:=by kernel_rfl
 i212:=by kernel_rfl
 i232:=by kernel_rfl
 i233:=by kernel_rfl
 m17:=by kernel_rfl
 m18:=by kernel_rfl
 m19:=by kernel_rfl }
end Go.Proofs
end
section
namespace Su
noncomputable section
open Go Go.Proofs Fly
abbrev OkT(f:Nat)(p:PrimD):Prop:=Ok1 Tryz.prog tb qme.sound f p
abbrev PkT(q:jl):Prop:=JC Tryz.prog tb qme.sound q
theorem qmi(c:UInt8):∀l,Lib.indexByte l c=qeZ c l
 | []=>rfl
 | b::l=>by
  unfold Lib.indexByte qeZ;rw[qmi c l];cases b == c with
  | true=>rfl
  | false=>
   simp only[zo];by_cases h:qeZ c l = -1
   · simp[h]
   · simp[h]
def qqr:PrimD:=prim (dc cS (d1 (cI .u8))) (d1 (cI .i64)) qqn
theorem qk5{V:qc}{w:World}(hs:qaS V w):Holds ⟨keys [],w,V,fun _ _ _=>False⟩ V [] w :=
 ⟨Ext.refl _ _,hs,(fun p hp=>by cases hp),(fun p hp=>by cases hp),.nil,Sub.refl _,fun r h0 hr=>absurd h0 hr⟩
theorem qwX:OkT 125 qqr:=by
 refine⟨by kernel_rfl,fun xs y h V vs _ hr=>?_,fun j hj=>nomatch hj⟩
 obtain⟨p,h1,h2⟩:=osm (show((dc cS (d1 (cI .u8))).dec xs).bind qqn=some y from h)
 have hr2:=(dc cS (d1 (cI .u8))).rep h1 hr
 have hg:=(dc cS (d1 (cI .u8))).rng hr2
 obtain⟨s,c⟩:=p;have:=soi h2;subst this
 cases hr2 with|cons k1 k2=>
 cases k2 with|cons k2 k3=>
 cases k3 with|nil=>
 cases k1 with|s k1=>
 cases k2 with|s k2=>
 intro w hs _ _ _;refine(Any.strings_IndexByte Tryz.idxB s c w).mono ?_
 rintro e w' ⟨rfl,rfl⟩
 refine⟨_,V,[],rfl,qk5 hs,[_],.cons (.s (v:=.int .i64 (qeZ (UInt8.ofNat c.toNat) (lb s))) ?_) .nil,?_⟩
 · have hl:s.size≤maxLen:=hg.1
   have:=qmf (UInt8.ofNat c.toNat) (lb s)
   have e:(lb s).length=s.size:=by unfold lb;rw[Ks];rfl
   rw[Jf]at hl;exact QX.2 ⟨by omega,by omega⟩
 · rw[qmi];rfl
theorem qqs:∀n,Lib.decDigits n=dg n:=by
 intro n;induction n using Nat.strongRecOn with
 | ind n ih=>
  unfold Lib.decDigits;by_cases h:n<10
  · rw[dif_pos h,ZD h]
  · rw[dif_neg h,qb1 (by omega),ih (n / 10) (by omega)]
theorem qqt(n:Int):Lib.itoa n=itT n:=by
 unfold Lib.itoa itT;rw[qqs,qqs];by_cases h:n<0
 · rw[z6 h,zh h];rfl
 · rw[zQ h,zq h];rfl
def qvq:PrimD:=prim (d1 (cI .i64)) (d1 cS) qgx
theorem qjv{V:qc}:∀ {l:List Nat} {vs:List Value},RepA V (l.map fun z=>T.s (.int .u64 ((z:Nat):Int))) vs→vs=l.map fun z=>Value.int .u64 ((z:Nat):Int)
 | [],_,.nil=>rfl
 | z::l,_,.cons h h'=>by
  cases h with|s h=>
  rw[KH,qjv h']
theorem qqu{V:qc}{w:World}(hg:GOK tb V)(hs:qaS V w):Lib.TabIs Tryz.prog w "internal/strconv.uint64pow10" .u64 Lib.pow10Tab:=by
 obtain⟨h1,arr,e,f,h2,h3⟩:=hg.1 4 gT4 rfl
 unfold Lib.TabIs World.var?
 rw[show Tryz.prog.globalNamed "internal/strconv.uint64pow10"=some 4 by kernel_rfl,zm];show(match w.heap[4]? with|some (.cells cs _ _)=>some cs|_=>none)=_
 rw[hs _ _ h2];have hv:arr.toList=[1,10,100,1000,10000,100000,1000000,10000000,100000000,1000000000,10000000000,100000000000,1000000000000,10000000000000,100000000000000,1000000000000000,10000000000000000,100000000000000000,1000000000000000000,10000000000000000000].map fun z:Nat=>Value.int .u64 ((z:Nat):Int):=by
  cases h1 with
  | pt k1 k2 k3=>
   rename_i vs;have hvs:=qjv (l:=[1,10,100,1000,10000,100000,1000000,10000000,100000000,1000000000,10000000000,100000000000,1000000000000,10000000000000,100000000000000,1000000000000000,10000000000000000,100000000000000000,1000000000000000000,10000000000000000000]) k1
   rw[← hvs];have hl:vs.length=20:=by rw[hvs];rfl
   have hsz:arr.toList.length=20:=by rw[Ks];exact h3
   refine WS fun j=>?_
   by_cases hj:j<20
   · obtain⟨arr',e',f',q1,q2⟩:=k3 j vs[j] (zA (by omega))
     rw[h2]at q1;simp only[za,Obj.cells.injEq]at q1;obtain⟨rfl,_⟩:=q1;rw[zA (show j<vs.length by omega),← q2,zt];simp
   · rw[Kk (by omega),Kk (by omega)]
 have:arr=(Lib.pow10Tab.map fun z=>Value.int .u64 z).toArray:=by
  apply Array.toList_inj.1
  rw[hv];rfl
 rw[this]
theorem qmj{V:qc}{w:World}(hs:qaS V w)(k:Nat)(os:Array Obj):Holds ⟨keys [],w,V,fun _ _ _=>False⟩ V [] (Go.Sort.grow (w.drewN k) os):=by
 have hh:(Go.Sort.grow (w.drewN k) os).heap=w.heap++os:=rfl
 refine⟨⟨rfl,rfl,rfl,by rw[hh];simp,fun i hi _=>?_⟩,fun r o hr=>?_,(fun p hp=>by cases hp),(fun p hp=>by cases hp),.nil,Sub.refl _,fun r h0 hr=>absurd h0 hr⟩
 · rw[hh,Vr hi]
 · have:=hs r o hr
   rw[hh,Vr (zX.1 this).1];exact this
theorem qyI:OkT 94 qvq:=by
 refine⟨by kernel_rfl,fun xs y h V vs hgk hr=>?_,fun j hj=>nomatch hj⟩
 obtain⟨n,h1,h2⟩:=osm (show((d1 (cI .i64)).dec xs).bind qgx=some y from h)
 have hr2:=(d1 (cI .i64)).rep h1 hr
 obtain⟨h3,h4⟩:=qL h2;have:=soi h4;subst this
 simp only[zp,zY]at h3;cases hr2 with|cons k1 k2=>
 cases k2 with|nil=>
 cases k1 with|s k1=>
 intro w hs _ _ _;refine(Any.strconv_Itoa Tryz.itoa n (by omega) (by omega) w (qqu hgk hs)).mono ?_
 rintro e w' ⟨rfl,k,os,rfl⟩
 refine⟨_,V,[],rfl,qmj hs k os,[_],.cons (.s (v:=.string (bs (itT n))) ?_) .nil,?_⟩
 · refine zN ?_
   show(bs (itT n)).size≤maxLen
   have:=qhS h3.1 h3.2
   rw[jB,Jf];omega
 · rw[qqt];rfl
end
end Su
end
section
namespace Su
open Go Fly
abbrev Stp(S:Type):Type:=S→Option (S ⊕ S)
noncomputable section
variable {P:Program} {B:Bts}
theorem YA{h:BtsOK P B}(hc:B.fns.mp (fun f fn=>match fn.body with|some c=>okC fn.ntmps B.tbl f c|none=>true)=B.fns.mp fun _ _=>true){pr:jl}(hpr:JC P B.tbl h.sound pr)
 {f:Nat} {α ρ:Type} {d:Dec α} {e:Dec ρ} {g:α→Option ρ} (X:Nat→α→Option ρ) (hgo:(B.go.get f).isSome=true) (heq:∀fu a,qiE B.tbl pr (shN B.tbl pr fu 9) fu f (d.enc a) e.dec=X fu a)
 (ok:∀a y,d.good a→g a=some y→∃n,X n a=some y):Ok1 P B.tbl h.sound f (prim d e g) :=
 qdH hc hpr hgo fun a y hg h=>by
  obtain⟨n,hn⟩:=ok a y hg h;exact⟨n,9,n,(heq n a).trans hn⟩
theorem Q0{h:BtsOK P B}(hc:B.fns.mp (fun f fn=>match fn.body with|some c=>okC fn.ntmps B.tbl f c|none=>true)=B.fns.mp fun _ _=>true){pr:jl}(hpr:JC P B.tbl h.sound pr)
 {f:Nat} {α ρ:Type} {d:Dec α} {e:Dec ρ} {g:α→Option ρ} (X:α→Option ρ) (hgo:(B.go.get f).isSome=true) (heq:∀fu a,qiE B.tbl pr (shN B.tbl pr fu 9) fu f (d.enc a) e.dec=X a)
 (ok:∀a y,d.good a→g a=some y→X a=some y):Ok1 P B.tbl h.sound f (prim d e g) :=
 qdH hc hpr hgo fun a y hg h=>⟨0,9,0,(heq 0 a).trans (ok a y hg h)⟩
theorem fnL{h:BtsOK P B}(hc:B.fns.mp (fun f fn=>match fn.body with|some c=>okC fn.ntmps B.tbl f c|none=>true)=B.fns.mp fun _ _=>true){pr:jl}(hpr:JC P B.tbl h.sound pr)
 {f:Nat} {α ρ:Type} {d:Dec α} {e:Dec ρ} {g:α→Option ρ} (hgo:(B.go.get f).isSome=true) (heq:∀fu a,qiE B.tbl pr (shN B.tbl pr fu 9) fu f (d.enc a) e.dec=g a):Ok1 P B.tbl h.sound f (prim d e g) :=
 qdH hc hpr hgo fun a y _ h=>⟨0,9,0,(heq 0 a).trans h⟩
end
end Su
end
section
namespace Su
open Go Fly
noncomputable section
def qk6  (f:Int):Option (Bool×Int×Int) :=
 some ((decide ((Int.fdiv f (2^63))=1)),(IntKind.wrap .i64 (Fly.jj Go.BinOp.and .u64 (Int.fdiv f (2^52)) 2047)),(Fly.jj Go.BinOp.and .u64 f 4503599627370495))
def qqv  (neg:Bool)(exp:Int)(frac:Int):Option (Int×Int) :=
 (bif(decide (exp<0))then
 some ((0:Int),(1:Int))
 else
  (bif(decide (2047<exp))then
  some ((0:Int),(1:Int))
 else
  (bif(decide (4503599627370495<frac))then
  some ((0:Int),(1:Int))
 else
  (bif neg then
  some ((Fly.jj Go.BinOp.or .u64 (Fly.jj Go.BinOp.or .u64 (IntKind.wrap .u64 ((IntKind.wrap .u64 exp)*(2^52))) frac) 9223372036854775808),(0:Int))
 else
  some ((Fly.jj Go.BinOp.or .u64 (IntKind.wrap .u64 ((IntKind.wrap .u64 exp)*(2^52))) frac),(0:Int))))))
def qjw(f:Int):Option (Bool×Int×Int):=some (bS f.toNat,((bK f.toNat / 4503599627370496:Nat):Int),((f.toNat % 4503599627370496:Nat):Int))
theorem fd63(f:Nat)(h:f<18446744073709551616):decide (Int.fdiv (f:Int) (2^63)=1)=bS f:=by
 rw[qbe];refine bB ?_
 rw[qwN];constructor
 · intro h;have:f / 2^63=1:=by omega
   rw[this];rfl
 · intro h;omega
theorem qyJ(f:Nat)(h:f<18446744073709551616):IntKind.i64.wrap (jj .and .u64 (Int.fdiv (f:Int) (2^52)) 2047)=((bK f / 4503599627370496:Nat):Int):=by
 have h1:=qdL (f / 2^52) 2047 11 rfl (by omega) (by omega)
 rw[qbe,show(2047:Int)=((2047:Nat):Int) from rfl,h1];unfold bK;rw[w64 (by omega) (by omega)]
 congr 1;omega
theorem qwY(f:Nat)(h:f<18446744073709551616):jj .and .u64 (f:Int) 4503599627370495=((f % 4503599627370496:Nat):Int):=qdL f 4503599627370495 52 rfl h (by omega)
theorem qn8(f:Int)(y:Bool×Int×Int)(hg:(d1 (cI .u64)).good f)(h:qjw f=some y):qk6 f=some y:=by
 obtain⟨n,rfl,hn⟩:=Yy hg;have:=soi h;subst this
 unfold qk6;rw[fd63 n hn,qyJ n hn,qwY n hn,zn]
def Zq(p:Bool×Int×Int):Option (Int×Int):=bif decide (0≤p.2.1)&&decide (p.2.1≤2047)&&decide (p.2.2≤4503599627370495)then some (((sgN p.1+4503599627370496*p.2.1.toNat+p.2.2.toNat:Nat):Int),0)else some (0,1)
theorem qqw(p:Bool×Int×Int)(y:Int×Int)(hg:(dc cB (dc (cI .i64) (d1 (cI .u64)))).good p)(h:Zq p=some y):qqv p.1 p.2.1 p.2.2=some y:=by
 obtain⟨neg,e,fr⟩:=p;obtain⟨_,he,hf⟩:=hg;have he:=QX.1 he;obtain⟨F,rfl,hF⟩:=Yy hf;unfold Zq at h;unfold qqv;simp only[]at h ⊢;by_cases h1:e<0
 · rw[zq (show¬(0:Int)≤e by omega)]at h
   rw[zh h1];exact h
 · rw[zh (show(0:Int)≤e by omega)]at h
   rw[zq h1,zo];by_cases h2:2047<e
   · rw[zq (show¬e≤2047 by omega)]at h
     rw[zh h2];exact h
   · rw[zh (show e≤2047 by omega)]at h
     rw[zq h2,zo];by_cases h3:(4503599627370495:Int)<(F:Int)
     · rw[zq (show¬(F:Int)≤4503599627370495 by omega)]at h
       rw[zh h3];exact h
     · rw[zh (show(F:Int)≤4503599627370495 by omega)]at h
       rw[zq h3,zo];obtain⟨E,rfl⟩:∃E:Nat,e=(E:Int):=⟨e.toNat,by omega⟩
       have e1:IntKind.u64.wrap (E:Int)=(E:Int):=yd (by omega) (by omega)
       have e2:IntKind.u64.wrap ((E:Int)*2^52)=((E*2^52:Nat):Int):=by
        rw[show(2:Int)^52=((2^52:Nat):Int) from rfl,← Vw];exact yd (by omega) (by omega)
       have e3:jj .or .u64 ((E*2^52:Nat):Int) (F:Int)=((E*2^52+F:Nat):Int):=by
        rw[qaA _ _ (by omega) hF,qdK (by omega)]
       rw[e1,e2,e3];have h:=soi h;subst h;cases neg with
       | true=>
        rw[zg,qtQ _ (by omega)];simp[sgN];omega
       | false=>simp[sgN];omega
end
end Su
end
section
namespace Su
open Go Fly
noncomputable section
def qk7  (f:Int):Option Int :=
 (bif(decide (((((bK f.toNat) / 4503599627370496):Nat):Int)=2047))then
 (bif(decide ((((f.toNat % 4503599627370496):Nat):Int)=0))then
 some 3
 else
  (bif(decide (((((bK f.toNat) / 4503599627370496):Nat):Int)=2047))then
  some 4
 else
  (bif(decide (((((bK f.toNat) / 4503599627370496):Nat):Int)=0))then
  (bif(decide ((((f.toNat % 4503599627370496):Nat):Int)=0))then
  some 0
 else
  (bif(decide (((((bK f.toNat) / 4503599627370496):Nat):Int)=0))then
  some 1
 else
  some 2))
 else
  (bif(decide (((((bK f.toNat) / 4503599627370496):Nat):Int)=0))then
  some 1
 else
  some 2))))
 else
  (bif(decide (((((bK f.toNat) / 4503599627370496):Nat):Int)=2047))then
  some 4
 else
  (bif(decide (((((bK f.toNat) / 4503599627370496):Nat):Int)=0))then
  (bif(decide ((((f.toNat % 4503599627370496):Nat):Int)=0))then
  some 0
 else
  (bif(decide (((((bK f.toNat) / 4503599627370496):Nat):Int)=0))then
  some 1
 else
  some 2))
 else
  (bif(decide (((((bK f.toNat) / 4503599627370496):Nat):Int)=0))then
  some 1
 else
  some 2))))
def pInf  (neg:Bool):Option Int :=
 some (((((sgN neg)+(4503599627370496*(Int.toNat 2047)))+(Int.toNat 0)):Nat):Int)
def qjx(f:Int):Option Int:=some (yw (bK f.toNat):Int)
theorem qn9(f:Int)(y:Int)(hg:(d1 (cI .u64)).good f)(h:qjx f=some y):qk7 f=some y:=by
 obtain⟨n,rfl,hn⟩:=Yy hg;have:=soi h;subst this
 unfold qk7;have hk:bK n=bK n / 4503599627370496*4503599627370496+n % 4503599627370496:=by unfold bK;omega
 have he:bK n / 4503599627370496≤2047:=by have:=qqf n;omega
 have hf:n % 4503599627370496<4503599627370496:=Vd _ (by decide)
 have hc:yw (bK n)=_:=(congrArg yw hk).trans (qtR he hf)
 rw[zn,hc];generalize bK n / 4503599627370496=e at *
 generalize n % 4503599627370496=f at *
 rw[show(2047:Int)=((2047:Nat):Int) from rfl,show(0:Int)=((0:Nat):Int) from rfl];simp only[qhO,Y1];by_cases h1:e=2047
 · by_cases h2:f=0 <;> simp[h1,h2]
 · by_cases h3:e=0
   · by_cases h2:f=0 <;> simp[h3,h2]
   · simp[h1,h3]
def qqx(neg:Bool):Option Int:=some ((sgN neg+9218868437227405312:Nat):Int)
theorem qtZ(neg:Bool)(y:Int)(hg:(d1 cB).good neg)(h:qqx neg=some y):pInf neg=some y:=by
 have:=soi h;subst this
 cases neg <;> rfl
end
end Su
end
section
namespace Su
open Go Fly
noncomputable section
def qk8  (f:Int):Option (Int×Int) :=
 (bif(decide ((((yw (bK f.toNat)):Nat):Int)=2))then
 some ((Fly.jj Go.BinOp.or .u64 4503599627370496 (((f.toNat % 4503599627370496):Nat):Int)),(IntKind.wrap .i64 (((((bK f.toNat) / 4503599627370496):Nat):Int)-1075)))
 else
  (bif(decide ((((yw (bK f.toNat)):Nat):Int)=1))then
  some ((((f.toNat % 4503599627370496):Nat):Int),(-1074))
 else
  some ((0:Int),(0:Int))))
def qwZ  (f:Int):Option Bool :=
 some (decide ((((yw (bK f.toNat)):Nat):Int)=4))
def qjy(f:Int):Option (Int×Int):=some ((spM (bK f.toNat):Int),spE (bK f.toNat))
theorem qoa(f:Int)(y:Int×Int)(hg:(d1 (cI .u64)).good f)(h:qjy f=some y):qk8 f=some y:=by
 obtain⟨n,rfl,hn⟩:=Yy hg;have:=soi h;subst this
 unfold qk8;rw[zn];have hk:bK n % 4503599627370496=n % 4503599627370496:=by unfold bK;omega
 have hl:=qqf n;rw[← hk];generalize bK n=k at *
 have h2:decide (((yw k:Nat):Int)=2)=decide (4503599627370496≤k∧k≤9218868437227405311):=by
  rw[show(2:Int)=((2:Nat):Int) from rfl,qqg,Z3]
  (repeat' split) <;> simp <;> omega
 have h1:decide (((yw k:Nat):Int)=1)=decide (0<k∧k<4503599627370496):=by
  rw[show(1:Int)=((1:Nat):Int) from rfl,qqg,Z3]
  (repeat' split) <;> simp <;> omega
 rw[h2,h1];unfold spM spE;by_cases c2:4503599627370496≤k∧k≤9218868437227405311
 · have hf:qfL k=true:=Z2.2 (by omega)
   have e1:jj .or .u64 4503599627370496 ((k % 4503599627370496:Nat):Int)=((kM k:Nat):Int):=by
    have:=qaA 4503599627370496 (k % 4503599627370496) (by omega) (by omega)
    rw[show((4503599627370496:Nat):Int)=4503599627370496 from rfl]at this;rw[this];have h3:=qdK (x:=k % 4503599627370496) (y:=1) (r:=52) (by omega)
    rw[show(1*2^52:Nat)=4503599627370496 from rfl]at h3;rw[h3];unfold kM;rw[zQ (by omega)];omega
   rw[zh c2,zg,e1,hf,w64 (by omega) (by omega),beq_dec,zq (by omega)];simp only[zg,VD,Kt];unfold kE
   congr 2;omega
 · rw[zq c2,zo]
   by_cases c1:0<k∧k<4503599627370496
   · have hf:qfL k=true:=Z2.2 (by omega)
     rw[zh c1,zg,hf,beq_dec,zq (by omega)];simp only[zg,VD,Kt];unfold kE kM;rw[z6 (by omega),show k / 4503599627370496=0 by omega];rfl
   · rw[zq c1,zo]
     by_cases c0:k=0
     · subst c0;rfl
     · have hf:qfL k=false:=qqe.2 (by omega)
       rw[hf];rfl
def qqy(f:Int):Option Bool:=some (qfK (bK f.toNat))
theorem qt0(f:Int)(y:Bool)(hg:(d1 (cI .u64)).good f)(h:qqy f=some y):qwZ f=some y:=by
 have:=soi h;subst this
 unfold qwZ;rw[qtS]
end
end Su
end
section
namespace Su
open Go Fly
noncomputable section
def qw0  (f:Int):Option Int :=
 (bif(qfK (bK f.toNat))then
 some f
 else
  some (Fly.jj Go.BinOp.andNot .u64 f 9223372036854775808))
def qqz(f:Int):Option Int:=some (qbX f.toNat:Int)
theorem qt1(f:Int)(y:Int)(hg:(d1 (cI .u64)).good f)(h:qqz f=some y):qw0 f=some y:=by
 obtain⟨n,rfl,hn⟩:=Yy hg;have:=soi h;subst this
 unfold qw0 qbX;rw[zn,qnW n hn];cases qfK (bK n) <;> rfl
end
end Su
end
section
namespace Su
open Go Fly
noncomputable section
def At  (a:(List Int))(i:Int):Option Int :=
 (bif(decide (i<(List.length a:Int)))then
 (idx a i).bind fun x0=>
 some (IntKind.wrap .u64 x0)
 else
  some 0)
end
end Su
end
