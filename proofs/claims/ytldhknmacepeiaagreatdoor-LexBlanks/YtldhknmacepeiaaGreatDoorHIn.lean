/-
  The law and its row.
-/
import Derived.Test.YtldhknmacepeiaaGreatDoorHTk
import Derived.Test.YtldhknmacepeiaaGreatDoorNX03
import Derived.Test.YtldhknmacepeiaaGreatDoorSuTb
import Derived.Test.YtldhknmacepeiaaGreatDoorNT18
import Derived.Test.YtldhknmacepeiaaGreatDoorRlb
import Derived.Test.YtldhknmacepeiaaGreatDoorSuP0
import Derived.ChangeSame
import Derived.ChangeOld
import Derived.DataReads
import Derived.Test.YtldhknmacepeiaaGreatDoorSuE
import Derived.RowKit
import Derived.Test.YtldhknmacepeiaaGreatDoorFlyM
set_option linter.unusedVariables false
set_option linter.unusedSimpArgs false
set_option maxRecDepth 10000
section
namespace Fly
open Go Go.Proofs Su
set_option maxRecDepth 10000
section
variable {P:Program} {n:Nat} {X:Cx} {L:Lo} {V:qc} {G:Own} {Q:Value→qc→Own→Prop}
variable {ty:TypeId} {pos:String} {af:Array Edge} {gd:Option (Nat×Bool)} {ds:Option Tmp}
theorem ZA{t u:TypeId}{x y:Operand}{p q:ByteArray}{b:Bool}(hx:ev L x=some (.string p))(hy:ev L y=some (.string q))(h:(!decide (p=q))=b)(k:Q (.bool b) V G):Opr P n X L V G ⟨ds,.binOp .neq t x y u,ty,pos,af,gd⟩ Q :=
 Yz hx hy (by rw[h];exact k)
theorem qdf{t u:TypeId}{x y:Operand}{κ:IntKind}{p q:Int}{b:Bool}(hx:ev L x=some (.int κ p))(hy:ev L y=some (.int κ q))(h:decide (p≤q)=b)(k:Q (.bool b) V G):Opr P n X L V G ⟨ds,.binOp .leq t x y u,ty,pos,af,gd⟩ Q :=
 qaj hx hy (by rw[h];exact k)
theorem qiQ(T:Tabs P){t u:TypeId}{x:Operand}{κ κ' κ'':IntKind}{p q:Int}(hx:ev L x=some (.int κ p))(ht:T.ik t=some κ'')(hu:T.ik u=some κ')(h:κ'.wrap p=q)(k:Q (.int κ' q) V G) :
 Opr P n X L V G ⟨ds,.convert t u x,ty,pos,af,gd⟩ Q:=qx T hx ht hu (by rw[h];exact k)
end
theorem qiR{S:List UInt8}{p:Nat}{c:UInt8}(h:S[p]?=some c):(bs S).get! p=c:=by
 obtain⟨hp,e⟩:=zr.1 h
 show Eq ((S.toArray)[p]!) c
 rw[getElem!_pos S.toArray p (by simpa using hp)];simpa using e
theorem qsb{S:List UInt8}{p:Nat}{c:UInt8}(h:S[p]?=some c)(hc:c.toNat<128):Utf8.decode (bs S) p=(c.toNat,1):=by
 unfold Utf8.decode;simp only[KA,qiR h];rw[zA hc]
theorem qy3{S:List UInt8}{p:Nat}{c:UInt8}(h:S[p]?=some c)(hc : ¬c.toNat<128):127<(Utf8.decode (bs S) p).1:=by
 unfold Utf8.decode Utf8.runeError;simp only[KA,qiR h];rw[zw hc]
 repeat' split
 all_goals first
  | (show 127<65533;decide)
  | (dsimp only;(try simp only[zn,zO,ge_iff_le]at *);omega)
end Fly
namespace Su
open Go Go.Proofs Fly
theorem qiS{V:qc}(hgk:GOK tb V)(c:UInt8):jA Tryz.prog 76 #[.int .u8 ((c.toNat:Nat):Int)] V [] fun v _ G=>v = .bool (Qt c)∧G=[]:=by
 have hc:=c.toNat_lt;refine qr2 qr9 hgk (xs:=[.s (.int .u8 ((c.toNat:Nat):Int))]) (vs:=[_]) (a:=((c.toNat:Nat):Int)) ?_ (qz8 c) (.cons (.s (qd4.2 ⟨by omega,by omega⟩)) .nil) ?_
 · rfl
 · intro V' rvs m
   cases m with | cons m1 m=>cases m with | nil=>cases m1 with | s _=>exact⟨rfl,rfl⟩
def nmB(S:List UInt8):Bool:=S.all Qt&&(bif S.isEmpty then false else(Nat.ble S.length 32&&((S[0]?).any j9&&!YI S)))
end Su
namespace Fly
open Go Go.Proofs Su
set_option maxRecDepth 10000
attribute [local irreducible] WC WE WR Opr St Go.Calls qhe qiY qaL Rel jA qhy qi2 Owe One qdi Go.CallsD
theorem qsc{V:qc}(hgk:GOK Su.tb V){S:List UInt8}(hS:S.length≤1000000){Q:Value→qc→Own→Prop}(hQ:∀V',Q (.bool (nmB S)) V' []):jA Tryz.prog 35 #[.string (bs S)] V [] Q:=by
 refine jg (args:=[_]) Tryz.func35 rfl Tryz.ntmps35 rfl ?_
 intro X w hM hb hw hV0 hR;dsimp only[Qu,Nat.zero_add,Nat.reduceAdd]
 (repeat' (first | refine js ?_ | refine qA ?_ | refine jt ?_ | refine q9 ?_ | refine qV ?_ | refine ji ?_ | refine jC ?_ | refine jj ?_ | refine qp ?_ | refine qo ?_ | refine qy rfl ?_ | refine qw ?_ | refine jx ?_ | ((first | refine qW rfl ?_ | refine jk ?_ | refine yn rfl rfl rfl ?_);(first | (apply qnf;(· exact rfl);(· exact J7);intro b) | refine qY rfl ?_ | refine qB rfl ?_ | refine qz rfl rfl ?_ | refine jD rfl ?_ | refine qG rfl rfl ?_ | refine qH rfl rfl ?_ | refine jc rfl rfl (by omega) (by omega) ?_ | refine qk tb rfl rfl ?_ | refine qx tb rfl rfl rfl ?_ | (apply qZ tb rfl rfl;(· (first | (refine At.own (?_);repeat (first | exact Has.here | refine Has.there ?_)) | exact At.seen (by assumption)));(· exact rfl)) | (apply qX tb rfl rfl;(· (first | (refine At.own (?_);repeat (first | exact Has.here | refine Has.there ?_)) | exact At.seen (by assumption)));(· exact rfl)) | (apply qI tb rfl rfl rfl rfl rfl;(· (repeat (first | exact Upd.here | apply Upd.there)));(· exact rfl)) | (apply qL tb rfl rfl rfl rfl rfl;(· (repeat (first | exact Upd.here | apply Upd.there)));(· exact rfl)) | (apply qT tb (by kernel_rfl) rfl (rfl:tb.fo _ 0=_);(· (repeat (first | exact Fill.nil | (apply Fill.cons;(· exact rfl);(· exact rfl);(· exact rfl);(· exact rfl);(· exact rfl)))))) | (refine ja rfl ?_;intro b) | (refine jf rfl rfl ?_;intro b) | (refine qS tb rfl ?_;intro b))) | refine QH rfl rfl rfl rfl ?_ | refine qE rfl ?_ | refine qF rfl ?_))
 refine qnC (fun L' V' G' μ=>∃p:Nat,p≤S.length∧μ=S.length-p∧Sub V V'∧G'=[(b,.stringIter (bs S) p)]∧L'=[(0,.string (bs S)),(2,.bool false),(6,.pointer (some ⟨b,0,none⟩))]∧∀j c,j<p→S[j]?=some c→Qt c=true) (G0:=[(b,.stringIter (bs S) 0)]) (m0:=S.length) (by repeat (first | exact SubL.nil | refine SubL.cons rfl ?_)) (VK _) ⟨0,by omega,by omega,Sub.refl _,rfl,rfl,fun j c hj=>by omega⟩ ?_
 rintro L' V' G' μ ⟨p,hp,hμ,hVs,hGe,hLe,hall⟩
 subst hGe hLe
 have hgk':=GOK.mono hgk hVs;by_cases hlt:p<S.length
 · obtain⟨c,hc⟩:∃c,S[p]?=some c:=⟨_,zt hlt⟩
   have hps:p<(bs S).size:=by rw[qe];exact hlt
   have hmem:c∈S:=Kv hc
   cases hin:Qt c with
   | true=>
    have h128:c.toNat<128:=by
     unfold Qt j9 isD at hin;simp only[VM,zn,VH,Nat.beq_eq]at hin;omega
    have hd:=qsb hc h128;have hw8:IntKind.u8.wrap ((c.toNat:Nat):Int)=((c.toNat:Nat):Int):=QD (qd4.2 ⟨by omega,by omega⟩)
    (repeat' (first | refine js ?_ | refine qA ?_ | refine jt ?_ | refine q9 ?_ | refine qV ?_ | refine ji ?_ | refine jC ?_ | refine jj ?_ | refine qp ?_ | refine qo ?_ | refine qy rfl ?_ | refine qw ?_ | refine jx ?_ | ((first | refine qW rfl ?_ | refine jk ?_ | refine yn rfl rfl rfl ?_);(first | (apply qeA;(· exact rfl);(· exact Upd.here);(· exact hps);(· exact hd)) | (apply Jl;(· exact rfl);(· exact rfl);(· omega)) | (apply qiQ tb;(· exact rfl);(· exact rfl);(· exact rfl);(· exact hw8)) | (refine qQ (first:=[]) (cap:=[]) tb rfl rfl rfl (qiS hgk' c) (zN _) ?_;rintro _ V1 _ hs1 ⟨rfl,rfl⟩;dsimp only[List.nil_append];rw[hin]) | refine qY rfl ?_ | refine qB rfl ?_ | refine qz rfl rfl ?_ | refine jD rfl ?_ | refine qG rfl rfl ?_ | refine qH rfl rfl ?_ | refine jc rfl rfl (by omega) (by omega) ?_ | refine qk tb rfl rfl ?_ | refine qx tb rfl rfl rfl ?_ | (apply qZ tb rfl rfl;(· (first | (refine At.own (?_);repeat (first | exact Has.here | refine Has.there ?_)) | exact At.seen (by assumption)));(· exact rfl)) | (apply qX tb rfl rfl;(· (first | (refine At.own (?_);repeat (first | exact Has.here | refine Has.there ?_)) | exact At.seen (by assumption)));(· exact rfl)) | (apply qI tb rfl rfl rfl rfl rfl;(· (repeat (first | exact Upd.here | apply Upd.there)));(· exact rfl)) | (apply qL tb rfl rfl rfl rfl rfl;(· (repeat (first | exact Upd.here | apply Upd.there)));(· exact rfl)) | (apply qT tb (by kernel_rfl) rfl (rfl:tb.fo _ 0=_);(· (repeat (first | exact Fill.nil | (apply Fill.cons;(· exact rfl);(· exact rfl);(· exact rfl);(· exact rfl);(· exact rfl)))))) | (refine ja rfl ?_;intro b) | (refine jf rfl rfl ?_;intro b) | (refine qS tb rfl ?_;intro b))) | refine QH rfl rfl rfl rfl ?_ | refine qE rfl ?_ | refine qF rfl ?_))
    exact qnD (by repeat (first | exact SubL.nil | refine SubL.cons rfl ?_)) (VK _) ⟨p+1,by omega,rfl,hVs.trans hs1,rfl,rfl,fun j d hj hdj=>by
     by_cases h:j=p
     · subst h;rw[hc]at hdj;cases hdj;exact hin
     · exact hall j d (by omega) hdj⟩ (by omega)
   | false=>
    have hf:∀V',Q (.bool false) V' []:=fun V'=>by
     have:nmB S=false:=by
      unfold nmB;have:S.all Qt=false:=by
       cases ha:S.all Qt with
       | false=>rfl
       | true=>rw[Ke.1 ha c hmem]at hin;cases hin
      rw[this];rfl
     have h:=hQ V'
     rwa [this]at h
    by_cases h128:c.toNat<128
    · have hd:=qsb hc h128
      have hw8:IntKind.u8.wrap ((c.toNat:Nat):Int)=((c.toNat:Nat):Int):=QD (qd4.2 ⟨by omega,by omega⟩)
      (repeat' (first | refine js ?_ | refine qA ?_ | refine jt ?_ | refine q9 ?_ | refine qV ?_ | refine ji ?_ | refine jC ?_ | refine jj ?_ | refine qp ?_ | refine qo ?_ | refine qy rfl ?_ | refine qw ?_ | refine jx ?_ | ((first | refine qW rfl ?_ | refine jk ?_ | refine yn rfl rfl rfl ?_);(first | (apply qeA;(· exact rfl);(· exact Upd.here);(· exact hps);(· exact hd)) | (apply Jl;(· exact rfl);(· exact rfl);(· omega)) | (apply qiQ tb;(· exact rfl);(· exact rfl);(· exact rfl);(· exact hw8)) | (refine qQ (first:=[]) (cap:=[]) tb rfl rfl rfl (qiS hgk' c) (zN _) ?_;rintro _ V1 _ hs1 ⟨rfl,rfl⟩;dsimp only[List.nil_append];rw[hin]) | refine qY rfl ?_ | refine qB rfl ?_ | refine qz rfl rfl ?_ | refine jD rfl ?_ | refine qG rfl rfl ?_ | refine qH rfl rfl ?_ | refine jc rfl rfl (by omega) (by omega) ?_ | refine qk tb rfl rfl ?_ | refine qx tb rfl rfl rfl ?_ | (apply qZ tb rfl rfl;(· (first | (refine At.own (?_);repeat (first | exact Has.here | refine Has.there ?_)) | exact At.seen (by assumption)));(· exact rfl)) | (apply qX tb rfl rfl;(· (first | (refine At.own (?_);repeat (first | exact Has.here | refine Has.there ?_)) | exact At.seen (by assumption)));(· exact rfl)) | (apply qI tb rfl rfl rfl rfl rfl;(· (repeat (first | exact Upd.here | apply Upd.there)));(· exact rfl)) | (apply qL tb rfl rfl rfl rfl rfl;(· (repeat (first | exact Upd.here | apply Upd.there)));(· exact rfl)) | (apply qT tb (by kernel_rfl) rfl (rfl:tb.fo _ 0=_);(· (repeat (first | exact Fill.nil | (apply Fill.cons;(· exact rfl);(· exact rfl);(· exact rfl);(· exact rfl);(· exact rfl)))))) | (refine ja rfl ?_;intro b) | (refine jf rfl rfl ?_;intro b) | (refine qS tb rfl ?_;intro b))) | refine QH rfl rfl rfl rfl ?_ | refine qE rfl ?_ | refine qF rfl ?_))
      exact jo hM hw hV0 hR [] (Kt _) (qcG rfl rfl) (hf _)
    · have hgt:=qy3 hc h128
      obtain⟨r,wd,hd⟩:∃r wd,Utf8.decode (bs S) p=(r,wd):=⟨_,_,rfl⟩
      rw[hd]at hgt
      (repeat' (first | refine js ?_ | refine qA ?_ | refine jt ?_ | refine q9 ?_ | refine qV ?_ | refine ji ?_ | refine jC ?_ | refine jj ?_ | refine qp ?_ | refine qo ?_ | refine qy rfl ?_ | refine qw ?_ | refine jx ?_ | ((first | refine qW rfl ?_ | refine jk ?_ | refine yn rfl rfl rfl ?_);(first | (apply qeA;(· exact rfl);(· exact Upd.here);(· exact hps);(· exact hd)) | (apply Jk;(· exact rfl);(· exact rfl);(· omega)) | refine qY rfl ?_ | refine qB rfl ?_ | refine qz rfl rfl ?_ | refine jD rfl ?_ | refine qG rfl rfl ?_ | refine qH rfl rfl ?_ | refine jc rfl rfl (by omega) (by omega) ?_ | refine qk tb rfl rfl ?_ | refine qx tb rfl rfl rfl ?_ | (apply qZ tb rfl rfl;(· (first | (refine At.own (?_);repeat (first | exact Has.here | refine Has.there ?_)) | exact At.seen (by assumption)));(· exact rfl)) | (apply qX tb rfl rfl;(· (first | (refine At.own (?_);repeat (first | exact Has.here | refine Has.there ?_)) | exact At.seen (by assumption)));(· exact rfl)) | (apply qI tb rfl rfl rfl rfl rfl;(· (repeat (first | exact Upd.here | apply Upd.there)));(· exact rfl)) | (apply qL tb rfl rfl rfl rfl rfl;(· (repeat (first | exact Upd.here | apply Upd.there)));(· exact rfl)) | (apply qT tb (by kernel_rfl) rfl (rfl:tb.fo _ 0=_);(· (repeat (first | exact Fill.nil | (apply Fill.cons;(· exact rfl);(· exact rfl);(· exact rfl);(· exact rfl);(· exact rfl)))))) | (refine ja rfl ?_;intro b) | (refine jf rfl rfl ?_;intro b) | (refine qS tb rfl ?_;intro b))) | refine QH rfl rfl rfl rfl ?_ | refine qE rfl ?_ | refine qF rfl ?_))
      exact jo hM hw hV0 hR [] (Kt _) (qcG rfl rfl) (hf _)
 · have hpe : ¬p<(bs S).size:=by rw[qe];exact hlt
   have ha:S.all Qt=true:=Ke.2 fun c hm=>by
    obtain⟨j,hj⟩:=Vu.1 hm
    have:=(zr.1 hj).1
    exact hall j c (by omega) hj
   by_cases hnil:S=[]
   · have hf:∀V',Q (.bool false) V' []:=fun V'=>by
      have h:=hQ V';have:nmB S=false:=by subst hnil;rfl
      rwa [this]at h
     have hne:(!decide (bs S=ByteArray.mk (List.toArray [])))=false:=by rw[zb (by rw[hnil];rfl)];rfl
     (repeat' (first | refine js ?_ | refine qA ?_ | refine jt ?_ | refine q9 ?_ | refine qV ?_ | refine ji ?_ | refine jC ?_ | refine jj ?_ | refine qp ?_ | refine qo ?_ | refine qy rfl ?_ | refine qw ?_ | refine jx ?_ | ((first | refine qW rfl ?_ | refine jk ?_ | refine yn rfl rfl rfl ?_);(first | (apply Zy;(· exact rfl);(· exact Has.here);(· exact hpe)) | (apply ZA;(· exact rfl);(· exact rfl);(· exact hne)) | refine qY rfl ?_ | refine qB rfl ?_ | refine qz rfl rfl ?_ | refine jD rfl ?_ | refine qG rfl rfl ?_ | refine qH rfl rfl ?_ | refine jc rfl rfl (by omega) (by omega) ?_ | refine qk tb rfl rfl ?_ | refine qx tb rfl rfl rfl ?_ | (apply qZ tb rfl rfl;(· (first | (refine At.own (?_);repeat (first | exact Has.here | refine Has.there ?_)) | exact At.seen (by assumption)));(· exact rfl)) | (apply qX tb rfl rfl;(· (first | (refine At.own (?_);repeat (first | exact Has.here | refine Has.there ?_)) | exact At.seen (by assumption)));(· exact rfl)) | (apply qI tb rfl rfl rfl rfl rfl;(· (repeat (first | exact Upd.here | apply Upd.there)));(· exact rfl)) | (apply qL tb rfl rfl rfl rfl rfl;(· (repeat (first | exact Upd.here | apply Upd.there)));(· exact rfl)) | (apply qT tb (by kernel_rfl) rfl (rfl:tb.fo _ 0=_);(· (repeat (first | exact Fill.nil | (apply Fill.cons;(· exact rfl);(· exact rfl);(· exact rfl);(· exact rfl);(· exact rfl)))))) | (refine ja rfl ?_;intro b) | (refine jf rfl rfl ?_;intro b) | (refine qS tb rfl ?_;intro b))) | refine QH rfl rfl rfl rfl ?_ | refine qE rfl ?_ | refine qF rfl ?_))
     exact jo hM hw hV0 hR [] (Kt _) (qcG rfl rfl) (hf _)
   · have hne:(!decide (bs S=ByteArray.mk (List.toArray [])))=true:=by rw[zk (fun e=>hnil (yJ.1 (e.trans (qU []))))];rfl
     obtain⟨c,r,ecr⟩:∃c r,S=c::r:=by
      cases S with
      | nil=>exact absurd rfl hnil
      | cons c r=>exact⟨c,r,rfl⟩
     have hcx:(bs S)[(0:Int).toNat]?=some c:=by show(bs S)[0]?=some c;rw[qq,ecr];rfl
     have hem:S.isEmpty=false:=by rw[ecr];rfl
     have h0:(S[0]?).any j9=j9 c:=by rw[ecr];rfl
     have hnm:nmB S=(Nat.ble S.length 32&&(j9 c&&!YI S)):=by unfold nmB;rw[ha,hem,h0];rfl
     by_cases h32:S.length≤32
     · have hle:decide ((((bs S).size:Nat):Int)≤32)=true:=zb (by rw[qe];omega)
       rw[zp h32,Kw]at hnm;cases hl:j9 c with
       | false=>
        have hf:∀V',Q (.bool false) V' []:=fun V'=>by
         have h:=hQ V';rw[hnm,hl]at h;exact h
        (repeat' (first | refine js ?_ | refine qA ?_ | refine jt ?_ | refine q9 ?_ | refine qV ?_ | refine ji ?_ | refine jC ?_ | refine jj ?_ | refine qp ?_ | refine qo ?_ | refine qy rfl ?_ | refine qw ?_ | refine jx ?_ | ((first | refine qW rfl ?_ | refine jk ?_ | refine yn rfl rfl rfl ?_);(first | (apply Zy;(· exact rfl);(· exact Has.here);(· exact hpe)) | (apply ZA;(· exact rfl);(· exact rfl);(· exact hne)) | (apply Q0;(· exact rfl);(· exact rfl);(· exact J7)) | (apply qdf;(· exact rfl);(· exact rfl);(· exact hle)) | (apply Qn;(· exact rfl);(· exact rfl);(· exact J7);(· decide);(· exact hcx)) | (refine qQ (first:=[]) (cap:=[]) tb rfl rfl rfl (JN hgk' c) (zN _) ?_;rintro _ V1 _ hs1 ⟨rfl,rfl⟩;dsimp only[List.nil_append];rw[hl]) | refine qY rfl ?_ | refine qB rfl ?_ | refine qz rfl rfl ?_ | refine jD rfl ?_ | refine qG rfl rfl ?_ | refine qH rfl rfl ?_ | refine jc rfl rfl (by omega) (by omega) ?_ | refine qk tb rfl rfl ?_ | refine qx tb rfl rfl rfl ?_ | (apply qZ tb rfl rfl;(· (first | (refine At.own (?_);repeat (first | exact Has.here | refine Has.there ?_)) | exact At.seen (by assumption)));(· exact rfl)) | (apply qX tb rfl rfl;(· (first | (refine At.own (?_);repeat (first | exact Has.here | refine Has.there ?_)) | exact At.seen (by assumption)));(· exact rfl)) | (apply qI tb rfl rfl rfl rfl rfl;(· (repeat (first | exact Upd.here | apply Upd.there)));(· exact rfl)) | (apply qL tb rfl rfl rfl rfl rfl;(· (repeat (first | exact Upd.here | apply Upd.there)));(· exact rfl)) | (apply qT tb (by kernel_rfl) rfl (rfl:tb.fo _ 0=_);(· (repeat (first | exact Fill.nil | (apply Fill.cons;(· exact rfl);(· exact rfl);(· exact rfl);(· exact rfl);(· exact rfl)))))) | (refine ja rfl ?_;intro b) | (refine jf rfl rfl ?_;intro b) | (refine qS tb rfl ?_;intro b))) | refine QH rfl rfl rfl rfl ?_ | refine qE rfl ?_ | refine qF rfl ?_))
        exact jo hM hw hV0 hR [] (Kt _) (qcG rfl rfl) (hf _)
       | true=>
        cases hw0:YI S with
        | true=>
         have hf:∀V',Q (.bool false) V' []:=fun V'=>by
          have h:=hQ V';rw[hnm,hl,hw0]at h;exact h
         (repeat' (first | refine js ?_ | refine qA ?_ | refine jt ?_ | refine q9 ?_ | refine qV ?_ | refine ji ?_ | refine jC ?_ | refine jj ?_ | refine qp ?_ | refine qo ?_ | refine qy rfl ?_ | refine qw ?_ | refine jx ?_ | ((first | refine qW rfl ?_ | refine jk ?_ | refine yn rfl rfl rfl ?_);(first | (apply Zy;(· exact rfl);(· exact Has.here);(· exact hpe)) | (apply ZA;(· exact rfl);(· exact rfl);(· exact hne)) | (apply Q0;(· exact rfl);(· exact rfl);(· exact J7)) | (apply qdf;(· exact rfl);(· exact rfl);(· exact hle)) | (apply Qn;(· exact rfl);(· exact rfl);(· exact J7);(· decide);(· exact hcx)) | (refine qQ (first:=[]) (cap:=[]) tb rfl rfl rfl (JN hgk' c) (zN _) ?_;rintro _ V1 _ hs1 ⟨rfl,rfl⟩;dsimp only[List.nil_append];rw[hl]) | (refine qQ (first:=[]) (cap:=[]) tb rfl rfl rfl (JM (l:=S) (Q:=fun v _ G=>v = .bool true∧G=[]) ⟨by rw[hw0],rfl⟩) (zN _) ?_;rintro _ V3 _ hs3 ⟨rfl,rfl⟩;dsimp only[List.nil_append]) | refine qY rfl ?_ | refine qB rfl ?_ | refine qz rfl rfl ?_ | refine jD rfl ?_ | refine qG rfl rfl ?_ | refine qH rfl rfl ?_ | refine jc rfl rfl (by omega) (by omega) ?_ | refine qk tb rfl rfl ?_ | refine qx tb rfl rfl rfl ?_ | (apply qZ tb rfl rfl;(· (first | (refine At.own (?_);repeat (first | exact Has.here | refine Has.there ?_)) | exact At.seen (by assumption)));(· exact rfl)) | (apply qX tb rfl rfl;(· (first | (refine At.own (?_);repeat (first | exact Has.here | refine Has.there ?_)) | exact At.seen (by assumption)));(· exact rfl)) | (apply qI tb rfl rfl rfl rfl rfl;(· (repeat (first | exact Upd.here | apply Upd.there)));(· exact rfl)) | (apply qL tb rfl rfl rfl rfl rfl;(· (repeat (first | exact Upd.here | apply Upd.there)));(· exact rfl)) | (apply qT tb (by kernel_rfl) rfl (rfl:tb.fo _ 0=_);(· (repeat (first | exact Fill.nil | (apply Fill.cons;(· exact rfl);(· exact rfl);(· exact rfl);(· exact rfl);(· exact rfl)))))) | (refine ja rfl ?_;intro b) | (refine jf rfl rfl ?_;intro b) | (refine qS tb rfl ?_;intro b))) | refine QH rfl rfl rfl rfl ?_ | refine qE rfl ?_ | refine qF rfl ?_))
         exact jo hM hw hV0 hR [] (Kt _) (qcG rfl rfl) (hf _)
        | false=>
         have hf:∀V',Q (.bool true) V' []:=fun V'=>by
          have h:=hQ V';rw[hnm,hl,hw0]at h;exact h
         (repeat' (first | refine js ?_ | refine qA ?_ | refine jt ?_ | refine q9 ?_ | refine qV ?_ | refine ji ?_ | refine jC ?_ | refine jj ?_ | refine qp ?_ | refine qo ?_ | refine qy rfl ?_ | refine qw ?_ | refine jx ?_ | ((first | refine qW rfl ?_ | refine jk ?_ | refine yn rfl rfl rfl ?_);(first | (apply Zy;(· exact rfl);(· exact Has.here);(· exact hpe)) | (apply ZA;(· exact rfl);(· exact rfl);(· exact hne)) | (apply Q0;(· exact rfl);(· exact rfl);(· exact J7)) | (apply qdf;(· exact rfl);(· exact rfl);(· exact hle)) | (apply Qn;(· exact rfl);(· exact rfl);(· exact J7);(· decide);(· exact hcx)) | (refine qQ (first:=[]) (cap:=[]) tb rfl rfl rfl (JN hgk' c) (zN _) ?_;rintro _ V1 _ hs1 ⟨rfl,rfl⟩;dsimp only[List.nil_append];rw[hl]) | (refine qQ (first:=[]) (cap:=[]) tb rfl rfl rfl (JM (l:=S) (Q:=fun v _ G=>v = .bool false∧G=[]) ⟨by rw[hw0],rfl⟩) (zN _) ?_;rintro _ V3 _ hs3 ⟨rfl,rfl⟩;dsimp only[List.nil_append]) | refine qY rfl ?_ | refine qB rfl ?_ | refine qz rfl rfl ?_ | refine jD rfl ?_ | refine qG rfl rfl ?_ | refine qH rfl rfl ?_ | refine jc rfl rfl (by omega) (by omega) ?_ | refine qk tb rfl rfl ?_ | refine qx tb rfl rfl rfl ?_ | (apply qZ tb rfl rfl;(· (first | (refine At.own (?_);repeat (first | exact Has.here | refine Has.there ?_)) | exact At.seen (by assumption)));(· exact rfl)) | (apply qX tb rfl rfl;(· (first | (refine At.own (?_);repeat (first | exact Has.here | refine Has.there ?_)) | exact At.seen (by assumption)));(· exact rfl)) | (apply qI tb rfl rfl rfl rfl rfl;(· (repeat (first | exact Upd.here | apply Upd.there)));(· exact rfl)) | (apply qL tb rfl rfl rfl rfl rfl;(· (repeat (first | exact Upd.here | apply Upd.there)));(· exact rfl)) | (apply qT tb (by kernel_rfl) rfl (rfl:tb.fo _ 0=_);(· (repeat (first | exact Fill.nil | (apply Fill.cons;(· exact rfl);(· exact rfl);(· exact rfl);(· exact rfl);(· exact rfl)))))) | (refine ja rfl ?_;intro b) | (refine jf rfl rfl ?_;intro b) | (refine qS tb rfl ?_;intro b))) | refine QH rfl rfl rfl rfl ?_ | refine qE rfl ?_ | refine qF rfl ?_))
         exact jo hM hw hV0 hR [] (Kt _) (qcG rfl rfl) (hf _)
     · have hle:decide ((((bs S).size:Nat):Int)≤32)=false:=zk (by rw[qe];omega)
       have hf:∀V',Q (.bool false) V' []:=fun V'=>by
        have h:=hQ V';have hb:Nat.ble S.length 32=false:=by
         cases hb:Nat.ble S.length 32 with
         | false=>rfl
         | true=>exact absurd (zo hb) h32
        rw[hnm,hb]at h;exact h
       (repeat' (first | refine js ?_ | refine qA ?_ | refine jt ?_ | refine q9 ?_ | refine qV ?_ | refine ji ?_ | refine jC ?_ | refine jj ?_ | refine qp ?_ | refine qo ?_ | refine qy rfl ?_ | refine qw ?_ | refine jx ?_ | ((first | refine qW rfl ?_ | refine jk ?_ | refine yn rfl rfl rfl ?_);(first | (apply Zy;(· exact rfl);(· exact Has.here);(· exact hpe)) | (apply ZA;(· exact rfl);(· exact rfl);(· exact hne)) | (apply Q0;(· exact rfl);(· exact rfl);(· exact J7)) | (apply qdf;(· exact rfl);(· exact rfl);(· exact hle)) | refine qY rfl ?_ | refine qB rfl ?_ | refine qz rfl rfl ?_ | refine jD rfl ?_ | refine qG rfl rfl ?_ | refine qH rfl rfl ?_ | refine jc rfl rfl (by omega) (by omega) ?_ | refine qk tb rfl rfl ?_ | refine qx tb rfl rfl rfl ?_ | (apply qZ tb rfl rfl;(· (first | (refine At.own (?_);repeat (first | exact Has.here | refine Has.there ?_)) | exact At.seen (by assumption)));(· exact rfl)) | (apply qX tb rfl rfl;(· (first | (refine At.own (?_);repeat (first | exact Has.here | refine Has.there ?_)) | exact At.seen (by assumption)));(· exact rfl)) | (apply qI tb rfl rfl rfl rfl rfl;(· (repeat (first | exact Upd.here | apply Upd.there)));(· exact rfl)) | (apply qL tb rfl rfl rfl rfl rfl;(· (repeat (first | exact Upd.here | apply Upd.there)));(· exact rfl)) | (apply qT tb (by kernel_rfl) rfl (rfl:tb.fo _ 0=_);(· (repeat (first | exact Fill.nil | (apply Fill.cons;(· exact rfl);(· exact rfl);(· exact rfl);(· exact rfl);(· exact rfl)))))) | (refine ja rfl ?_;intro b) | (refine jf rfl rfl ?_;intro b) | (refine qS tb rfl ?_;intro b))) | refine QH rfl rfl rfl rfl ?_ | refine qE rfl ?_ | refine qF rfl ?_))
       exact jo hM hw hV0 hR [] (Kt _) (qcG rfl rfl) (hf _)
end Fly
namespace Su
open Go Go.Proofs Fly
def qwf(s:ByteArray):Option Bool:=bif Nat.ble (lb s).length 1000000 then some (nmB (lb s))else none
noncomputable def qwg:PrimD:=prim (d1 cS) (d1 cB) qwf
theorem qAI:OkT 35 qwg:=by
 refine⟨by kernel_rfl,fun xs y h V vs hgk hr=>?_,fun j hj=>nomatch hj⟩
 obtain⟨s,h1,h2⟩:=osm (show((d1 cS).dec xs).bind qwf=some y from h)
 have hr2:=(d1 cS).rep h1 hr
 obtain⟨h3,h4⟩:=qh h2;have:=soi h4;subst this
 cases hr2 with | cons k1 k2=>
 cases k2 with | nil=>
 cases k1 with | s k1=>
 have h3:(lb s).length≤1000000:=zo h3
 have e:s=bs (lb s):=(qcD s).symm
 show jA Tryz.prog 35 #[.string s] V [] _
 rw[e];exact qsc hgk h3 fun V'=>⟨[_],.cons (.s rfl) .nil,rfl⟩
end Su
end
section
namespace Su
noncomputable section
open Go Go.Proofs Fly
set_option maxRecDepth 100000
def qsd(t:List UInt8)(pw:Int):Int×Int :=
 if t=[]∨(t.length:Int)+pw < -325 then(0,0)else
 if 320<(t.length:Int)+pw then(0,82)else
 qnc (dv t*pT pw) fun N=>qnc (pU pw) fun D=>qnc (Yn N D) fun M=>qnc (jd N D+6000).toNat fun E=>qnc (RN false 0 M E (qcE N D)) fun r=>if r=9218868437227405312 then(0,82)else(((r:Nat):Int),0)
theorem qse(t:List UInt8)(pw:Int):qsd t pw=qjP t pw:=by
 unfold qsd qjP;simp only[quX,qeg]
def qu4(S:List UInt8):Int×Int :=
 if 400<S.length then(0,81)else
 if(ptL S).2.2=false then(0,80)else qsd ((ptL S).1.dropWhile (· == 48)) (ptL S).2.1
theorem qu5(S:List UInt8):qu4 S=yX S:=by unfold qu4 yX;rw[qse]
def qu6(t:Tk)(l:List UInt8)(fl:Bool):Tk×Int :=
 if 400<l.length then(t,91)else
 if fl=true then(if(qu4 l).2=0 then((3,t.2.1,t.2.2.1,t.2.2.2.1,(qu4 l).1),0)else(t,93))else
 if 2147483647<dv l then(t,92)else((2,t.2.1,t.2.2.1,((dv l:Nat):Int),t.2.2.2.2),0)
theorem qu7(t:Tk)(l:List UInt8)(fl:Bool):qu6 t l fl=qcc t l fl:=by unfold qu6 qcc;rw[qu5]
def qy4(S:List UInt8)(i:Nat):Tk×(Int×Int) :=
 if(S[i]?).any j9=true then
  ((bif YI ((S.drop i).take (spI S i-i))then 4 else 1,((i:Nat):Int),bs ((S.drop i).take (spI S i-i)),0,0),((spI S i:Nat):Int),if 32<spI S i-i then 91 else 0)
 else if(S[i]?).any isD=true then
  ((qu6 (0,((i:Nat):Int),bs [],0,0) ((S.drop i).take ((yo S i).1-i)) (yo S i).2).1,(((yo S i).1:Nat):Int),(qu6 (0,((i:Nat):Int),bs [],0,0) ((S.drop i).take ((yo S i).1-i)) (yo S i).2).2)
 else if QK (S.drop i)=[]then((5,((i:Nat):Int),bs [],0,0),((i:Nat):Int),90)
 else((5,((i:Nat):Int),bs (QK (S.drop i)),0,0),((i+(QK (S.drop i)).length:Nat):Int),0)
theorem qu8(S:List UInt8)(i:Nat):qy4 S i=yg S i:=by unfold qy4 yg;rw[qu7]
def qsf(p:ByteArray×Int):Option (Tk×Int×Int):=bif(decide (0≤p.2)&&decide (p.2<((lb p.1).length:Int)))&&Nat.ble (lb p.1).length 1000000 then some (qy4 (lb p.1) p.2.toNat)else none
theorem qsg:qsf=Jc:=by
 funext p
 unfold qsf Jc;rw[qu8]
def qsh:PrimD:=prim (dc cS (d1 (cI .i64))) (dc cTk (dc (cI .i64) (d1 (cI .i64)))) qsf
theorem qu9:OkT 71 qsh:=by unfold qsh;rw[qsg];exact qr4
def qy5:qK:=jV [(71,qsh),(35,qwg)] qj8
theorem qva:PkT qy5:=qu Z2 (qm qu9 (qm qAI qO))
theorem qiT:qgp tb qy5 (shN tb qy5 400 9) 400 27 [] (d1 cB).dec=some true:=by kernel_rfl
def qf2:PrimD:=prim d0 (d1 cB) fun _=>some true
theorem qnl:OkT 27 qf2:=qbc jy qva (by kernel_rfl) fun a y hg h=>⟨400,9,400,qiT.trans h⟩
def qsi:qK:=jV [(27,qf2)] qsa
theorem qf3:PkT qsi:=qu qnk (qm qnl qO)
end
end Su
end
section
namespace Su
noncomputable section
open Go Go.Proofs Fly
set_option maxRecDepth 100000
def qwh:PrimD:=prim (dc cB (dc (cQ 1 1) (d1 (cQ 1 1)))) (d1 cRt) (qet)
theorem qAJ:OkT 68 qwh:=yl jy qf3 (fun a=>Low a.1 a.2.1 a.2.2) (by kernel_rfl) (fun _ _=>by kernel_rfl) qxY
def qsj:qK:=jV [(68,qwh)] qsi
theorem qcm:PkT qsj:=qu qf3 (qm qAJ qO)
end
end Su
end
section
namespace Su
noncomputable section
open Go Go.Proofs Fly
set_option maxRecDepth 100000
def qsk:PrimD:=prim (d1 cRt) (d1 cRt) (qeu)
theorem qy6:OkT 123 qsk:=yl jy qcm (fun a=>RLow a) (by kernel_rfl) (fun _ _=>by kernel_rfl) qut
def qsl:PrimD:=prim (d1 (cI .i64)) (d1 cRt) (qqe)
theorem qy7:OkT 65 qsl:=yl jy qcm (fun a=>qxZ a) (by kernel_rfl) (fun _ _=>by kernel_rfl) quu
def qsm:qK:=jV [(123,qsk),(65,qsl)] qsj
theorem qf4:PkT qsm:=qu qcm (qm qy6 (qm qy7 qO))
end
end Su
end
section
namespace Su
noncomputable section
open Go Go.Proofs Fly
set_option maxRecDepth 100000
def qsn:PrimD:=prim (d1 cRt) (d1 cS) (qaF)
theorem qy8:OkT 66 qsn:=yl jy qf4 (fun a=>qx0 a) (by kernel_rfl) (fun _ _=>by kernel_rfl) quv
def qso:qK:=jV [(66,qsn)] qsm
theorem qf5:PkT qso:=qu qf4 (qm qy8 qO)
end
end Su
end
section
namespace Su
noncomputable section
open Go Go.Proofs Fly
set_option maxRecDepth 100000
def qsp:PrimD:=prim (d1 cTk) (d1 cS) (Zw)
theorem qy9:OkT 45 qsp:=yl jy qf5 (fun a=>qyf a) (by kernel_rfl) (fun _ _=>by kernel_rfl) quC
def qza:qK:=jV [(45,qsp)] qso
theorem qnm:PkT qza:=qu qf5 (qm qy9 qO)
end
end Su
end
section
namespace Su
open Go Go.Proofs Fly
set_option maxRecDepth 100000
noncomputable def qzb:PrimD:=prim (dc cS (d1 (cI .i64))) (d1 cB) (qqy)
theorem qzc:OkT 10 qzb:=yT jy qnm (fun fu a=>qqv fu a.1 a.2) (by kernel_rfl) (fun _ _=>by kernel_rfl) quF
end Su
end
section
namespace Su
open Go Fly
def y7(P:Program)(t:Nat):Bool:=match P.underlying t with
 | some (.struct _)=>true
 | _=>false
def qf6(P:Program)(S:List Nat)(n:Nat):Nat→List Field→Bool
 | o,[]=>Nat.beq o n
 | o,f::fs=>Nat.beq f.offset o&&(S.contains f.type&&qf6 P S n (o+P.cellsOf f.type) fs)
def Yt(P:Program)(S:List Nat)(t:Nat):Bool:=match P.underlying t with
 | some .bool=>Nat.beq (P.cellsOf t) 1
 | some (.int _)=>Nat.beq (P.cellsOf t) 1
 | some (.float _)=>Nat.beq (P.cellsOf t) 1
 | some .string=>Nat.beq (P.cellsOf t) 1
 | some (.slice e)=>Nat.beq (P.cellsOf t) 1&&(S.contains e&&Nat.blt 0 (P.cellsOf e))
 | some (.struct fs)=>qf6 P S (P.cellsOf t) 0 fs.toList
 | _=>false
inductive All2 {α β:Type} (R:α→β→Prop):List α→List β→Prop
 | nil:All2 R [] []
 | cons {a:α} {b:β} {l:List α} {m:List β} (h:R a b) (h':All2 R l m):All2 R (a::l) (b::m)
def Shp(P:Program):Nat→Nat→List T→Prop
 | 0,_,_=>False
 | fuel+1,t,xs=>match P.underlying t with
  | some .bool=>∃b,xs=[.s (.bool b)]
  | some (.int k)=>∃n,xs=[.s (.int k n)]∧(Lit.int k n).wf=true
  | some (.float k)=>∃b,xs=[.s (.float k b)]∧(Lit.float k b).wf=true
  | some .string=>∃s,xs=[.s (.string s)]∧s.size≤maxLen
  | some (.slice e)=>∃l,xs=[.sl (P.cellsOf e) l]∧l.length≤maxLen∧∀x∈l,x.isAgg=y7 P e∧Shp P fuel e x.cells
  | some (.struct fs)=>∃parts:List (List T),xs=parts.flatten∧All2 (fun(f:Field) p=>Shp P fuel f.type p) fs.toList parts
  | _=>False
def hv(w:World):qc:=fun b=>w.heap[b]?
theorem qvb{a:Addr}{m n:Nat}(h:n≠0∨m=0∨a.spot=none):(a.add m).add n=a.add (m+n):=by
 unfold Addr.add;by_cases hn:n=0
 · subst hn;simp
 · by_cases hm:m=0
   · subst hm;simp[hn]
   · simp[hn,hm,Ky]
theorem qeB{w:World}{a:Addr}{v:Value}(h:w.cell? a=some v):a.spot=none∧rd (hv w) a.block a.off v:=by
 unfold World.cell? at h
 split at h
 · rename_i c e f hb
   cases hs:a.spot with
   | some s=>rw[hs]at h;simp at h
   | none=>rw[hs]at h;exact⟨rfl,c,e,f,hb,by simpa using h⟩
 · simp at h
theorem ql3(a:Addr)(n:Nat):(a.add n).off=a.off+n∧(a.add n).block=a.block:=by
 unfold Addr.add;split
 · rename_i h;subst h;exact⟨rfl,rfl⟩
 · exact⟨rfl,rfl⟩
theorem ql4{w:World}{a:Addr}{k:Nat}(hk:0<k):∀(css:List (List Value)) (s:Nat),(∀i cs,css[i]?=some cs→w.cells? 0 (a.add ((s+i)*k)) k=some cs)→∀j c,css.flatten[j]?=some c→rd (hv w) a.block (a.off+s*k+j) c∧w.cell? (a.add (s*k+j))=some c
 | [],s,h,j,c,hj=>by simp at hj
 | c0::css,s,h,j,c,hj=>by
  obtain⟨_,hl,hc⟩:=World.cells?_some (h 0 c0 rfl)
  simp only[KA]at hc;rw[List.flatten_cons]at hj;rcases VT j k with hjk | hjk
  · rw[Kl (by omega)]at hj
    have h1:=hc j hjk;rw[hj]at h1;have h3:w.cell? (a.add (s*k+j))=some c:=by
     by_cases hj0:j=0
     · subst hj0
       have:(a.add (s*k)).add 0=a.add (s*k):=by unfold Addr.add;simp
       rw[this]at h1;exact h1
     · rw[qvb (.inl hj0)]at h1;exact h1
    obtain⟨_,h2⟩:=qeB h3;rw[(ql3 _ _).1,(ql3 _ _).2]at h2;exact⟨by rw[Ky];exact h2,h3⟩
  · rw[z8 (by omega),hl]at hj
    have h2:=ql4 hk css (s+1) (fun i cs hi=>by
     have:=h (i+1) cs (by simpa using hi)
     rw[show s+1+i=s+(i+1) by omega];exact this) (j-k) c hj
    have e1:(s+1)*k+(j-k)=s*k+j:=by rw[zW];omega
    rw[Ky,e1]at h2;exact⟨by rw[Ky];exact h2.1,h2.2⟩
end Su
end
section
namespace Su
open Go Fly
theorem qj9{β γ:Type}{f:Nat→Option (List β)}{g:List β→Option γ}{n:Nat}{r:List γ}(h:(List.range n).mapM (fun i=>(f i).bind g)=some r) :
 ∃css:List (List β),css.length=n∧∀(i:Nat) (cs:List β),css[i]?=some cs→f i=some cs∧∃y,y∈r∧g cs=some y:=by
 have hl:r.length=n:=by simpa using mapM_some_length h
 refine⟨(List.range n).map fun i=>(f i).getD [],by simp,fun i cs hi=>?_⟩
 have hin:i<n:=by
  have:=(zr.1 hi).1
  simpa using this
 have h1:=mapM_some_get h i i (by simp[hin])
 rw[zt (by omega)]at h1;obtain⟨c,hc,hg⟩:=VD.1 h1;have:cs=c:=by
  rw[Kq,List.getElem?_range hin]at hi;simp[hc]at hi;exact hi.symm
 subst this;exact⟨hc,_,List.getElem_mem _,hg⟩
theorem ql5{α β:Type}{R:α→β→Prop}:∀ {l:List α},(∀x∈l,∃y,R x y)→∃m,All2 R l m
 | [],_=>⟨[],.nil⟩
 | x::l,h=>by
  obtain⟨y,hy⟩:=h x (zE ..)
  obtain⟨m,hm⟩:=ql5 (l:=l) fun z hz=>h z (zB _ hz)
  exact⟨y::m,.cons hy hm⟩
theorem All2.length{α β:Type}{R:α→β→Prop}{l:List α}{m:List β}(h:All2 R l m):l.length=m.length:=by
 induction h with
 | nil=>rfl
 | cons _ _ ih=>simp[ih]
theorem All2.right{α β:Type}{R:α→β→Prop}{l:List α}{m:List β}(h:All2 R l m):∀y∈m,∃x,R x y:=by
 induction h with
 | nil=>intro y hy;simp at hy
 | cons hr _ ih=>
  intro y hy;rcases zS.1 hy with rfl | hy
  · exact⟨_,hr⟩
  · exact ih y hy
section
variable {H:Type} {enc:TypeId×Value→H} {P:Program} {w:World} {S:List Nat}
def qvc(enc:TypeId×Value→H)(P:Program)(w:World)(fuel t:Nat)(cs:List Value)(x:DataW H×List MemPlace):Prop :=
 (∃xs,RepA (hv w) xs cs∧(∀y∈xs,y.isAgg=false)∧xs.length=P.cellsOf t∧Shp P fuel t xs)∧∀sp:Nat→Bool,(∀p∈x.2,sp p.block=true)→DataW.trod enc P w 0 sp true fuel t cs=some x
theorem ql6{fuel t:Nat}{xs:List T}(h:Shp P fuel t xs)(hg:y7 P t=false)(hok:Yt P S t=true):∃x,xs=[x]∧x.isAgg=false∧x.cells=[x]:=by
 cases fuel with
 | zero=>exact absurd h (by simp[Shp])
 | succ fuel=>
  unfold Shp at h;unfold y7 at hg;split at h
  · obtain⟨b,rfl⟩:=h;exact⟨_,rfl,rfl,rfl⟩
  · obtain⟨b,rfl,_⟩:=h;exact⟨_,rfl,rfl,rfl⟩
  · obtain⟨b,rfl,_⟩:=h;exact⟨_,rfl,rfl,rfl⟩
  · obtain⟨b,rfl,_⟩:=h;exact⟨_,rfl,rfl,rfl⟩
  · obtain⟨b,rfl,_⟩:=h;exact⟨_,rfl,rfl,rfl⟩
  · rename_i hu;rw[hu]at hg;simp at hg
  · exact absurd h (by simp)
theorem qnn{fuel e:Nat}{cs:List Value}{x:DataW H×List MemPlace}(hok:Yt P S e=true)(h:qvc enc P w fuel e cs x) :
 ∃z:T,RepA (hv w) z.cells cs∧(∀y∈z.cells,y.isAgg=false)∧z.cells.length=P.cellsOf e∧z.isAgg=y7 P e∧Shp P fuel e z.cells:=by
 obtain⟨⟨xs,h1,h2,h3,h4⟩,_⟩:=h;cases hg:y7 P e with
 | true=>exact⟨.agg xs,h1,h2,h3,rfl,h4⟩
 | false=>
  obtain⟨z,rfl,hz,hzc⟩:=ql6 h4 hg hok;exact⟨z,by rw[hzc];exact h1,by rw[hzc];exact h2,by rw[hzc];exact h3,hz,by rw[hzc];exact h4⟩
theorem qf7{fuel e:Nat}:∀ {css:List (List Value)} {l:List T},All2 (fun cs z=>RepA (hv w) z.cells cs∧(∀y∈z.cells,y.isAgg=false)∧z.cells.length=P.cellsOf e∧z.isAgg=y7 P e∧Shp P fuel e z.cells) css l →
 RepA (hv w) (l.flatMap T.cells) css.flatten∧(∀y∈l.flatMap T.cells,y.isAgg=false)
 | _,_,.nil=>⟨.nil,by simp⟩
 | _,_,.cons h h'=>by
  obtain⟨h1,h2⟩:=qf7 h';rw[Kx,List.flatten_cons];refine⟨h.1.append h1,fun y hy=>?_⟩
  rcases Kf.1 hy with hy | hy
  · exact h.2.1 y hy
  · exact h2 y hy
theorem qeC{fuel:Nat}{cs:List Value}(ih:∀t∈S,∀(cs:List Value) (x:DataW H×List MemPlace),DataW.trod enc P w 0 (fun _=>true) true fuel t cs=some x→qvc enc P w fuel t cs x):∀(fs:List Field) (o:Nat) (ys:List (DataW H×List MemPlace)),
 qf6 P S cs.length o fs=true→fs.mapM (fun f=>DataW.trod enc P w 0 (fun _=>true) true fuel f.type ((cs.drop f.offset).take (P.cellsOf f.type)))=some ys →
 ∃parts:List (List T),RepA (hv w) parts.flatten (cs.drop o)∧(∀y∈parts.flatten,y.isAgg=false)∧All2 (fun(f:Field) p=>Shp P fuel f.type p) fs parts
 | [],o,ys,ht,_=>by
  have:=zf ht;subst this
  rw[Vc (zI _)];exact⟨[],.nil,by simp,.nil⟩
 | f::fs,o,ys,ht,h=>by
  simp only[qf6,zn]at ht;obtain⟨h1,h2,h3⟩:=ht;have:=zf h1;subst this
  rw[List.mapM_cons]at h;obtain⟨y,hy,h⟩:=qb (a:=DataW.trod enc P w 0 (fun _=>true) true fuel f.type ((cs.drop f.offset).take (P.cellsOf f.type))) h
  obtain⟨ys',hys,_⟩:=qb (a:=fs.mapM (fun f=>DataW.trod enc P w 0 (fun _=>true) true fuel f.type ((cs.drop f.offset).take (P.cellsOf f.type)))) h
  obtain⟨⟨xs,a1,a2,a3,a4⟩,_⟩:=ih f.type (by simpa using h2) _ _ hy
  obtain⟨parts,b1,b2,b3⟩:=qeC ih fs _ _ h3 hys;refine⟨xs::parts,?_,fun z hz=>?_,.cons a4 b3⟩
  · rw[List.flatten_cons,← KU (P.cellsOf f.type) (cs.drop f.offset),List.drop_drop]
    exact a1.append b1
  · rw[List.flatten_cons]at hz
    rcases Kf.1 hz with hz | hz
    · exact a2 z hz
    · exact b2 z hz
theorem qno(hS:∀t∈S,Yt P S t=true):∀(fuel t:Nat),t∈S→∀(cs:List Value) (x:DataW H×List MemPlace),DataW.trod enc P w 0 (fun _=>true) true fuel t cs=some x→qvc enc P w fuel t cs x:=by
 intro fuel;induction fuel with
 | zero=>intro t _ cs x h;simp[DataW.trod]at h
 | succ fuel ih=>
  intro t htS cs x h;have hok:=hS t htS;have one:∀(v:Value),Qw v=true→cs=[v]→Nat.beq (P.cellsOf t) 1=true→Shp P (fuel+1) t [.s v]→(∀sp:Nat→Bool,(∀p∈x.2,sp p.block=true)→DataW.trod enc P w 0 sp true (fuel+1) t cs=some x)→qvc enc P w (fuel+1) t cs x:=by
   rintro v hv' rfl h1 h2 h3
   exact⟨⟨[.s v],.cons (.s hv') .nil,by simp[T.isAgg],by rw[zf h1];rfl,h2⟩,h3⟩
  have hh:=h;rw[DataW.trod_step]at h;unfold DataW.trodStep at h;split at h
  case h_1 b hu=>
   refine one _ rfl rfl (by simpa[Yt,hu]using hok) (by simp only[Shp,hu];exact⟨b,rfl⟩) fun sp _=>?_
   rw[DataW.trod_step]at hh ⊢;unfold DataW.trodStep at hh ⊢;simp only[hu]at hh ⊢;exact hh
  case h_2 k k' n hu=>
   split at h
   · rename_i hc
     obtain⟨rfl,hw⟩:=hc;refine one (.int k' n) (show Qw (.int k' n)=true from hw) rfl (by simpa[Yt,hu]using hok) (by simp only[Shp,hu];exact⟨n,rfl,hw⟩) fun sp _=>?_
     rw[DataW.trod_step]at hh ⊢;unfold DataW.trodStep at hh ⊢;simp only[hu]at hh ⊢;exact hh
   · simp at h
  case h_3 k k' b hu=>
   split at h
   · rename_i hc
     obtain⟨rfl,hw⟩:=hc;refine one _ rfl rfl (by simpa[Yt,hu]using hok) (by simp only[Shp,hu];exact⟨b,rfl,hw⟩) fun sp _=>?_
     rw[DataW.trod_step]at hh ⊢;unfold DataW.trodStep at hh ⊢;simp only[hu]at hh ⊢;exact hh
   · simp at h
  case h_4 st hu=>
   split at h
   · rename_i hc
     refine one _ (by show Nat.ble _ _=true;rw[VH];exact hc) rfl (by simpa[Yt,hu]using hok) (by simp only[Shp,hu];exact⟨st,rfl,hc⟩) fun sp _=>?_
     rw[DataW.trod_step]at hh ⊢;unfold DataW.trodStep at hh ⊢;simp only[hu]at hh ⊢;exact hh
   · simp at h
  case h_7 e hu=>
   simp only[Yt,hu,zn]at hok;refine⟨⟨[.sl (P.cellsOf e) []],.cons (.sl (l:=[]) (vs:=[]) .nil (by simp) (by simp) (by simp) (by simp[maxLen]) (.inl rfl)) .nil,by simp[T.isAgg],by rw[zf hok.1];rfl,?_⟩,fun sp _=>?_⟩
   · simp only[Shp,hu];exact⟨[],rfl,by simp,by simp⟩
   · rw[DataW.trod_step]at hh ⊢;unfold DataW.trodStep at hh ⊢;simp only[hu]at hh ⊢;exact hh
  case h_8 e a len cap hu=>
   simp only[Yt,hu,zn,List.contains_iff_mem]at hok;obtain⟨ho1,ho2,ho3⟩:=hok;have hk:0<P.cellsOf e:=by rw[Vp]at ho3;exact ho3
   simp only[]at h;split at h
   · rename_i hc
     obtain⟨hc0,hc1,hc2⟩:=hc;simp only[Vy,VD]at h;obtain⟨elems,he,rest,hrest,rfl⟩:=h;have hlen:elems.length=len:=by simpa using mapM_some_length he
     obtain⟨css,hcl,hcs⟩:=qj9 he;have hz:∀cs∈css,∃z:T,RepA (hv w) z.cells cs∧(∀y∈z.cells,y.isAgg=false)∧z.cells.length=P.cellsOf e∧z.isAgg=y7 P e∧Shp P fuel e z.cells:=by
      intro cs hm;obtain⟨i,hi⟩:=Vu.1 hm
      obtain⟨_,y,_,hy⟩:=hcs i cs hi;exact qnn (hS e ho2) (ih e ho2 _ _ hy)
     obtain⟨l,hl⟩:=ql5 hz;obtain⟨r1,r2⟩:=qf7 hl;have hll:l.length=len:=by rw[← hl.length,hcl]
     have hrd:=ql4 (w:=w) (a:=a) hk css 0 fun i cs hi=>by rw[zG];exact(hcs i cs hi).1
     refine⟨⟨[.sl (P.cellsOf e) l],.cons ?_ .nil,by simp[T.isAgg],by rw[zf ho1];rfl,?_⟩,fun sp hsp=>?_⟩
     · rw[← hll]
       refine .sl r1 r2 (fun x hx=>?_) (by rw[hll];exact hc1) hc2 ?_
       · obtain⟨cs,hx1⟩:=hl.right x hx
         exact hx1.2.2.1
       · cases hl0:css with
         | nil=>rw[hl0]at hcl;left;rw[← KK];rw[hll,← hcl];rfl
         | cons c0 css'=>
          right;have h0:=(hcs 0 c0 (by rw[hl0];rfl)).1
          obtain⟨_,hcl0,hcc⟩:=World.cells?_some h0
          have h00:=hcc 0 hk
          have hc00:c0[0]?=some (c0[0]'(by omega)):=by rw[zt]
          rw[hc00]at h00;have hsp:a.spot=none:=by
           have e0:(a.add (0*P.cellsOf e)).add 0=a:=by unfold Addr.add;simp
           rw[e0]at h00;exact(qeB h00).1
          refine⟨a.block,a.off,by cases a;simp at hsp;subst hsp;rfl,fun j c hj=>?_⟩
          rw[← hl0]at hj;have:=(hrd j c hj).1
          simpa using this
     · simp only[Shp,hu]
       refine⟨l,rfl,by omega,fun x hx=>?_⟩
       obtain⟨cs,hx1⟩:=hl.right x hx;exact⟨hx1.2.2.2.1,hx1.2.2.2.2⟩
     · rw[DataW.trod_step]
       unfold DataW.trodStep;simp only[hu];rw[zA ⟨hc0,hc1,hc2⟩];simp only[Vy,VD];have elem:∀(i:Nat) (y:DataW H×List MemPlace),y∈elems++rest→(w.cells? 0 (a.add (i*P.cellsOf e)) (P.cellsOf e)).bind (DataW.trod enc P w 0 (fun _=>true) true fuel e)=some y →
        (w.cells? 0 (a.add (i*P.cellsOf e)) (P.cellsOf e)).bind (DataW.trod enc P w 0 sp true fuel e)=some y:=by
        intro i y hy h1;obtain⟨cs,h2,h3⟩:=VD.1 h1;refine VD.2 ⟨cs,h2,(ih e ho2 _ _ h3).2 sp fun p hp=>hsp p ?_⟩
        exact VN _ (KT.2 ⟨y,hy,hp⟩)
       refine⟨elems,mapM_carry he fun i y _ hy h1=>elem i y (K4 _ hy) h1,rest,?_,rfl⟩
       simp only[if_true]at hrest;by_cases h0:cap-len=0
       · rw[h0]at hrest ⊢
         simp at hrest;subst hrest;split <;> rfl
       · have hrl:rest.length=cap-len:=by simpa using mapM_some_length hrest
         have:sp a.block=true:=hsp (.cell a.block (a.off+0)) (K4 _ (MemPlace.mem_row.2 ⟨0,Wm (by omega) hk,rfl⟩))
         rw[zA this];exact mapM_carry hrest fun i y _ hy h1=>elem _ y (VN _ hy) h1
   · simp at h
  case h_9 fs hu=>
   simp only[Yt,hu]at hok;split at h
   · rename_i hc
     simp only[Vy]at h;obtain⟨ys,hy,rfl⟩:=h;rw[← hc]at hok;obtain⟨parts,b1,b2,b3⟩:=qeC ih fs.toList 0 ys hok hy
     rw[KM]at b1;refine⟨⟨parts.flatten,b1,b2,by rw[b1.length,hc],?_⟩,fun sp hsp=>?_⟩
     · simp only[Shp,hu];exact⟨parts,rfl,b3⟩
     · rw[DataW.trod_step]
       unfold DataW.trodStep;simp only[hu];rw[zA hc];simp only[Vy];have inS:∀(N:Nat) (l:List Field) (o:Nat),qf6 P S N o l=true→∀f∈l,f.type∈S:=by
        intro N l;induction l with
        | nil=>intro o _ f hf;simp at hf
        | cons g l ihl=>
         intro o ht f hf;simp only[qf6,zn]at ht;rcases zS.1 hf with rfl | hf
         · simpa using ht.2.1
         · exact ihl _ ht.2.2 f hf
       refine⟨ys,mapM_carry hy fun f y hf hym h1=>(ih f.type (inS _ _ _ hok f hf) _ _ h1).2 sp fun p hp=>hsp p (KT.2 ⟨y,hym,hp⟩),rfl⟩
   · simp at h
  all_goals first
   | (rename_i hu;simp[Yt,hu]at hok;done)
   | (rename_i hu _;simp[Yt,hu]at hok;done)
   | (simp at h;done)
end
end Su
end
section
namespace Su
open Go Fly Go.RowKit Go.ChangeShapes
section
variable {H:Type} {enc:TypeId×Value→H} {P:Program} {w:World} {S:List Nat}
def qka(P:Program)(t:Nat)(x:T):Prop:=x.isAgg=y7 P t∧∃fuel,Shp P fuel t x.cells
theorem qvd{r:Reach}{b0:Nat}{t:Nat}{cs:Array Value}(hok:Yt P S t=true)(hg:y7 P t=false)(h:Value.okWide P w r b0 t (.agg cs)):False:=by
 unfold Yt at hok;unfold Value.okWide Cell.okWide Cell.ok at h;unfold y7 at hg;split at hok
 all_goals rename_i hu
 all_goals first
  | (simp[hu]at hok;done)
  | (simp[hu]at hg;done)
  | (simp[hu]at h;done)
theorem qsq(hS:∀t∈S,Yt P S t=true){r:Reach}{b0 t:Nat}{v:Value}{d:DataW H}{p:List MemPlace}(ht:t∈S)(hval:Value.okWide P w r b0 t v)(h:DataW.Trod enc P w 0 (fun _=>true) true t v d p) :
 (∃x,Rep (hv w) x v∧qka P t x)∧∀sp:Nat→Bool,(∀q∈p,sp q.block=true)→DataW.Trod enc P w 0 sp true t v d p:=by
 obtain⟨fuel,hf⟩:=h;have hgood:=qno hS fuel t ht _ _ hf;refine⟨?_,fun sp hsp=>⟨fuel,hgood.2 sp hsp⟩⟩
 obtain⟨⟨xs,h1,h2,h3,h4⟩,_⟩:=hgood;cases hg:y7 P t with
 | true=>
  have:∃cs,v = .agg cs:=by
   unfold y7 at hg;split at hg
   · rename_i fs hu
     unfold Value.okWide at hval;rw[hu]at hval;obtain⟨cs,rfl,_⟩:=hval;exact⟨cs,rfl⟩
   · simp at hg
  obtain⟨cs,rfl⟩:=this;simp only[Value.cells]at h1;exact⟨.agg xs,.agg h1 h2,by rw[hg];rfl,fuel,h4⟩
 | false=>
  obtain⟨z,rfl,hz,hzc⟩:=ql6 h4 hg (hS t ht)
  have hvc:v.cells = #[v]:=by
   cases v with
   | agg cs=>exact absurd hval fun h=>qvd (hS t ht) hg h
   | _=>rfl
  rw[hvc]at h1;cases h1 with
  | cons h1 _=>exact⟨z,h1,by rw[hz,hg],fuel,by rw[hzc];exact h4⟩
theorem qaG(hS:∀t∈S,Yt P S t=true){r:Reach}{b0:Nat}:∀(ts:List Nat) (vs:List Value) (ds:List (DataW H)) (p:List MemPlace),(∀t∈ts,t∈S)→(∀(j:Nat) t v,ts[j]?=some t→vs[j]?=some v→Value.okWide P w r b0 t v) →
 DataW.TrodAll enc P w 0 (fun _=>true) true ts vs ds p →
 (∃xs,RepA (hv w) xs vs∧All2 (qka P) ts xs)∧∀sp:Nat→Bool,(∀q∈p,sp q.block=true)→DataW.TrodAll enc P w 0 sp true ts vs ds p
 | [],vs,ds,p,_,_,h=>by
  obtain⟨rfl,rfl,rfl⟩:=trodAll_nil h;exact⟨⟨[],.nil,.nil⟩,fun _ _=>rfl⟩
 | t::ts,vs,ds,p,hts,hval,h=>by
  obtain⟨v,vs1,d,ds1,a,b,rfl,rfl,rfl,h1,h2⟩:=trodAll_cons h;obtain⟨⟨x,a1,a2⟩,a3⟩:=qsq hS (hts t (zE ..)) (hval 0 t v rfl rfl) h1
  obtain⟨⟨xs,b1,b2⟩,b3⟩:=qaG hS ts vs1 ds1 b (fun u hu=>hts u (zB _ hu)) (fun j t v hj hv=>hval (j+1) t v (by simpa using hj) (by simpa using hv)) h2
  exact⟨⟨x::xs,.cons a1 b1,.cons a2 b2⟩,fun sp hsp=>⟨a,b,a3 sp fun q hq=>hsp q (K4 _ hq),b3 sp fun q hq=>hsp q (VN _ hq),rfl⟩⟩
theorem qaf{w':World}{base:Nat}{sp:Nat→Bool}:∀(ts:List Nat) (vs:List Value) (ds:List (DataW H)) (p:List MemPlace),DataW.TrodAll enc P w base sp true ts vs ds p→(∀q∈p,w.sameAt w' q)→DataW.TrodAll enc P w' base sp true ts vs ds p
 | [],vs,ds,p,h,_=>by
  obtain⟨rfl,rfl,rfl⟩:=trodAll_nil h;exact rfl
 | t::ts,vs,ds,p,h,hs=>by
  obtain⟨v,vs1,d,ds1,a,b,rfl,rfl,rfl,h1,h2⟩:=trodAll_cons h;obtain⟨fuel,hf⟩:=h1;exact⟨a,b,⟨fuel,DataW.trod_carry _ _ _ _ hf fun q hq=>hs q (K4 _ hq)⟩,qaf ts vs1 ds1 b h2 fun q hq=>hs q (VN _ hq),rfl⟩
end
end Su
end
