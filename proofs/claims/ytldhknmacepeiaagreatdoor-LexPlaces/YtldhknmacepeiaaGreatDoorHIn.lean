/-
  The law and its row.
-/
import Derived.Test.YtldhknmacepeiaaGreatDoorHTk
import Derived.Test.YtldhknmacepeiaaGreatDoorNX03
import Derived.Test.YtldhknmacepeiaaGreatDoorSuTb
import Derived.Test.YtldhknmacepeiaaGreatDoorNL11
import Derived.Test.YtldhknmacepeiaaGreatDoorSuP0
import Derived.ChangeSame
import Derived.ChangeOld
import Derived.DataReads
import Derived.Test.YtldhknmacepeiaaGreatDoorSuE
import Derived.RowKit
import Derived.Test.YtldhknmacepeiaaGreatDoorFlyM
set_option linter.unusedVariables false
set_option linter.unusedSimpArgs false
set_option maxRecDepth 10000
section
namespace Fly
open Go Go.Proofs Su
set_option maxRecDepth 10000
section
variable {P:Program} {n:Nat} {X:Cx} {L:Lo} {V:qa} {G:Own} {Q:Value→qa→Own→Prop}
variable {ty:TypeId} {pos:String} {af:Array Edge} {gd:Option (Nat×Bool)} {ds:Option Tmp}
theorem Y8{t u:TypeId}{x y:Operand}{p q:ByteArray}{b:Bool}(hx:ev L x=some (.string p))(hy:ev L y=some (.string q))(h:(!decide (p=q))=b)(k:Q (.bool b) V G):Opr P n X L V G ⟨ds,.binOp .neq t x y u,ty,pos,af,gd⟩ Q :=
 J9 hx hy (by rw[h];exact k)
theorem qcJ{t u:TypeId}{x y:Operand}{κ:IntKind}{p q:Int}{b:Bool}(hx:ev L x=some (.int κ p))(hy:ev L y=some (.int κ q))(h:decide (p≤q)=b)(k:Q (.bool b) V G):Opr P n X L V G ⟨ds,.binOp .leq t x y u,ty,pos,af,gd⟩ Q :=
 ZQ hx hy (by rw[h];exact k)
theorem qii(T:Tabs P){t u:TypeId}{x:Operand}{κ κ' κ'':IntKind}{p q:Int}(hx:ev L x=some (.int κ p))(ht:T.ik t=some κ'')(hu:T.ik u=some κ')(h:κ'.wrap p=q)(k:Q (.int κ' q) V G) :
 Opr P n X L V G ⟨ds,.convert t u x,ty,pos,af,gd⟩ Q:=qw T hx ht hu (by rw[h];exact k)
end
theorem qij{S:List UInt8}{p:Nat}{c:UInt8}(h:S[p]?=some c):(bs S).get! p=c:=by
 obtain⟨hp,e⟩:=zp.1 h
 show Eq ((S.toArray)[p]!) c
 rw[getElem!_pos S.toArray p (by simpa using hp)];simpa using e
theorem qrg{S:List UInt8}{p:Nat}{c:UInt8}(h:S[p]?=some c)(hc:c.toNat<128):Utf8.decode (bs S) p=(c.toNat,1):=by
 unfold Utf8.decode;simp only[KB,qij h];rw[zA hc]
theorem qxq{S:List UInt8}{p:Nat}{c:UInt8}(h:S[p]?=some c)(hc : ¬c.toNat<128):127<(Utf8.decode (bs S) p).1:=by
 unfold Utf8.decode Utf8.runeError;simp only[KB,qij h];rw[zx hc]
 repeat' split
 all_goals first
  | (show 127<65533;decide)
  | (dsimp only;(try simp only[zn,zL,ge_iff_le]at *);omega)
end Fly
namespace Su
open Go Go.Proofs Fly
theorem qik{V:qa}(hgk:GOK tb V)(c:UInt8):jw Tryz.prog 76 #[.int .u8 ((c.toNat:Nat):Int)] V [] fun v _ G=>v = .bool (JZ c)∧G=[]:=by
 have hc:=c.toNat_lt;refine qq7 qre hgk (xs:=[.s (.int .u8 ((c.toNat:Nat):Int))]) (vs:=[_]) (a:=((c.toNat:Nat):Int)) ?_ (qys c) (.cons (.s (qdA.2 ⟨by omega,by omega⟩)) .nil) ?_
 · rfl
 · intro V' rvs m
   cases m with | cons m1 m=>cases m with | nil=>cases m1 with | s _=>exact⟨rfl,rfl⟩
def nmB(S:List UInt8):Bool:=S.all JZ&&(bif S.isEmpty then false else(Nat.ble S.length 32&&((S[0]?).any yT&&!ZE S)))
end Su
namespace Fly
open Go Go.Proofs Su
set_option maxRecDepth 10000
attribute [local irreducible] WC WE WR Opr St Go.Calls qgH qiq qai Rel jw qg1 qiu Owe One qcM Go.CallsD
theorem qrh{V:qa}(hgk:GOK Su.tb V){S:List UInt8}(hS:S.length≤1000000){Q:Value→qa→Own→Prop}(hQ:∀V',Q (.bool (nmB S)) V' []):jw Tryz.prog 35 #[.string (bs S)] V [] Q:=by
 refine jf (args:=[_]) Tryz.func35 rfl Tryz.ntmps35 rfl ?_
 intro X w hM hb hw hV0 hR;dsimp only[Qf,Nat.zero_add,Nat.reduceAdd]
 (repeat' (first | refine jo ?_ | refine qz ?_ | refine jp ?_ | refine q9 ?_ | refine qU ?_ | refine jg ?_ | refine jy ?_ | refine jh ?_ | refine qp ?_ | refine qo ?_ | refine qx rfl ?_ | refine qu ?_ | refine ju ?_ | ((first | refine qV rfl ?_ | refine ji ?_ | refine yd rfl rfl rfl ?_);(first | (apply qmz;(· exact rfl);(· exact JJ);intro b) | refine qY rfl ?_ | refine qA rfl ?_ | refine qy rfl rfl ?_ | refine jz rfl ?_ | refine qH rfl rfl ?_ | refine qI rfl rfl ?_ | refine jc rfl rfl (by omega) (by omega) ?_ | refine qk tb rfl rfl ?_ | refine qw tb rfl rfl rfl ?_ | (apply qZ tb rfl rfl;(· (first | (refine At.own (?_);repeat (first | exact Has.here | refine Has.there ?_)) | exact At.seen (by assumption)));(· exact rfl)) | (apply qW tb rfl rfl;(· (first | (refine At.own (?_);repeat (first | exact Has.here | refine Has.there ?_)) | exact At.seen (by assumption)));(· exact rfl)) | (apply qJ tb rfl rfl rfl rfl rfl;(· (repeat (first | exact Upd.here | apply Upd.there)));(· exact rfl)) | (apply qL tb rfl rfl rfl rfl rfl;(· (repeat (first | exact Upd.here | apply Upd.there)));(· exact rfl)) | (apply qS tb (by kernel_rfl) rfl (rfl:tb.fo _ 0=_);(· (repeat (first | exact Fill.nil | (apply Fill.cons;(· exact rfl);(· exact rfl);(· exact rfl);(· exact rfl);(· exact rfl)))))) | (refine ja rfl ?_;intro b) | (refine je rfl rfl ?_;intro b) | (refine qR tb rfl ?_;intro b))) | refine Qs rfl rfl rfl rfl ?_ | refine qF rfl ?_ | refine qG rfl ?_))
 refine qmX (fun L' V' G' μ=>∃p:Nat,p≤S.length∧μ=S.length-p∧Sub V V'∧G'=[(b,.stringIter (bs S) p)]∧L'=[(0,.string (bs S)),(2,.bool false),(6,.pointer (some ⟨b,0,none⟩))]∧∀j c,j<p→S[j]?=some c→JZ c=true) (G0:=[(b,.stringIter (bs S) 0)]) (m0:=S.length) (by repeat (first | exact SubL.nil | refine SubL.cons rfl ?_)) (VB _) ⟨0,by omega,by omega,Sub.refl _,rfl,rfl,fun j c hj=>by omega⟩ ?_
 rintro L' V' G' μ ⟨p,hp,hμ,hVs,hGe,hLe,hall⟩
 subst hGe hLe
 have hgk':=GOK.mono hgk hVs;by_cases hlt:p<S.length
 · obtain⟨c,hc⟩:∃c,S[p]?=some c:=⟨_,zq hlt⟩
   have hps:p<(bs S).size:=by rw[qe];exact hlt
   have hmem:c∈S:=Ku hc
   cases hin:JZ c with
   | true=>
    have h128:c.toNat<128:=by
     unfold JZ yT isD at hin;simp only[VP,zn,VA,Nat.beq_eq]at hin;omega
    have hd:=qrg hc h128;have hw8:IntKind.u8.wrap ((c.toNat:Nat):Int)=((c.toNat:Nat):Int):=Qp (qdA.2 ⟨by omega,by omega⟩)
    (repeat' (first | refine jo ?_ | refine qz ?_ | refine jp ?_ | refine q9 ?_ | refine qU ?_ | refine jg ?_ | refine jy ?_ | refine jh ?_ | refine qp ?_ | refine qo ?_ | refine qx rfl ?_ | refine qu ?_ | refine ju ?_ | ((first | refine qV rfl ?_ | refine ji ?_ | refine yd rfl rfl rfl ?_);(first | (apply qd9;(· exact rfl);(· exact Upd.here);(· exact hps);(· exact hd)) | (apply Q7;(· exact rfl);(· exact rfl);(· omega)) | (apply qii tb;(· exact rfl);(· exact rfl);(· exact rfl);(· exact hw8)) | (refine qP (first:=[]) (cap:=[]) tb rfl rfl rfl (qik hgk' c) (zJ _) ?_;rintro _ V1 _ hs1 ⟨rfl,rfl⟩;dsimp only[List.nil_append];rw[hin]) | refine qY rfl ?_ | refine qA rfl ?_ | refine qy rfl rfl ?_ | refine jz rfl ?_ | refine qH rfl rfl ?_ | refine qI rfl rfl ?_ | refine jc rfl rfl (by omega) (by omega) ?_ | refine qk tb rfl rfl ?_ | refine qw tb rfl rfl rfl ?_ | (apply qZ tb rfl rfl;(· (first | (refine At.own (?_);repeat (first | exact Has.here | refine Has.there ?_)) | exact At.seen (by assumption)));(· exact rfl)) | (apply qW tb rfl rfl;(· (first | (refine At.own (?_);repeat (first | exact Has.here | refine Has.there ?_)) | exact At.seen (by assumption)));(· exact rfl)) | (apply qJ tb rfl rfl rfl rfl rfl;(· (repeat (first | exact Upd.here | apply Upd.there)));(· exact rfl)) | (apply qL tb rfl rfl rfl rfl rfl;(· (repeat (first | exact Upd.here | apply Upd.there)));(· exact rfl)) | (apply qS tb (by kernel_rfl) rfl (rfl:tb.fo _ 0=_);(· (repeat (first | exact Fill.nil | (apply Fill.cons;(· exact rfl);(· exact rfl);(· exact rfl);(· exact rfl);(· exact rfl)))))) | (refine ja rfl ?_;intro b) | (refine je rfl rfl ?_;intro b) | (refine qR tb rfl ?_;intro b))) | refine Qs rfl rfl rfl rfl ?_ | refine qF rfl ?_ | refine qG rfl ?_))
    exact qmY (by repeat (first | exact SubL.nil | refine SubL.cons rfl ?_)) (VB _) ⟨p+1,by omega,rfl,hVs.trans hs1,rfl,rfl,fun j d hj hdj=>by
     by_cases h:j=p
     · subst h;rw[hc]at hdj;cases hdj;exact hin
     · exact hall j d (by omega) hdj⟩ (by omega)
   | false=>
    have hf:∀V',Q (.bool false) V' []:=fun V'=>by
     have:nmB S=false:=by
      unfold nmB;have:S.all JZ=false:=by
       cases ha:S.all JZ with
       | false=>rfl
       | true=>rw[z7.1 ha c hmem]at hin;cases hin
      rw[this];rfl
     have h:=hQ V'
     rwa [this]at h
    by_cases h128:c.toNat<128
    · have hd:=qrg hc h128
      have hw8:IntKind.u8.wrap ((c.toNat:Nat):Int)=((c.toNat:Nat):Int):=Qp (qdA.2 ⟨by omega,by omega⟩)
      (repeat' (first | refine jo ?_ | refine qz ?_ | refine jp ?_ | refine q9 ?_ | refine qU ?_ | refine jg ?_ | refine jy ?_ | refine jh ?_ | refine qp ?_ | refine qo ?_ | refine qx rfl ?_ | refine qu ?_ | refine ju ?_ | ((first | refine qV rfl ?_ | refine ji ?_ | refine yd rfl rfl rfl ?_);(first | (apply qd9;(· exact rfl);(· exact Upd.here);(· exact hps);(· exact hd)) | (apply Q7;(· exact rfl);(· exact rfl);(· omega)) | (apply qii tb;(· exact rfl);(· exact rfl);(· exact rfl);(· exact hw8)) | (refine qP (first:=[]) (cap:=[]) tb rfl rfl rfl (qik hgk' c) (zJ _) ?_;rintro _ V1 _ hs1 ⟨rfl,rfl⟩;dsimp only[List.nil_append];rw[hin]) | refine qY rfl ?_ | refine qA rfl ?_ | refine qy rfl rfl ?_ | refine jz rfl ?_ | refine qH rfl rfl ?_ | refine qI rfl rfl ?_ | refine jc rfl rfl (by omega) (by omega) ?_ | refine qk tb rfl rfl ?_ | refine qw tb rfl rfl rfl ?_ | (apply qZ tb rfl rfl;(· (first | (refine At.own (?_);repeat (first | exact Has.here | refine Has.there ?_)) | exact At.seen (by assumption)));(· exact rfl)) | (apply qW tb rfl rfl;(· (first | (refine At.own (?_);repeat (first | exact Has.here | refine Has.there ?_)) | exact At.seen (by assumption)));(· exact rfl)) | (apply qJ tb rfl rfl rfl rfl rfl;(· (repeat (first | exact Upd.here | apply Upd.there)));(· exact rfl)) | (apply qL tb rfl rfl rfl rfl rfl;(· (repeat (first | exact Upd.here | apply Upd.there)));(· exact rfl)) | (apply qS tb (by kernel_rfl) rfl (rfl:tb.fo _ 0=_);(· (repeat (first | exact Fill.nil | (apply Fill.cons;(· exact rfl);(· exact rfl);(· exact rfl);(· exact rfl);(· exact rfl)))))) | (refine ja rfl ?_;intro b) | (refine je rfl rfl ?_;intro b) | (refine qR tb rfl ?_;intro b))) | refine Qs rfl rfl rfl rfl ?_ | refine qF rfl ?_ | refine qG rfl ?_))
      exact jl hM hw hV0 hR [] (Kr _) (qcd rfl rfl) (hf _)
    · have hgt:=qxq hc h128
      obtain⟨r,wd,hd⟩:∃r wd,Utf8.decode (bs S) p=(r,wd):=⟨_,_,rfl⟩
      rw[hd]at hgt
      (repeat' (first | refine jo ?_ | refine qz ?_ | refine jp ?_ | refine q9 ?_ | refine qU ?_ | refine jg ?_ | refine jy ?_ | refine jh ?_ | refine qp ?_ | refine qo ?_ | refine qx rfl ?_ | refine qu ?_ | refine ju ?_ | ((first | refine qV rfl ?_ | refine ji ?_ | refine yd rfl rfl rfl ?_);(first | (apply qd9;(· exact rfl);(· exact Upd.here);(· exact hps);(· exact hd)) | (apply Q6;(· exact rfl);(· exact rfl);(· omega)) | refine qY rfl ?_ | refine qA rfl ?_ | refine qy rfl rfl ?_ | refine jz rfl ?_ | refine qH rfl rfl ?_ | refine qI rfl rfl ?_ | refine jc rfl rfl (by omega) (by omega) ?_ | refine qk tb rfl rfl ?_ | refine qw tb rfl rfl rfl ?_ | (apply qZ tb rfl rfl;(· (first | (refine At.own (?_);repeat (first | exact Has.here | refine Has.there ?_)) | exact At.seen (by assumption)));(· exact rfl)) | (apply qW tb rfl rfl;(· (first | (refine At.own (?_);repeat (first | exact Has.here | refine Has.there ?_)) | exact At.seen (by assumption)));(· exact rfl)) | (apply qJ tb rfl rfl rfl rfl rfl;(· (repeat (first | exact Upd.here | apply Upd.there)));(· exact rfl)) | (apply qL tb rfl rfl rfl rfl rfl;(· (repeat (first | exact Upd.here | apply Upd.there)));(· exact rfl)) | (apply qS tb (by kernel_rfl) rfl (rfl:tb.fo _ 0=_);(· (repeat (first | exact Fill.nil | (apply Fill.cons;(· exact rfl);(· exact rfl);(· exact rfl);(· exact rfl);(· exact rfl)))))) | (refine ja rfl ?_;intro b) | (refine je rfl rfl ?_;intro b) | (refine qR tb rfl ?_;intro b))) | refine Qs rfl rfl rfl rfl ?_ | refine qF rfl ?_ | refine qG rfl ?_))
      exact jl hM hw hV0 hR [] (Kr _) (qcd rfl rfl) (hf _)
 · have hpe : ¬p<(bs S).size:=by rw[qe];exact hlt
   have ha:S.all JZ=true:=z7.2 fun c hm=>by
    obtain⟨j,hj⟩:=Vm.1 hm
    have:=(zp.1 hj).1
    exact hall j c (by omega) hj
   by_cases hnil:S=[]
   · have hf:∀V',Q (.bool false) V' []:=fun V'=>by
      have h:=hQ V';have:nmB S=false:=by subst hnil;rfl
      rwa [this]at h
     have hne:(!decide (bs S=ByteArray.mk (List.toArray [])))=false:=by rw[za (by rw[hnil];rfl)];rfl
     (repeat' (first | refine jo ?_ | refine qz ?_ | refine jp ?_ | refine q9 ?_ | refine qU ?_ | refine jg ?_ | refine jy ?_ | refine jh ?_ | refine qp ?_ | refine qo ?_ | refine qx rfl ?_ | refine qu ?_ | refine ju ?_ | ((first | refine qV rfl ?_ | refine ji ?_ | refine yd rfl rfl rfl ?_);(first | (apply Y6;(· exact rfl);(· exact Has.here);(· exact hpe)) | (apply Y8;(· exact rfl);(· exact rfl);(· exact hne)) | refine qY rfl ?_ | refine qA rfl ?_ | refine qy rfl rfl ?_ | refine jz rfl ?_ | refine qH rfl rfl ?_ | refine qI rfl rfl ?_ | refine jc rfl rfl (by omega) (by omega) ?_ | refine qk tb rfl rfl ?_ | refine qw tb rfl rfl rfl ?_ | (apply qZ tb rfl rfl;(· (first | (refine At.own (?_);repeat (first | exact Has.here | refine Has.there ?_)) | exact At.seen (by assumption)));(· exact rfl)) | (apply qW tb rfl rfl;(· (first | (refine At.own (?_);repeat (first | exact Has.here | refine Has.there ?_)) | exact At.seen (by assumption)));(· exact rfl)) | (apply qJ tb rfl rfl rfl rfl rfl;(· (repeat (first | exact Upd.here | apply Upd.there)));(· exact rfl)) | (apply qL tb rfl rfl rfl rfl rfl;(· (repeat (first | exact Upd.here | apply Upd.there)));(· exact rfl)) | (apply qS tb (by kernel_rfl) rfl (rfl:tb.fo _ 0=_);(· (repeat (first | exact Fill.nil | (apply Fill.cons;(· exact rfl);(· exact rfl);(· exact rfl);(· exact rfl);(· exact rfl)))))) | (refine ja rfl ?_;intro b) | (refine je rfl rfl ?_;intro b) | (refine qR tb rfl ?_;intro b))) | refine Qs rfl rfl rfl rfl ?_ | refine qF rfl ?_ | refine qG rfl ?_))
     exact jl hM hw hV0 hR [] (Kr _) (qcd rfl rfl) (hf _)
   · have hne:(!decide (bs S=ByteArray.mk (List.toArray [])))=true:=by rw[zk (fun e=>hnil (yC.1 (e.trans (qQ []))))];rfl
     obtain⟨c,r,ecr⟩:∃c r,S=c::r:=by
      cases S with
      | nil=>exact absurd rfl hnil
      | cons c r=>exact⟨c,r,rfl⟩
     have hcx:(bs S)[(0:Int).toNat]?=some c:=by show(bs S)[0]?=some c;rw[qq,ecr];rfl
     have hem:S.isEmpty=false:=by rw[ecr];rfl
     have h0:(S[0]?).any yT=yT c:=by rw[ecr];rfl
     have hnm:nmB S=(Nat.ble S.length 32&&(yT c&&!ZE S)):=by unfold nmB;rw[ha,hem,h0];rfl
     by_cases h32:S.length≤32
     · have hle:decide ((((bs S).size:Nat):Int)≤32)=true:=za (by rw[qe];omega)
       rw[zr h32,zZ]at hnm;cases hl:yT c with
       | false=>
        have hf:∀V',Q (.bool false) V' []:=fun V'=>by
         have h:=hQ V';rw[hnm,hl]at h;exact h
        (repeat' (first | refine jo ?_ | refine qz ?_ | refine jp ?_ | refine q9 ?_ | refine qU ?_ | refine jg ?_ | refine jy ?_ | refine jh ?_ | refine qp ?_ | refine qo ?_ | refine qx rfl ?_ | refine qu ?_ | refine ju ?_ | ((first | refine qV rfl ?_ | refine ji ?_ | refine yd rfl rfl rfl ?_);(first | (apply Y6;(· exact rfl);(· exact Has.here);(· exact hpe)) | (apply Y8;(· exact rfl);(· exact rfl);(· exact hne)) | (apply QK;(· exact rfl);(· exact rfl);(· exact JJ)) | (apply qcJ;(· exact rfl);(· exact rfl);(· exact hle)) | (apply Qa;(· exact rfl);(· exact rfl);(· exact JJ);(· decide);(· exact hcx)) | (refine qP (first:=[]) (cap:=[]) tb rfl rfl rfl (Ju hgk' c) (zJ _) ?_;rintro _ V1 _ hs1 ⟨rfl,rfl⟩;dsimp only[List.nil_append];rw[hl]) | refine qY rfl ?_ | refine qA rfl ?_ | refine qy rfl rfl ?_ | refine jz rfl ?_ | refine qH rfl rfl ?_ | refine qI rfl rfl ?_ | refine jc rfl rfl (by omega) (by omega) ?_ | refine qk tb rfl rfl ?_ | refine qw tb rfl rfl rfl ?_ | (apply qZ tb rfl rfl;(· (first | (refine At.own (?_);repeat (first | exact Has.here | refine Has.there ?_)) | exact At.seen (by assumption)));(· exact rfl)) | (apply qW tb rfl rfl;(· (first | (refine At.own (?_);repeat (first | exact Has.here | refine Has.there ?_)) | exact At.seen (by assumption)));(· exact rfl)) | (apply qJ tb rfl rfl rfl rfl rfl;(· (repeat (first | exact Upd.here | apply Upd.there)));(· exact rfl)) | (apply qL tb rfl rfl rfl rfl rfl;(· (repeat (first | exact Upd.here | apply Upd.there)));(· exact rfl)) | (apply qS tb (by kernel_rfl) rfl (rfl:tb.fo _ 0=_);(· (repeat (first | exact Fill.nil | (apply Fill.cons;(· exact rfl);(· exact rfl);(· exact rfl);(· exact rfl);(· exact rfl)))))) | (refine ja rfl ?_;intro b) | (refine je rfl rfl ?_;intro b) | (refine qR tb rfl ?_;intro b))) | refine Qs rfl rfl rfl rfl ?_ | refine qF rfl ?_ | refine qG rfl ?_))
        exact jl hM hw hV0 hR [] (Kr _) (qcd rfl rfl) (hf _)
       | true=>
        cases hw0:ZE S with
        | true=>
         have hf:∀V',Q (.bool false) V' []:=fun V'=>by
          have h:=hQ V';rw[hnm,hl,hw0]at h;exact h
         (repeat' (first | refine jo ?_ | refine qz ?_ | refine jp ?_ | refine q9 ?_ | refine qU ?_ | refine jg ?_ | refine jy ?_ | refine jh ?_ | refine qp ?_ | refine qo ?_ | refine qx rfl ?_ | refine qu ?_ | refine ju ?_ | ((first | refine qV rfl ?_ | refine ji ?_ | refine yd rfl rfl rfl ?_);(first | (apply Y6;(· exact rfl);(· exact Has.here);(· exact hpe)) | (apply Y8;(· exact rfl);(· exact rfl);(· exact hne)) | (apply QK;(· exact rfl);(· exact rfl);(· exact JJ)) | (apply qcJ;(· exact rfl);(· exact rfl);(· exact hle)) | (apply Qa;(· exact rfl);(· exact rfl);(· exact JJ);(· decide);(· exact hcx)) | (refine qP (first:=[]) (cap:=[]) tb rfl rfl rfl (Ju hgk' c) (zJ _) ?_;rintro _ V1 _ hs1 ⟨rfl,rfl⟩;dsimp only[List.nil_append];rw[hl]) | (refine qP (first:=[]) (cap:=[]) tb rfl rfl rfl (Jt (l:=S) (Q:=fun v _ G=>v = .bool true∧G=[]) ⟨by rw[hw0],rfl⟩) (zJ _) ?_;rintro _ V3 _ hs3 ⟨rfl,rfl⟩;dsimp only[List.nil_append]) | refine qY rfl ?_ | refine qA rfl ?_ | refine qy rfl rfl ?_ | refine jz rfl ?_ | refine qH rfl rfl ?_ | refine qI rfl rfl ?_ | refine jc rfl rfl (by omega) (by omega) ?_ | refine qk tb rfl rfl ?_ | refine qw tb rfl rfl rfl ?_ | (apply qZ tb rfl rfl;(· (first | (refine At.own (?_);repeat (first | exact Has.here | refine Has.there ?_)) | exact At.seen (by assumption)));(· exact rfl)) | (apply qW tb rfl rfl;(· (first | (refine At.own (?_);repeat (first | exact Has.here | refine Has.there ?_)) | exact At.seen (by assumption)));(· exact rfl)) | (apply qJ tb rfl rfl rfl rfl rfl;(· (repeat (first | exact Upd.here | apply Upd.there)));(· exact rfl)) | (apply qL tb rfl rfl rfl rfl rfl;(· (repeat (first | exact Upd.here | apply Upd.there)));(· exact rfl)) | (apply qS tb (by kernel_rfl) rfl (rfl:tb.fo _ 0=_);(· (repeat (first | exact Fill.nil | (apply Fill.cons;(· exact rfl);(· exact rfl);(· exact rfl);(· exact rfl);(· exact rfl)))))) | (refine ja rfl ?_;intro b) | (refine je rfl rfl ?_;intro b) | (refine qR tb rfl ?_;intro b))) | refine Qs rfl rfl rfl rfl ?_ | refine qF rfl ?_ | refine qG rfl ?_))
         exact jl hM hw hV0 hR [] (Kr _) (qcd rfl rfl) (hf _)
        | false=>
         have hf:∀V',Q (.bool true) V' []:=fun V'=>by
          have h:=hQ V';rw[hnm,hl,hw0]at h;exact h
         (repeat' (first | refine jo ?_ | refine qz ?_ | refine jp ?_ | refine q9 ?_ | refine qU ?_ | refine jg ?_ | refine jy ?_ | refine jh ?_ | refine qp ?_ | refine qo ?_ | refine qx rfl ?_ | refine qu ?_ | refine ju ?_ | ((first | refine qV rfl ?_ | refine ji ?_ | refine yd rfl rfl rfl ?_);(first | (apply Y6;(· exact rfl);(· exact Has.here);(· exact hpe)) | (apply Y8;(· exact rfl);(· exact rfl);(· exact hne)) | (apply QK;(· exact rfl);(· exact rfl);(· exact JJ)) | (apply qcJ;(· exact rfl);(· exact rfl);(· exact hle)) | (apply Qa;(· exact rfl);(· exact rfl);(· exact JJ);(· decide);(· exact hcx)) | (refine qP (first:=[]) (cap:=[]) tb rfl rfl rfl (Ju hgk' c) (zJ _) ?_;rintro _ V1 _ hs1 ⟨rfl,rfl⟩;dsimp only[List.nil_append];rw[hl]) | (refine qP (first:=[]) (cap:=[]) tb rfl rfl rfl (Jt (l:=S) (Q:=fun v _ G=>v = .bool false∧G=[]) ⟨by rw[hw0],rfl⟩) (zJ _) ?_;rintro _ V3 _ hs3 ⟨rfl,rfl⟩;dsimp only[List.nil_append]) | refine qY rfl ?_ | refine qA rfl ?_ | refine qy rfl rfl ?_ | refine jz rfl ?_ | refine qH rfl rfl ?_ | refine qI rfl rfl ?_ | refine jc rfl rfl (by omega) (by omega) ?_ | refine qk tb rfl rfl ?_ | refine qw tb rfl rfl rfl ?_ | (apply qZ tb rfl rfl;(· (first | (refine At.own (?_);repeat (first | exact Has.here | refine Has.there ?_)) | exact At.seen (by assumption)));(· exact rfl)) | (apply qW tb rfl rfl;(· (first | (refine At.own (?_);repeat (first | exact Has.here | refine Has.there ?_)) | exact At.seen (by assumption)));(· exact rfl)) | (apply qJ tb rfl rfl rfl rfl rfl;(· (repeat (first | exact Upd.here | apply Upd.there)));(· exact rfl)) | (apply qL tb rfl rfl rfl rfl rfl;(· (repeat (first | exact Upd.here | apply Upd.there)));(· exact rfl)) | (apply qS tb (by kernel_rfl) rfl (rfl:tb.fo _ 0=_);(· (repeat (first | exact Fill.nil | (apply Fill.cons;(· exact rfl);(· exact rfl);(· exact rfl);(· exact rfl);(· exact rfl)))))) | (refine ja rfl ?_;intro b) | (refine je rfl rfl ?_;intro b) | (refine qR tb rfl ?_;intro b))) | refine Qs rfl rfl rfl rfl ?_ | refine qF rfl ?_ | refine qG rfl ?_))
         exact jl hM hw hV0 hR [] (Kr _) (qcd rfl rfl) (hf _)
     · have hle:decide ((((bs S).size:Nat):Int)≤32)=false:=zk (by rw[qe];omega)
       have hf:∀V',Q (.bool false) V' []:=fun V'=>by
        have h:=hQ V';have hb:Nat.ble S.length 32=false:=by
         cases hb:Nat.ble S.length 32 with
         | false=>rfl
         | true=>exact absurd (zo hb) h32
        rw[hnm,hb]at h;exact h
       (repeat' (first | refine jo ?_ | refine qz ?_ | refine jp ?_ | refine q9 ?_ | refine qU ?_ | refine jg ?_ | refine jy ?_ | refine jh ?_ | refine qp ?_ | refine qo ?_ | refine qx rfl ?_ | refine qu ?_ | refine ju ?_ | ((first | refine qV rfl ?_ | refine ji ?_ | refine yd rfl rfl rfl ?_);(first | (apply Y6;(· exact rfl);(· exact Has.here);(· exact hpe)) | (apply Y8;(· exact rfl);(· exact rfl);(· exact hne)) | (apply QK;(· exact rfl);(· exact rfl);(· exact JJ)) | (apply qcJ;(· exact rfl);(· exact rfl);(· exact hle)) | refine qY rfl ?_ | refine qA rfl ?_ | refine qy rfl rfl ?_ | refine jz rfl ?_ | refine qH rfl rfl ?_ | refine qI rfl rfl ?_ | refine jc rfl rfl (by omega) (by omega) ?_ | refine qk tb rfl rfl ?_ | refine qw tb rfl rfl rfl ?_ | (apply qZ tb rfl rfl;(· (first | (refine At.own (?_);repeat (first | exact Has.here | refine Has.there ?_)) | exact At.seen (by assumption)));(· exact rfl)) | (apply qW tb rfl rfl;(· (first | (refine At.own (?_);repeat (first | exact Has.here | refine Has.there ?_)) | exact At.seen (by assumption)));(· exact rfl)) | (apply qJ tb rfl rfl rfl rfl rfl;(· (repeat (first | exact Upd.here | apply Upd.there)));(· exact rfl)) | (apply qL tb rfl rfl rfl rfl rfl;(· (repeat (first | exact Upd.here | apply Upd.there)));(· exact rfl)) | (apply qS tb (by kernel_rfl) rfl (rfl:tb.fo _ 0=_);(· (repeat (first | exact Fill.nil | (apply Fill.cons;(· exact rfl);(· exact rfl);(· exact rfl);(· exact rfl);(· exact rfl)))))) | (refine ja rfl ?_;intro b) | (refine je rfl rfl ?_;intro b) | (refine qR tb rfl ?_;intro b))) | refine Qs rfl rfl rfl rfl ?_ | refine qF rfl ?_ | refine qG rfl ?_))
       exact jl hM hw hV0 hR [] (Kr _) (qcd rfl rfl) (hf _)
end Fly
namespace Su
open Go Go.Proofs Fly
def quQ(s:ByteArray):Option Bool:=bif Nat.ble (lb s).length 1000000 then some (nmB (lb s))else none
noncomputable def quR:PrimD:=prim (d1 cS) (d1 cB) quQ
theorem qyX:OkT 35 quR:=by
 refine⟨by kernel_rfl,fun xs y h V vs hgk hr=>?_,fun j hj=>nomatch hj⟩
 obtain⟨s,h1,h2⟩:=osm (show((d1 cS).dec xs).bind quQ=some y from h)
 have hr2:=(d1 cS).rep h1 hr
 obtain⟨h3,h4⟩:=qh h2;have:=soi h4;subst this
 cases hr2 with | cons k1 k2=>
 cases k2 with | nil=>
 cases k1 with | s k1=>
 have h3:(lb s).length≤1000000:=zo h3
 have e:s=bs (lb s):=(qb8 s).symm
 show jw Tryz.prog 35 #[.string s] V [] _
 rw[e];exact qrh hgk h3 fun V'=>⟨[_],.cons (.s rfl) .nil,rfl⟩
end Su
end
section
namespace Su
noncomputable section
open Go Go.Proofs Fly
set_option maxRecDepth 100000
def qri(t:List UInt8)(pw:Int):Int×Int :=
 if t=[]∨(t.length:Int)+pw < -325 then(0,0)else
 if 320<(t.length:Int)+pw then(0,82)else
 qd8 (dv t*pT pw) fun N=>qd8 (pU pw) fun D=>qd8 (JX N D) fun M=>qd8 (jL N D+6000).toNat fun E=>qd8 (RN false 0 M E (qe4 N D)) fun r=>if r=9218868437227405312 then(0,82)else(((r:Nat):Int),0)
theorem qrj(t:List UInt8)(pw:Int):qri t pw=qpa t pw:=by
 unfold qri qpa;simp only[qll,qdN]
def qtI(S:List UInt8):Int×Int :=
 if 400<S.length then(0,81)else
 if(ptL S).2.2=false then(0,80)else qri ((ptL S).1.dropWhile (· == 48)) (ptL S).2.1
theorem qtJ(S:List UInt8):qtI S=QQ S:=by unfold qtI QQ;rw[qrj]
def qtK(t:Tk)(l:List UInt8)(fl:Bool):Tk×Int :=
 if 400<l.length then(t,91)else
 if fl=true then(if(qtI l).2=0 then((3,t.2.1,t.2.2.1,t.2.2.2.1,(qtI l).1),0)else(t,93))else
 if 2147483647<dv l then(t,92)else((2,t.2.1,t.2.2.1,((dv l:Nat):Int),t.2.2.2.2),0)
theorem qtL(t:Tk)(l:List UInt8)(fl:Bool):qtK t l fl=qd2 t l fl:=by unfold qtK qd2;rw[qtJ]
def qxr(S:List UInt8)(i:Nat):Tk×(Int×Int) :=
 if(S[i]?).any yT=true then
  ((bif ZE ((S.drop i).take (spI S i-i))then 4 else 1,((i:Nat):Int),bs ((S.drop i).take (spI S i-i)),0,0),((spI S i:Nat):Int),if 32<spI S i-i then 91 else 0)
 else if(S[i]?).any isD=true then
  ((qtK (0,((i:Nat):Int),bs [],0,0) ((S.drop i).take ((jx S i).1-i)) (jx S i).2).1,(((jx S i).1:Nat):Int),(qtK (0,((i:Nat):Int),bs [],0,0) ((S.drop i).take ((jx S i).1-i)) (jx S i).2).2)
 else if yF (S.drop i)=[]then((5,((i:Nat):Int),bs [],0,0),((i:Nat):Int),90)
 else((5,((i:Nat):Int),bs (yF (S.drop i)),0,0),((i+(yF (S.drop i)).length:Nat):Int),0)
theorem qtM(S:List UInt8)(i:Nat):qxr S i=jC S i:=by unfold qxr jC;rw[qtL]
def qrk(p:ByteArray×Int):Option (Tk×Int×Int):=bif(decide (0≤p.2)&&decide (p.2<((lb p.1).length:Int)))&&Nat.ble (lb p.1).length 1000000 then some (qxr (lb p.1) p.2.toNat)else none
theorem qrl:qrk=QV:=by
 funext p
 unfold qrk QV;rw[qtM]
def qrm:PrimD:=prim (dc cS (d1 (cI .i64))) (dc cTk (dc (cI .i64) (d1 (cI .i64)))) qrk
theorem qtN:OkT 71 qrm:=by unfold qrm;rw[qrl];exact qq9
def qxs:qO:=jX [(71,qrm),(35,quR)] qjD
theorem qtO:PkT qxs:=qB ZB (qf qtN (qf qyX qT))
theorem qil:qek tb qxs (shN tb qxs 400 9) 400 27 [] (d1 cB).dec=some true:=by kernel_rfl
def qfA:PrimD:=prim d0 (d1 cB) fun _=>some true
theorem qmF:OkT 27 qfA:=Zp jt qtO (by kernel_rfl) fun a y hg h=>⟨400,9,400,qil.trans h⟩
def qxt:qO:=jX [(27,qfA)] qrf
theorem qmG:PkT qxt:=qB qmE (qf qmF qT)
end
end Su
end
section
namespace Su
open Go Go.Proofs Fly
set_option maxRecDepth 100000
noncomputable def qxu:PrimD:=prim (d1 cS) (d1 cB) (qpA)
theorem qxv:OkT 7 qxu:=yu jt qmG (fun fu a=>qti fu a) (by kernel_rfl) (fun _ _=>by kernel_rfl) qtj
end Su
end
section
namespace Su
open Go Fly
def yP(P:Program)(t:Nat):Bool:=match P.underlying t with
 | some (.struct _)=>true
 | _=>false
def qfB(P:Program)(S:List Nat)(n:Nat):Nat→List Field→Bool
 | o,[]=>Nat.beq o n
 | o,f::fs=>Nat.beq f.offset o&&(S.contains f.type&&qfB P S n (o+P.cellsOf f.type) fs)
def J3(P:Program)(S:List Nat)(t:Nat):Bool:=match P.underlying t with
 | some .bool=>Nat.beq (P.cellsOf t) 1
 | some (.int _)=>Nat.beq (P.cellsOf t) 1
 | some (.float _)=>Nat.beq (P.cellsOf t) 1
 | some .string=>Nat.beq (P.cellsOf t) 1
 | some (.slice e)=>Nat.beq (P.cellsOf t) 1&&(S.contains e&&Nat.blt 0 (P.cellsOf e))
 | some (.struct fs)=>qfB P S (P.cellsOf t) 0 fs.toList
 | _=>false
inductive All2 {α β:Type} (R:α→β→Prop):List α→List β→Prop
 | nil:All2 R [] []
 | cons {a:α} {b:β} {l:List α} {m:List β} (h:R a b) (h':All2 R l m):All2 R (a::l) (b::m)
def Shp(P:Program):Nat→Nat→List T→Prop
 | 0,_,_=>False
 | fuel+1,t,xs=>match P.underlying t with
  | some .bool=>∃b,xs=[.s (.bool b)]
  | some (.int k)=>∃n,xs=[.s (.int k n)]∧(Lit.int k n).wf=true
  | some (.float k)=>∃b,xs=[.s (.float k b)]∧(Lit.float k b).wf=true
  | some .string=>∃s,xs=[.s (.string s)]∧s.size≤maxLen
  | some (.slice e)=>∃l,xs=[.sl (P.cellsOf e) l]∧l.length≤maxLen∧∀x∈l,x.isAgg=yP P e∧Shp P fuel e x.cells
  | some (.struct fs)=>∃parts:List (List T),xs=parts.flatten∧All2 (fun(f:Field) p=>Shp P fuel f.type p) fs.toList parts
  | _=>False
def hv(w:World):qa:=fun b=>w.heap[b]?
theorem qtP{a:Addr}{m n:Nat}(h:n≠0∨m=0∨a.spot=none):(a.add m).add n=a.add (m+n):=by
 unfold Addr.add;by_cases hn:n=0
 · subst hn;simp
 · by_cases hm:m=0
   · subst hm;simp[hn]
   · simp[hn,hm,KD]
theorem qea{w:World}{a:Addr}{v:Value}(h:w.cell? a=some v):a.spot=none∧rd (hv w) a.block a.off v:=by
 unfold World.cell? at h
 split at h
 · rename_i c e f hb
   cases hs:a.spot with
   | some s=>rw[hs]at h;simp at h
   | none=>rw[hs]at h;exact⟨rfl,c,e,f,hb,by simpa using h⟩
 · simp at h
theorem qlq(a:Addr)(n:Nat):(a.add n).off=a.off+n∧(a.add n).block=a.block:=by
 unfold Addr.add;split
 · rename_i h;subst h;exact⟨rfl,rfl⟩
 · exact⟨rfl,rfl⟩
theorem qlr{w:World}{a:Addr}{k:Nat}(hk:0<k):∀(css:List (List Value)) (s:Nat),(∀i cs,css[i]?=some cs→w.cells? 0 (a.add ((s+i)*k)) k=some cs)→∀j c,css.flatten[j]?=some c→rd (hv w) a.block (a.off+s*k+j) c∧w.cell? (a.add (s*k+j))=some c
 | [],s,h,j,c,hj=>by simp at hj
 | c0::css,s,h,j,c,hj=>by
  obtain⟨_,hl,hc⟩:=World.cells?_some (h 0 c0 rfl)
  simp only[KB]at hc;rw[List.flatten_cons]at hj;rcases VT j k with hjk | hjk
  · rw[Ke (by omega)]at hj
    have h1:=hc j hjk;rw[hj]at h1;have h3:w.cell? (a.add (s*k+j))=some c:=by
     by_cases hj0:j=0
     · subst hj0
       have:(a.add (s*k)).add 0=a.add (s*k):=by unfold Addr.add;simp
       rw[this]at h1;exact h1
     · rw[qtP (.inl hj0)]at h1;exact h1
    obtain⟨_,h2⟩:=qea h3;rw[(qlq _ _).1,(qlq _ _).2]at h2;exact⟨by rw[KD];exact h2,h3⟩
  · rw[zW (by omega),hl]at hj
    have h2:=qlr hk css (s+1) (fun i cs hi=>by
     have:=h (i+1) cs (by simpa using hi)
     rw[show s+1+i=s+(i+1) by omega];exact this) (j-k) c hj
    have e1:(s+1)*k+(j-k)=s*k+j:=by rw[zV];omega
    rw[KD,e1]at h2;exact⟨by rw[KD];exact h2.1,h2.2⟩
end Su
end
section
namespace Su
open Go Fly
theorem qjE{β γ:Type}{f:Nat→Option (List β)}{g:List β→Option γ}{n:Nat}{r:List γ}(h:(List.range n).mapM (fun i=>(f i).bind g)=some r) :
 ∃css:List (List β),css.length=n∧∀(i:Nat) (cs:List β),css[i]?=some cs→f i=some cs∧∃y,y∈r∧g cs=some y:=by
 have hl:r.length=n:=by simpa using mapM_some_length h
 refine⟨(List.range n).map fun i=>(f i).getD [],by simp,fun i cs hi=>?_⟩
 have hin:i<n:=by
  have:=(zp.1 hi).1
  simpa using this
 have h1:=mapM_some_get h i i (by simp[hin])
 rw[zq (by omega)]at h1;obtain⟨c,hc,hg⟩:=Vy.1 h1;have:cs=c:=by
  rw[Kq,List.getElem?_range hin]at hi;simp[hc]at hi;exact hi.symm
 subst this;exact⟨hc,_,List.getElem_mem _,hg⟩
theorem qls{α β:Type}{R:α→β→Prop}:∀ {l:List α},(∀x∈l,∃y,R x y)→∃m,All2 R l m
 | [],_=>⟨[],.nil⟩
 | x::l,h=>by
  obtain⟨y,hy⟩:=h x (zI ..)
  obtain⟨m,hm⟩:=qls (l:=l) fun z hz=>h z (zw _ hz)
  exact⟨y::m,.cons hy hm⟩
theorem All2.length{α β:Type}{R:α→β→Prop}{l:List α}{m:List β}(h:All2 R l m):l.length=m.length:=by
 induction h with
 | nil=>rfl
 | cons _ _ ih=>simp[ih]
theorem All2.right{α β:Type}{R:α→β→Prop}{l:List α}{m:List β}(h:All2 R l m):∀y∈m,∃x,R x y:=by
 induction h with
 | nil=>intro y hy;simp at hy
 | cons hr _ ih=>
  intro y hy;rcases zO.1 hy with rfl | hy
  · exact⟨_,hr⟩
  · exact ih y hy
section
variable {H:Type} {enc:TypeId×Value→H} {P:Program} {w:World} {S:List Nat}
def qtQ(enc:TypeId×Value→H)(P:Program)(w:World)(fuel t:Nat)(cs:List Value)(x:DataW H×List MemPlace):Prop :=
 (∃xs,RepA (hv w) xs cs∧(∀y∈xs,y.isAgg=false)∧xs.length=P.cellsOf t∧Shp P fuel t xs)∧∀sp:Nat→Bool,(∀p∈x.2,sp p.block=true)→DataW.trod enc P w 0 sp true fuel t cs=some x
theorem qlt{fuel t:Nat}{xs:List T}(h:Shp P fuel t xs)(hg:yP P t=false)(hok:J3 P S t=true):∃x,xs=[x]∧x.isAgg=false∧x.cells=[x]:=by
 cases fuel with
 | zero=>exact absurd h (by simp[Shp])
 | succ fuel=>
  unfold Shp at h;unfold yP at hg;split at h
  · obtain⟨b,rfl⟩:=h;exact⟨_,rfl,rfl,rfl⟩
  · obtain⟨b,rfl,_⟩:=h;exact⟨_,rfl,rfl,rfl⟩
  · obtain⟨b,rfl,_⟩:=h;exact⟨_,rfl,rfl,rfl⟩
  · obtain⟨b,rfl,_⟩:=h;exact⟨_,rfl,rfl,rfl⟩
  · obtain⟨b,rfl,_⟩:=h;exact⟨_,rfl,rfl,rfl⟩
  · rename_i hu;rw[hu]at hg;simp at hg
  · exact absurd h (by simp)
theorem qmH{fuel e:Nat}{cs:List Value}{x:DataW H×List MemPlace}(hok:J3 P S e=true)(h:qtQ enc P w fuel e cs x) :
 ∃z:T,RepA (hv w) z.cells cs∧(∀y∈z.cells,y.isAgg=false)∧z.cells.length=P.cellsOf e∧z.isAgg=yP P e∧Shp P fuel e z.cells:=by
 obtain⟨⟨xs,h1,h2,h3,h4⟩,_⟩:=h;cases hg:yP P e with
 | true=>exact⟨.agg xs,h1,h2,h3,rfl,h4⟩
 | false=>
  obtain⟨z,rfl,hz,hzc⟩:=qlt h4 hg hok;exact⟨z,by rw[hzc];exact h1,by rw[hzc];exact h2,by rw[hzc];exact h3,hz,by rw[hzc];exact h4⟩
theorem qfC{fuel e:Nat}:∀ {css:List (List Value)} {l:List T},All2 (fun cs z=>RepA (hv w) z.cells cs∧(∀y∈z.cells,y.isAgg=false)∧z.cells.length=P.cellsOf e∧z.isAgg=yP P e∧Shp P fuel e z.cells) css l →
 RepA (hv w) (l.flatMap T.cells) css.flatten∧(∀y∈l.flatMap T.cells,y.isAgg=false)
 | _,_,.nil=>⟨.nil,by simp⟩
 | _,_,.cons h h'=>by
  obtain⟨h1,h2⟩:=qfC h';rw[Kw,List.flatten_cons];refine⟨h.1.append h1,fun y hy=>?_⟩
  rcases Ka.1 hy with hy | hy
  · exact h.2.1 y hy
  · exact h2 y hy
theorem qeb{fuel:Nat}{cs:List Value}(ih:∀t∈S,∀(cs:List Value) (x:DataW H×List MemPlace),DataW.trod enc P w 0 (fun _=>true) true fuel t cs=some x→qtQ enc P w fuel t cs x):∀(fs:List Field) (o:Nat) (ys:List (DataW H×List MemPlace)),
 qfB P S cs.length o fs=true→fs.mapM (fun f=>DataW.trod enc P w 0 (fun _=>true) true fuel f.type ((cs.drop f.offset).take (P.cellsOf f.type)))=some ys →
 ∃parts:List (List T),RepA (hv w) parts.flatten (cs.drop o)∧(∀y∈parts.flatten,y.isAgg=false)∧All2 (fun(f:Field) p=>Shp P fuel f.type p) fs parts
 | [],o,ys,ht,_=>by
  have:=zf ht;subst this
  rw[KZ (zE _)];exact⟨[],.nil,by simp,.nil⟩
 | f::fs,o,ys,ht,h=>by
  simp only[qfB,zn]at ht;obtain⟨h1,h2,h3⟩:=ht;have:=zf h1;subst this
  rw[List.mapM_cons]at h;obtain⟨y,hy,h⟩:=qb (a:=DataW.trod enc P w 0 (fun _=>true) true fuel f.type ((cs.drop f.offset).take (P.cellsOf f.type))) h
  obtain⟨ys',hys,_⟩:=qb (a:=fs.mapM (fun f=>DataW.trod enc P w 0 (fun _=>true) true fuel f.type ((cs.drop f.offset).take (P.cellsOf f.type)))) h
  obtain⟨⟨xs,a1,a2,a3,a4⟩,_⟩:=ih f.type (by simpa using h2) _ _ hy
  obtain⟨parts,b1,b2,b3⟩:=qeb ih fs _ _ h3 hys;refine⟨xs::parts,?_,fun z hz=>?_,.cons a4 b3⟩
  · rw[List.flatten_cons,← KV (P.cellsOf f.type) (cs.drop f.offset),List.drop_drop]
    exact a1.append b1
  · rw[List.flatten_cons]at hz
    rcases Ka.1 hz with hz | hz
    · exact a2 z hz
    · exact b2 z hz
theorem qmI(hS:∀t∈S,J3 P S t=true):∀(fuel t:Nat),t∈S→∀(cs:List Value) (x:DataW H×List MemPlace),DataW.trod enc P w 0 (fun _=>true) true fuel t cs=some x→qtQ enc P w fuel t cs x:=by
 intro fuel;induction fuel with
 | zero=>intro t _ cs x h;simp[DataW.trod]at h
 | succ fuel ih=>
  intro t htS cs x h;have hok:=hS t htS;have one:∀(v:Value),Qh v=true→cs=[v]→Nat.beq (P.cellsOf t) 1=true→Shp P (fuel+1) t [.s v]→(∀sp:Nat→Bool,(∀p∈x.2,sp p.block=true)→DataW.trod enc P w 0 sp true (fuel+1) t cs=some x)→qtQ enc P w (fuel+1) t cs x:=by
   rintro v hv' rfl h1 h2 h3
   exact⟨⟨[.s v],.cons (.s hv') .nil,by simp[T.isAgg],by rw[zf h1];rfl,h2⟩,h3⟩
  have hh:=h;rw[DataW.trod_step]at h;unfold DataW.trodStep at h;split at h
  case h_1 b hu=>
   refine one _ rfl rfl (by simpa[J3,hu]using hok) (by simp only[Shp,hu];exact⟨b,rfl⟩) fun sp _=>?_
   rw[DataW.trod_step]at hh ⊢;unfold DataW.trodStep at hh ⊢;simp only[hu]at hh ⊢;exact hh
  case h_2 k k' n hu=>
   split at h
   · rename_i hc
     obtain⟨rfl,hw⟩:=hc;refine one (.int k' n) (show Qh (.int k' n)=true from hw) rfl (by simpa[J3,hu]using hok) (by simp only[Shp,hu];exact⟨n,rfl,hw⟩) fun sp _=>?_
     rw[DataW.trod_step]at hh ⊢;unfold DataW.trodStep at hh ⊢;simp only[hu]at hh ⊢;exact hh
   · simp at h
  case h_3 k k' b hu=>
   split at h
   · rename_i hc
     obtain⟨rfl,hw⟩:=hc;refine one _ rfl rfl (by simpa[J3,hu]using hok) (by simp only[Shp,hu];exact⟨b,rfl,hw⟩) fun sp _=>?_
     rw[DataW.trod_step]at hh ⊢;unfold DataW.trodStep at hh ⊢;simp only[hu]at hh ⊢;exact hh
   · simp at h
  case h_4 st hu=>
   split at h
   · rename_i hc
     refine one _ (by show Nat.ble _ _=true;rw[VA];exact hc) rfl (by simpa[J3,hu]using hok) (by simp only[Shp,hu];exact⟨st,rfl,hc⟩) fun sp _=>?_
     rw[DataW.trod_step]at hh ⊢;unfold DataW.trodStep at hh ⊢;simp only[hu]at hh ⊢;exact hh
   · simp at h
  case h_7 e hu=>
   simp only[J3,hu,zn]at hok;refine⟨⟨[.sl (P.cellsOf e) []],.cons (.sl (l:=[]) (vs:=[]) .nil (by simp) (by simp) (by simp) (by simp[maxLen]) (.inl rfl)) .nil,by simp[T.isAgg],by rw[zf hok.1];rfl,?_⟩,fun sp _=>?_⟩
   · simp only[Shp,hu];exact⟨[],rfl,by simp,by simp⟩
   · rw[DataW.trod_step]at hh ⊢;unfold DataW.trodStep at hh ⊢;simp only[hu]at hh ⊢;exact hh
  case h_8 e a len cap hu=>
   simp only[J3,hu,zn,List.contains_iff_mem]at hok;obtain⟨ho1,ho2,ho3⟩:=hok;have hk:0<P.cellsOf e:=by rw[Ve]at ho3;exact ho3
   simp only[]at h;split at h
   · rename_i hc
     obtain⟨hc0,hc1,hc2⟩:=hc;simp only[Vs,Vy]at h;obtain⟨elems,he,rest,hrest,rfl⟩:=h;have hlen:elems.length=len:=by simpa using mapM_some_length he
     obtain⟨css,hcl,hcs⟩:=qjE he;have hz:∀cs∈css,∃z:T,RepA (hv w) z.cells cs∧(∀y∈z.cells,y.isAgg=false)∧z.cells.length=P.cellsOf e∧z.isAgg=yP P e∧Shp P fuel e z.cells:=by
      intro cs hm;obtain⟨i,hi⟩:=Vm.1 hm
      obtain⟨_,y,_,hy⟩:=hcs i cs hi;exact qmH (hS e ho2) (ih e ho2 _ _ hy)
     obtain⟨l,hl⟩:=qls hz;obtain⟨r1,r2⟩:=qfC hl;have hll:l.length=len:=by rw[← hl.length,hcl]
     have hrd:=qlr (w:=w) (a:=a) hk css 0 fun i cs hi=>by rw[zD];exact(hcs i cs hi).1
     refine⟨⟨[.sl (P.cellsOf e) l],.cons ?_ .nil,by simp[T.isAgg],by rw[zf ho1];rfl,?_⟩,fun sp hsp=>?_⟩
     · rw[← hll]
       refine .sl r1 r2 (fun x hx=>?_) (by rw[hll];exact hc1) hc2 ?_
       · obtain⟨cs,hx1⟩:=hl.right x hx
         exact hx1.2.2.1
       · cases hl0:css with
         | nil=>rw[hl0]at hcl;left;rw[← KA];rw[hll,← hcl];rfl
         | cons c0 css'=>
          right;have h0:=(hcs 0 c0 (by rw[hl0];rfl)).1
          obtain⟨_,hcl0,hcc⟩:=World.cells?_some h0
          have h00:=hcc 0 hk
          have hc00:c0[0]?=some (c0[0]'(by omega)):=by rw[zq]
          rw[hc00]at h00;have hsp:a.spot=none:=by
           have e0:(a.add (0*P.cellsOf e)).add 0=a:=by unfold Addr.add;simp
           rw[e0]at h00;exact(qea h00).1
          refine⟨a.block,a.off,by cases a;simp at hsp;subst hsp;rfl,fun j c hj=>?_⟩
          rw[← hl0]at hj;have:=(hrd j c hj).1
          simpa using this
     · simp only[Shp,hu]
       refine⟨l,rfl,by omega,fun x hx=>?_⟩
       obtain⟨cs,hx1⟩:=hl.right x hx;exact⟨hx1.2.2.2.1,hx1.2.2.2.2⟩
     · rw[DataW.trod_step]
       unfold DataW.trodStep;simp only[hu];rw[zA ⟨hc0,hc1,hc2⟩];simp only[Vs,Vy];have elem:∀(i:Nat) (y:DataW H×List MemPlace),y∈elems++rest→(w.cells? 0 (a.add (i*P.cellsOf e)) (P.cellsOf e)).bind (DataW.trod enc P w 0 (fun _=>true) true fuel e)=some y →
        (w.cells? 0 (a.add (i*P.cellsOf e)) (P.cellsOf e)).bind (DataW.trod enc P w 0 sp true fuel e)=some y:=by
        intro i y hy h1;obtain⟨cs,h2,h3⟩:=Vy.1 h1;refine Vy.2 ⟨cs,h2,(ih e ho2 _ _ h3).2 sp fun p hp=>hsp p ?_⟩
        exact VD _ (KK.2 ⟨y,hy,hp⟩)
       refine⟨elems,mapM_carry he fun i y _ hy h1=>elem i y (KS _ hy) h1,rest,?_,rfl⟩
       simp only[if_true]at hrest;by_cases h0:cap-len=0
       · rw[h0]at hrest ⊢
         simp at hrest;subst hrest;split <;> rfl
       · have hrl:rest.length=cap-len:=by simpa using mapM_some_length hrest
         have:sp a.block=true:=hsp (.cell a.block (a.off+0)) (KS _ (MemPlace.mem_row.2 ⟨0,Nat.mul_pos (by omega) hk,rfl⟩))
         rw[zA this];exact mapM_carry hrest fun i y _ hy h1=>elem _ y (VD _ hy) h1
   · simp at h
  case h_9 fs hu=>
   simp only[J3,hu]at hok;split at h
   · rename_i hc
     simp only[Vs]at h;obtain⟨ys,hy,rfl⟩:=h;rw[← hc]at hok;obtain⟨parts,b1,b2,b3⟩:=qeb ih fs.toList 0 ys hok hy
     rw[Kh]at b1;refine⟨⟨parts.flatten,b1,b2,by rw[b1.length,hc],?_⟩,fun sp hsp=>?_⟩
     · simp only[Shp,hu];exact⟨parts,rfl,b3⟩
     · rw[DataW.trod_step]
       unfold DataW.trodStep;simp only[hu];rw[zA hc];simp only[Vs];have inS:∀(N:Nat) (l:List Field) (o:Nat),qfB P S N o l=true→∀f∈l,f.type∈S:=by
        intro N l;induction l with
        | nil=>intro o _ f hf;simp at hf
        | cons g l ihl=>
         intro o ht f hf;simp only[qfB,zn]at ht;rcases zO.1 hf with rfl | hf
         · simpa using ht.2.1
         · exact ihl _ ht.2.2 f hf
       refine⟨ys,mapM_carry hy fun f y hf hym h1=>(ih f.type (inS _ _ _ hok f hf) _ _ h1).2 sp fun p hp=>hsp p (KK.2 ⟨y,hym,hp⟩),rfl⟩
   · simp at h
  all_goals first
   | (rename_i hu;simp[J3,hu]at hok;done)
   | (rename_i hu _;simp[J3,hu]at hok;done)
   | (simp at h;done)
end
end Su
end
section
namespace Su
open Go Fly Go.RowKit Go.ChangeShapes
section
variable {H:Type} {enc:TypeId×Value→H} {P:Program} {w:World} {S:List Nat}
def qmJ(P:Program)(t:Nat)(x:T):Prop:=x.isAgg=yP P t∧∃fuel,Shp P fuel t x.cells
theorem qtR{r:Reach}{b0:Nat}{t:Nat}{cs:Array Value}(hok:J3 P S t=true)(hg:yP P t=false)(h:Value.okWide P w r b0 t (.agg cs)):False:=by
 unfold J3 at hok;unfold Value.okWide Cell.okWide Cell.ok at h;unfold yP at hg;split at hok
 all_goals rename_i hu
 all_goals first
  | (simp[hu]at hok;done)
  | (simp[hu]at hg;done)
  | (simp[hu]at h;done)
theorem qrn(hS:∀t∈S,J3 P S t=true){r:Reach}{b0 t:Nat}{v:Value}{d:DataW H}{p:List MemPlace}(ht:t∈S)(hval:Value.okWide P w r b0 t v)(h:DataW.Trod enc P w 0 (fun _=>true) true t v d p) :
 (∃x,Rep (hv w) x v∧qmJ P t x)∧∀sp:Nat→Bool,(∀q∈p,sp q.block=true)→DataW.Trod enc P w 0 sp true t v d p:=by
 obtain⟨fuel,hf⟩:=h;have hgood:=qmI hS fuel t ht _ _ hf;refine⟨?_,fun sp hsp=>⟨fuel,hgood.2 sp hsp⟩⟩
 obtain⟨⟨xs,h1,h2,h3,h4⟩,_⟩:=hgood;cases hg:yP P t with
 | true=>
  have:∃cs,v = .agg cs:=by
   unfold yP at hg;split at hg
   · rename_i fs hu
     unfold Value.okWide at hval;rw[hu]at hval;obtain⟨cs,rfl,_⟩:=hval;exact⟨cs,rfl⟩
   · simp at hg
  obtain⟨cs,rfl⟩:=this;simp only[Value.cells]at h1;exact⟨.agg xs,.agg h1 h2,by rw[hg];rfl,fuel,h4⟩
 | false=>
  obtain⟨z,rfl,hz,hzc⟩:=qlt h4 hg (hS t ht)
  have hvc:v.cells = #[v]:=by
   cases v with
   | agg cs=>exact absurd hval fun h=>qtR (hS t ht) hg h
   | _=>rfl
  rw[hvc]at h1;cases h1 with
  | cons h1 _=>exact⟨z,h1,by rw[hz,hg],fuel,by rw[hzc];exact h4⟩
theorem qad(hS:∀t∈S,J3 P S t=true){r:Reach}{b0:Nat}:∀(ts:List Nat) (vs:List Value) (ds:List (DataW H)) (p:List MemPlace),(∀t∈ts,t∈S)→(∀(j:Nat) t v,ts[j]?=some t→vs[j]?=some v→Value.okWide P w r b0 t v) →
 DataW.TrodAll enc P w 0 (fun _=>true) true ts vs ds p →
 (∃xs,RepA (hv w) xs vs∧All2 (qmJ P) ts xs)∧∀sp:Nat→Bool,(∀q∈p,sp q.block=true)→DataW.TrodAll enc P w 0 sp true ts vs ds p
 | [],vs,ds,p,_,_,h=>by
  obtain⟨rfl,rfl,rfl⟩:=trodAll_nil h;exact⟨⟨[],.nil,.nil⟩,fun _ _=>rfl⟩
 | t::ts,vs,ds,p,hts,hval,h=>by
  obtain⟨v,vs1,d,ds1,a,b,rfl,rfl,rfl,h1,h2⟩:=trodAll_cons h;obtain⟨⟨x,a1,a2⟩,a3⟩:=qrn hS (hts t (zI ..)) (hval 0 t v rfl rfl) h1
  obtain⟨⟨xs,b1,b2⟩,b3⟩:=qad hS ts vs1 ds1 b (fun u hu=>hts u (zw _ hu)) (fun j t v hj hv=>hval (j+1) t v (by simpa using hj) (by simpa using hv)) h2
  exact⟨⟨x::xs,.cons a1 b1,.cons a2 b2⟩,fun sp hsp=>⟨a,b,a3 sp fun q hq=>hsp q (KS _ hq),b3 sp fun q hq=>hsp q (VD _ hq),rfl⟩⟩
theorem ZM{w':World}{base:Nat}{sp:Nat→Bool}:∀(ts:List Nat) (vs:List Value) (ds:List (DataW H)) (p:List MemPlace),DataW.TrodAll enc P w base sp true ts vs ds p→(∀q∈p,w.sameAt w' q)→DataW.TrodAll enc P w' base sp true ts vs ds p
 | [],vs,ds,p,h,_=>by
  obtain⟨rfl,rfl,rfl⟩:=trodAll_nil h;exact rfl
 | t::ts,vs,ds,p,h,hs=>by
  obtain⟨v,vs1,d,ds1,a,b,rfl,rfl,rfl,h1,h2⟩:=trodAll_cons h;obtain⟨fuel,hf⟩:=h1;exact⟨a,b,⟨fuel,DataW.trod_carry _ _ _ _ hf fun q hq=>hs q (KS _ hq)⟩,ZM ts vs1 ds1 b h2 fun q hq=>hs q (VD _ hq),rfl⟩
end
end Su
end
