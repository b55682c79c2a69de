/-
  The law and its row.
-/
import Derived.Test.YtldhknmacepeiaaGreatDoorHTk
import Derived.Test.YtldhknmacepeiaaGreatDoorSuXl
import Derived.Test.YtldhknmacepeiaaGreatDoorNY08
import Derived.Test.YtldhknmacepeiaaGreatDoorNX06
import Derived.Test.YtldhknmacepeiaaGreatDoorSuTb
import Derived.Test.YtldhknmacepeiaaGreatDoorND03y
import Derived.Test.YtldhknmacepeiaaGreatDoorNY02
import Derived.Test.YtldhknmacepeiaaGreatDoorRba
import Derived.Test.YtldhknmacepeiaaGreatDoorNY05
import Derived.Test.YtldhknmacepeiaaGreatDoorSuP0
import Derived.ChangeSame
import Derived.ChangeOld
import Derived.DataReads
set_option linter.unusedVariables false
set_option linter.unusedSimpArgs false
set_option maxRecDepth 10000
section
namespace Fly
open Go Go.Proofs Su
set_option maxRecDepth 10000
section
variable {P:Program} {n:Nat} {X:Cx} {L:Lo} {V:qb} {G:Own} {Q:Value→qb→Own→Prop}
variable {ty:TypeId} {pos:String} {af:Array Edge} {gd:Option (Nat×Bool)} {ds:Option Tmp}
theorem Zn{t u:TypeId}{x y:Operand}{p q:ByteArray}{b:Bool}(hx:ev L x=some (.string p))(hy:ev L y=some (.string q))(h:(!decide (p=q))=b)(k:Q (.bool b) V G):Opr P n X L V G ⟨ds,.binOp .neq t x y u,ty,pos,af,gd⟩ Q :=
 Yj hx hy (by rw[h];exact k)
theorem qdq{t u:TypeId}{x y:Operand}{κ:IntKind}{p q:Int}{b:Bool}(hx:ev L x=some (.int κ p))(hy:ev L y=some (.int κ q))(h:decide (p≤q)=b)(k:Q (.bool b) V G):Opr P n X L V G ⟨ds,.binOp .leq t x y u,ty,pos,af,gd⟩ Q :=
 Z9 hx hy (by rw[h];exact k)
theorem qja(T:Tabs P){t u:TypeId}{x:Operand}{κ κ' κ'':IntKind}{p q:Int}(hx:ev L x=some (.int κ p))(ht:T.ik t=some κ'')(hu:T.ik u=some κ')(h:κ'.wrap p=q)(k:Q (.int κ' q) V G) :
 Opr P n X L V G ⟨ds,.convert t u x,ty,pos,af,gd⟩ Q:=qw T hx ht hu (by rw[h];exact k)
end
theorem qjb{S:List UInt8}{p:Nat}{c:UInt8}(h:S[p]?=some c):(bs S).get! p=c:=by
 obtain⟨hp,e⟩:=zn.1 h
 show Eq ((S.toArray)[p]!) c
 rw[getElem!_pos S.toArray p (by simpa using hp)];simpa using e
theorem qsA{S:List UInt8}{p:Nat}{c:UInt8}(h:S[p]?=some c)(hc:c.toNat<128):Utf8.decode (bs S) p=(c.toNat,1):=by
 unfold Utf8.decode;simp only[Ks,qjb h];rw[zr hc]
theorem qAu{S:List UInt8}{p:Nat}{c:UInt8}(h:S[p]?=some c)(hc : ¬c.toNat<128):127<(Utf8.decode (bs S) p).1:=by
 unfold Utf8.decode Utf8.runeError;simp only[Ks,qjb h];rw[zp hc]
 repeat' split
 all_goals first
  | (show 127<65533;decide)
  | (dsimp only;(try simp only[zk,zD,ge_iff_le]at *);omega)
end Fly
namespace Su
open Go Go.Proofs Fly
theorem qjc{V:qb}(hgk:GOK tb V)(c:UInt8):ju Tryz.prog 76 #[.int .u8 ((c.toNat:Nat):Int)] V [] fun v _ G=>v = .bool (yS c)∧G=[]:=by
 have hc:=c.toNat_lt;refine qsr qsy hgk (xs:=[.s (.int .u8 ((c.toNat:Nat):Int))]) (vs:=[_]) (a:=((c.toNat:Nat):Int)) ?_ (qBH c) (.cons (.s (Y3.2 ⟨by omega,by omega⟩)) .nil) ?_
 · rfl
 · intro V' rvs m
   cases m with | cons m1 m=>cases m with | nil=>cases m1 with | s _=>exact⟨rfl,rfl⟩
def nmB(S:List UInt8):Bool:=S.all yS&&(bif S.isEmpty then false else(Nat.ble S.length 32&&((S[0]?).any yp&&!Jt S)))
end Su
namespace Fly
open Go Go.Proofs Su
set_option maxRecDepth 10000
attribute [local irreducible] WC WE WR Opr St Go.Calls qhC qjl qaH Rel ju qhX qjp Owe One qdt Go.CallsD
theorem qsB{V:qb}(hgk:GOK Su.tb V){S:List UInt8}(hS:S.length≤1000000){Q:Value→qb→Own→Prop}(hQ:∀V',Q (.bool (nmB S)) V' []):ju Tryz.prog 35 #[.string (bs S)] V [] Q:=by
 refine q9 (args:=[_]) Tryz.func35 rfl Tryz.ntmps35 rfl ?_
 intro X w hM hb hw hV0 hR;dsimp only[Qb,Nat.zero_add,Nat.reduceAdd]
 (repeat' (first | refine jj ?_ | refine qz ?_ | refine jk ?_ | refine qT ?_ | refine qO ?_ | refine jb ?_ | refine jv ?_ | refine jc ?_ | refine qp ?_ | refine qo ?_ | refine qx rfl ?_ | refine qu ?_ | refine jr ?_ | ((first | refine qP rfl ?_ | refine jd ?_ | refine yg rfl rfl rfl ?_);(first | (apply qna;(· exact rfl);(· exact JP);intro b) | refine qR rfl ?_ | refine qA rfl ?_ | refine qy rfl rfl ?_ | refine jw rfl ?_ | refine qF rfl rfl ?_ | refine qG rfl rfl ?_ | refine qV rfl rfl (by omega) (by omega) ?_ | refine qk tb rfl rfl ?_ | refine qw tb rfl rfl rfl ?_ | (apply qS tb rfl rfl;(· (first | (refine At.own (?_);repeat (first | exact Has.here | refine Has.there ?_)) | exact At.seen (by assumption)));(· exact rfl)) | (apply qQ tb rfl rfl;(· (first | (refine At.own (?_);repeat (first | exact Has.here | refine Has.there ?_)) | exact At.seen (by assumption)));(· exact rfl)) | (apply qH tb rfl rfl rfl rfl rfl;(· (repeat (first | exact Upd.here | apply Upd.there)));(· exact rfl)) | (apply qJ tb rfl rfl rfl rfl rfl;(· (repeat (first | exact Upd.here | apply Upd.there)));(· exact rfl)) | (apply qM tb (by kernel_rfl) rfl (rfl:tb.fo _ 0=_);(· (repeat (first | exact Fill.nil | (apply Fill.cons;(· exact rfl);(· exact rfl);(· exact rfl);(· exact rfl);(· exact rfl)))))) | (refine qU rfl ?_;intro b) | (refine qZ rfl rfl ?_;intro b) | (refine qL tb rfl ?_;intro b))) | refine Qp rfl rfl rfl rfl ?_ | refine qD rfl ?_ | refine qE rfl ?_))
 refine qnQ (fun L' V' G' μ=>∃p:Nat,p≤S.length∧μ=S.length-p∧Sub V V'∧G'=[(b,.stringIter (bs S) p)]∧L'=[(0,.string (bs S)),(2,.bool false),(6,.pointer (some ⟨b,0,none⟩))]∧∀j c,j<p→S[j]?=some c→yS c=true) (G0:=[(b,.stringIter (bs S) 0)]) (m0:=S.length) (by repeat (first | exact SubL.nil | refine SubL.cons rfl ?_)) (VD _) ⟨0,by omega,by omega,Sub.refl _,rfl,rfl,fun j c hj=>by omega⟩ ?_
 rintro L' V' G' μ ⟨p,hp,hμ,hVs,hGe,hLe,hall⟩
 subst hGe hLe
 have hgk':=GOK.mono hgk hVs;by_cases hlt:p<S.length
 · obtain⟨c,hc⟩:∃c,S[p]?=some c:=⟨_,zl hlt⟩
   have hps:p<(bs S).size:=by rw[qe];exact hlt
   have hmem:c∈S:=Kp hc
   cases hin:yS c with
   | true=>
    have h128:c.toNat<128:=by
     unfold yS yp isD at hin;simp only[VT,zk,K9,Nat.beq_eq]at hin;omega
    have hd:=qsA hc h128;have hw8:IntKind.u8.wrap ((c.toNat:Nat):Int)=((c.toNat:Nat):Int):=yB (Y3.2 ⟨by omega,by omega⟩)
    (repeat' (first | refine jj ?_ | refine qz ?_ | refine jk ?_ | refine qT ?_ | refine qO ?_ | refine jb ?_ | refine jv ?_ | refine jc ?_ | refine qp ?_ | refine qo ?_ | refine qx rfl ?_ | refine qu ?_ | refine jr ?_ | ((first | refine qP rfl ?_ | refine jd ?_ | refine yg rfl rfl rfl ?_);(first | (apply qeJ;(· exact rfl);(· exact Upd.here);(· exact hps);(· exact hd)) | (apply Q6;(· exact rfl);(· exact rfl);(· omega)) | (apply qja tb;(· exact rfl);(· exact rfl);(· exact rfl);(· exact hw8)) | (refine qK (first:=[]) (cap:=[]) tb rfl rfl rfl (qjc hgk' c) (zI _) ?_;rintro _ V1 _ hs1 ⟨rfl,rfl⟩;dsimp only[List.nil_append];rw[hin]) | refine qR rfl ?_ | refine qA rfl ?_ | refine qy rfl rfl ?_ | refine jw rfl ?_ | refine qF rfl rfl ?_ | refine qG rfl rfl ?_ | refine qV rfl rfl (by omega) (by omega) ?_ | refine qk tb rfl rfl ?_ | refine qw tb rfl rfl rfl ?_ | (apply qS tb rfl rfl;(· (first | (refine At.own (?_);repeat (first | exact Has.here | refine Has.there ?_)) | exact At.seen (by assumption)));(· exact rfl)) | (apply qQ tb rfl rfl;(· (first | (refine At.own (?_);repeat (first | exact Has.here | refine Has.there ?_)) | exact At.seen (by assumption)));(· exact rfl)) | (apply qH tb rfl rfl rfl rfl rfl;(· (repeat (first | exact Upd.here | apply Upd.there)));(· exact rfl)) | (apply qJ tb rfl rfl rfl rfl rfl;(· (repeat (first | exact Upd.here | apply Upd.there)));(· exact rfl)) | (apply qM tb (by kernel_rfl) rfl (rfl:tb.fo _ 0=_);(· (repeat (first | exact Fill.nil | (apply Fill.cons;(· exact rfl);(· exact rfl);(· exact rfl);(· exact rfl);(· exact rfl)))))) | (refine qU rfl ?_;intro b) | (refine qZ rfl rfl ?_;intro b) | (refine qL tb rfl ?_;intro b))) | refine Qp rfl rfl rfl rfl ?_ | refine qD rfl ?_ | refine qE rfl ?_))
    exact qnR (by repeat (first | exact SubL.nil | refine SubL.cons rfl ?_)) (VD _) ⟨p+1,by omega,rfl,hVs.trans hs1,rfl,rfl,fun j d hj hdj=>by
     by_cases h:j=p
     · subst h;rw[hc]at hdj;cases hdj;exact hin
     · exact hall j d (by omega) hdj⟩ (by omega)
   | false=>
    have hf:∀V',Q (.bool false) V' []:=fun V'=>by
     have:nmB S=false:=by
      unfold nmB;have:S.all yS=false:=by
       cases ha:S.all yS with
       | false=>rfl
       | true=>rw[zX.1 ha c hmem]at hin;cases hin
      rw[this];rfl
     have h:=hQ V'
     rwa [this]at h
    by_cases h128:c.toNat<128
    · have hd:=qsA hc h128
      have hw8:IntKind.u8.wrap ((c.toNat:Nat):Int)=((c.toNat:Nat):Int):=yB (Y3.2 ⟨by omega,by omega⟩)
      (repeat' (first | refine jj ?_ | refine qz ?_ | refine jk ?_ | refine qT ?_ | refine qO ?_ | refine jb ?_ | refine jv ?_ | refine jc ?_ | refine qp ?_ | refine qo ?_ | refine qx rfl ?_ | refine qu ?_ | refine jr ?_ | ((first | refine qP rfl ?_ | refine jd ?_ | refine yg rfl rfl rfl ?_);(first | (apply qeJ;(· exact rfl);(· exact Upd.here);(· exact hps);(· exact hd)) | (apply Q6;(· exact rfl);(· exact rfl);(· omega)) | (apply qja tb;(· exact rfl);(· exact rfl);(· exact rfl);(· exact hw8)) | (refine qK (first:=[]) (cap:=[]) tb rfl rfl rfl (qjc hgk' c) (zI _) ?_;rintro _ V1 _ hs1 ⟨rfl,rfl⟩;dsimp only[List.nil_append];rw[hin]) | refine qR rfl ?_ | refine qA rfl ?_ | refine qy rfl rfl ?_ | refine jw rfl ?_ | refine qF rfl rfl ?_ | refine qG rfl rfl ?_ | refine qV rfl rfl (by omega) (by omega) ?_ | refine qk tb rfl rfl ?_ | refine qw tb rfl rfl rfl ?_ | (apply qS tb rfl rfl;(· (first | (refine At.own (?_);repeat (first | exact Has.here | refine Has.there ?_)) | exact At.seen (by assumption)));(· exact rfl)) | (apply qQ tb rfl rfl;(· (first | (refine At.own (?_);repeat (first | exact Has.here | refine Has.there ?_)) | exact At.seen (by assumption)));(· exact rfl)) | (apply qH tb rfl rfl rfl rfl rfl;(· (repeat (first | exact Upd.here | apply Upd.there)));(· exact rfl)) | (apply qJ tb rfl rfl rfl rfl rfl;(· (repeat (first | exact Upd.here | apply Upd.there)));(· exact rfl)) | (apply qM tb (by kernel_rfl) rfl (rfl:tb.fo _ 0=_);(· (repeat (first | exact Fill.nil | (apply Fill.cons;(· exact rfl);(· exact rfl);(· exact rfl);(· exact rfl);(· exact rfl)))))) | (refine qU rfl ?_;intro b) | (refine qZ rfl rfl ?_;intro b) | (refine qL tb rfl ?_;intro b))) | refine Qp rfl rfl rfl rfl ?_ | refine qD rfl ?_ | refine qE rfl ?_))
      exact jh hM hw hV0 hR [] (Kr _) (qcS rfl rfl) (hf _)
    · have hgt:=qAu hc h128
      obtain⟨r,wd,hd⟩:∃r wd,Utf8.decode (bs S) p=(r,wd):=⟨_,_,rfl⟩
      rw[hd]at hgt
      (repeat' (first | refine jj ?_ | refine qz ?_ | refine jk ?_ | refine qT ?_ | refine qO ?_ | refine jb ?_ | refine jv ?_ | refine jc ?_ | refine qp ?_ | refine qo ?_ | refine qx rfl ?_ | refine qu ?_ | refine jr ?_ | ((first | refine qP rfl ?_ | refine jd ?_ | refine yg rfl rfl rfl ?_);(first | (apply qeJ;(· exact rfl);(· exact Upd.here);(· exact hps);(· exact hd)) | (apply Q5;(· exact rfl);(· exact rfl);(· omega)) | refine qR rfl ?_ | refine qA rfl ?_ | refine qy rfl rfl ?_ | refine jw rfl ?_ | refine qF rfl rfl ?_ | refine qG rfl rfl ?_ | refine qV rfl rfl (by omega) (by omega) ?_ | refine qk tb rfl rfl ?_ | refine qw tb rfl rfl rfl ?_ | (apply qS tb rfl rfl;(· (first | (refine At.own (?_);repeat (first | exact Has.here | refine Has.there ?_)) | exact At.seen (by assumption)));(· exact rfl)) | (apply qQ tb rfl rfl;(· (first | (refine At.own (?_);repeat (first | exact Has.here | refine Has.there ?_)) | exact At.seen (by assumption)));(· exact rfl)) | (apply qH tb rfl rfl rfl rfl rfl;(· (repeat (first | exact Upd.here | apply Upd.there)));(· exact rfl)) | (apply qJ tb rfl rfl rfl rfl rfl;(· (repeat (first | exact Upd.here | apply Upd.there)));(· exact rfl)) | (apply qM tb (by kernel_rfl) rfl (rfl:tb.fo _ 0=_);(· (repeat (first | exact Fill.nil | (apply Fill.cons;(· exact rfl);(· exact rfl);(· exact rfl);(· exact rfl);(· exact rfl)))))) | (refine qU rfl ?_;intro b) | (refine qZ rfl rfl ?_;intro b) | (refine qL tb rfl ?_;intro b))) | refine Qp rfl rfl rfl rfl ?_ | refine qD rfl ?_ | refine qE rfl ?_))
      exact jh hM hw hV0 hR [] (Kr _) (qcS rfl rfl) (hf _)
 · have hpe : ¬p<(bs S).size:=by rw[qe];exact hlt
   have ha:S.all yS=true:=zX.2 fun c hm=>by
    obtain⟨j,hj⟩:=Vo.1 hm
    have:=(zn.1 hj).1
    exact hall j c (by omega) hj
   by_cases hnil:S=[]
   · have hf:∀V',Q (.bool false) V' []:=fun V'=>by
      have h:=hQ V';have:nmB S=false:=by subst hnil;rfl
      rwa [this]at h
     have hne:(!decide (bs S=ByteArray.mk (List.toArray [])))=false:=by rw[za (by rw[hnil];rfl)];rfl
     (repeat' (first | refine jj ?_ | refine qz ?_ | refine jk ?_ | refine qT ?_ | refine qO ?_ | refine jb ?_ | refine jv ?_ | refine jc ?_ | refine qp ?_ | refine qo ?_ | refine qx rfl ?_ | refine qu ?_ | refine jr ?_ | ((first | refine qP rfl ?_ | refine jd ?_ | refine yg rfl rfl rfl ?_);(first | (apply Zk;(· exact rfl);(· exact Has.here);(· exact hpe)) | (apply Zn;(· exact rfl);(· exact rfl);(· exact hne)) | refine qR rfl ?_ | refine qA rfl ?_ | refine qy rfl rfl ?_ | refine jw rfl ?_ | refine qF rfl rfl ?_ | refine qG rfl rfl ?_ | refine qV rfl rfl (by omega) (by omega) ?_ | refine qk tb rfl rfl ?_ | refine qw tb rfl rfl rfl ?_ | (apply qS tb rfl rfl;(· (first | (refine At.own (?_);repeat (first | exact Has.here | refine Has.there ?_)) | exact At.seen (by assumption)));(· exact rfl)) | (apply qQ tb rfl rfl;(· (first | (refine At.own (?_);repeat (first | exact Has.here | refine Has.there ?_)) | exact At.seen (by assumption)));(· exact rfl)) | (apply qH tb rfl rfl rfl rfl rfl;(· (repeat (first | exact Upd.here | apply Upd.there)));(· exact rfl)) | (apply qJ tb rfl rfl rfl rfl rfl;(· (repeat (first | exact Upd.here | apply Upd.there)));(· exact rfl)) | (apply qM tb (by kernel_rfl) rfl (rfl:tb.fo _ 0=_);(· (repeat (first | exact Fill.nil | (apply Fill.cons;(· exact rfl);(· exact rfl);(· exact rfl);(· exact rfl);(· exact rfl)))))) | (refine qU rfl ?_;intro b) | (refine qZ rfl rfl ?_;intro b) | (refine qL tb rfl ?_;intro b))) | refine Qp rfl rfl rfl rfl ?_ | refine qD rfl ?_ | refine qE rfl ?_))
     exact jh hM hw hV0 hR [] (Kr _) (qcS rfl rfl) (hf _)
   · have hne:(!decide (bs S=ByteArray.mk (List.toArray [])))=true:=by rw[zi (fun e=>hnil (qen.1 (e.trans (qcO []))))];rfl
     obtain⟨c,r,ecr⟩:∃c r,S=c::r:=by
      cases S with
      | nil=>exact absurd rfl hnil
      | cons c r=>exact⟨c,r,rfl⟩
     have hcx:(bs S)[(0:Int).toNat]?=some c:=by show(bs S)[0]?=some c;rw[qW,ecr];rfl
     have hem:S.isEmpty=false:=by rw[ecr];rfl
     have h0:(S[0]?).any yp=yp c:=by rw[ecr];rfl
     have hnm:nmB S=(Nat.ble S.length 32&&(yp c&&!Jt S)):=by unfold nmB;rw[ha,hem,h0];rfl
     by_cases h32:S.length≤32
     · have hle:decide ((((bs S).size:Nat):Int)≤32)=true:=za (by rw[qe];omega)
       rw[zo h32,z7]at hnm;cases hl:yp c with
       | false=>
        have hf:∀V',Q (.bool false) V' []:=fun V'=>by
         have h:=hQ V';rw[hnm,hl]at h;exact h
        (repeat' (first | refine jj ?_ | refine qz ?_ | refine jk ?_ | refine qT ?_ | refine qO ?_ | refine jb ?_ | refine jv ?_ | refine jc ?_ | refine qp ?_ | refine qo ?_ | refine qx rfl ?_ | refine qu ?_ | refine jr ?_ | ((first | refine qP rfl ?_ | refine jd ?_ | refine yg rfl rfl rfl ?_);(first | (apply Zk;(· exact rfl);(· exact Has.here);(· exact hpe)) | (apply Zn;(· exact rfl);(· exact rfl);(· exact hne)) | (apply QI;(· exact rfl);(· exact rfl);(· exact JP)) | (apply qdq;(· exact rfl);(· exact rfl);(· exact hle)) | (apply y6;(· exact rfl);(· exact rfl);(· exact JP);(· decide);(· exact hcx)) | (refine qK (first:=[]) (cap:=[]) tb rfl rfl rfl (Jy hgk' c) (zI _) ?_;rintro _ V1 _ hs1 ⟨rfl,rfl⟩;dsimp only[List.nil_append];rw[hl]) | refine qR rfl ?_ | refine qA rfl ?_ | refine qy rfl rfl ?_ | refine jw rfl ?_ | refine qF rfl rfl ?_ | refine qG rfl rfl ?_ | refine qV rfl rfl (by omega) (by omega) ?_ | refine qk tb rfl rfl ?_ | refine qw tb rfl rfl rfl ?_ | (apply qS tb rfl rfl;(· (first | (refine At.own (?_);repeat (first | exact Has.here | refine Has.there ?_)) | exact At.seen (by assumption)));(· exact rfl)) | (apply qQ tb rfl rfl;(· (first | (refine At.own (?_);repeat (first | exact Has.here | refine Has.there ?_)) | exact At.seen (by assumption)));(· exact rfl)) | (apply qH tb rfl rfl rfl rfl rfl;(· (repeat (first | exact Upd.here | apply Upd.there)));(· exact rfl)) | (apply qJ tb rfl rfl rfl rfl rfl;(· (repeat (first | exact Upd.here | apply Upd.there)));(· exact rfl)) | (apply qM tb (by kernel_rfl) rfl (rfl:tb.fo _ 0=_);(· (repeat (first | exact Fill.nil | (apply Fill.cons;(· exact rfl);(· exact rfl);(· exact rfl);(· exact rfl);(· exact rfl)))))) | (refine qU rfl ?_;intro b) | (refine qZ rfl rfl ?_;intro b) | (refine qL tb rfl ?_;intro b))) | refine Qp rfl rfl rfl rfl ?_ | refine qD rfl ?_ | refine qE rfl ?_))
        exact jh hM hw hV0 hR [] (Kr _) (qcS rfl rfl) (hf _)
       | true=>
        cases hw0:Jt S with
        | true=>
         have hf:∀V',Q (.bool false) V' []:=fun V'=>by
          have h:=hQ V';rw[hnm,hl,hw0]at h;exact h
         (repeat' (first | refine jj ?_ | refine qz ?_ | refine jk ?_ | refine qT ?_ | refine qO ?_ | refine jb ?_ | refine jv ?_ | refine jc ?_ | refine qp ?_ | refine qo ?_ | refine qx rfl ?_ | refine qu ?_ | refine jr ?_ | ((first | refine qP rfl ?_ | refine jd ?_ | refine yg rfl rfl rfl ?_);(first | (apply Zk;(· exact rfl);(· exact Has.here);(· exact hpe)) | (apply Zn;(· exact rfl);(· exact rfl);(· exact hne)) | (apply QI;(· exact rfl);(· exact rfl);(· exact JP)) | (apply qdq;(· exact rfl);(· exact rfl);(· exact hle)) | (apply y6;(· exact rfl);(· exact rfl);(· exact JP);(· decide);(· exact hcx)) | (refine qK (first:=[]) (cap:=[]) tb rfl rfl rfl (Jy hgk' c) (zI _) ?_;rintro _ V1 _ hs1 ⟨rfl,rfl⟩;dsimp only[List.nil_append];rw[hl]) | (refine qK (first:=[]) (cap:=[]) tb rfl rfl rfl (Jw (l:=S) (Q:=fun v _ G=>v = .bool true∧G=[]) ⟨by rw[hw0],rfl⟩) (zI _) ?_;rintro _ V3 _ hs3 ⟨rfl,rfl⟩;dsimp only[List.nil_append]) | refine qR rfl ?_ | refine qA rfl ?_ | refine qy rfl rfl ?_ | refine jw rfl ?_ | refine qF rfl rfl ?_ | refine qG rfl rfl ?_ | refine qV rfl rfl (by omega) (by omega) ?_ | refine qk tb rfl rfl ?_ | refine qw tb rfl rfl rfl ?_ | (apply qS tb rfl rfl;(· (first | (refine At.own (?_);repeat (first | exact Has.here | refine Has.there ?_)) | exact At.seen (by assumption)));(· exact rfl)) | (apply qQ tb rfl rfl;(· (first | (refine At.own (?_);repeat (first | exact Has.here | refine Has.there ?_)) | exact At.seen (by assumption)));(· exact rfl)) | (apply qH tb rfl rfl rfl rfl rfl;(· (repeat (first | exact Upd.here | apply Upd.there)));(· exact rfl)) | (apply qJ tb rfl rfl rfl rfl rfl;(· (repeat (first | exact Upd.here | apply Upd.there)));(· exact rfl)) | (apply qM tb (by kernel_rfl) rfl (rfl:tb.fo _ 0=_);(· (repeat (first | exact Fill.nil | (apply Fill.cons;(· exact rfl);(· exact rfl);(· exact rfl);(· exact rfl);(· exact rfl)))))) | (refine qU rfl ?_;intro b) | (refine qZ rfl rfl ?_;intro b) | (refine qL tb rfl ?_;intro b))) | refine Qp rfl rfl rfl rfl ?_ | refine qD rfl ?_ | refine qE rfl ?_))
         exact jh hM hw hV0 hR [] (Kr _) (qcS rfl rfl) (hf _)
        | false=>
         have hf:∀V',Q (.bool true) V' []:=fun V'=>by
          have h:=hQ V';rw[hnm,hl,hw0]at h;exact h
         (repeat' (first | refine jj ?_ | refine qz ?_ | refine jk ?_ | refine qT ?_ | refine qO ?_ | refine jb ?_ | refine jv ?_ | refine jc ?_ | refine qp ?_ | refine qo ?_ | refine qx rfl ?_ | refine qu ?_ | refine jr ?_ | ((first | refine qP rfl ?_ | refine jd ?_ | refine yg rfl rfl rfl ?_);(first | (apply Zk;(· exact rfl);(· exact Has.here);(· exact hpe)) | (apply Zn;(· exact rfl);(· exact rfl);(· exact hne)) | (apply QI;(· exact rfl);(· exact rfl);(· exact JP)) | (apply qdq;(· exact rfl);(· exact rfl);(· exact hle)) | (apply y6;(· exact rfl);(· exact rfl);(· exact JP);(· decide);(· exact hcx)) | (refine qK (first:=[]) (cap:=[]) tb rfl rfl rfl (Jy hgk' c) (zI _) ?_;rintro _ V1 _ hs1 ⟨rfl,rfl⟩;dsimp only[List.nil_append];rw[hl]) | (refine qK (first:=[]) (cap:=[]) tb rfl rfl rfl (Jw (l:=S) (Q:=fun v _ G=>v = .bool false∧G=[]) ⟨by rw[hw0],rfl⟩) (zI _) ?_;rintro _ V3 _ hs3 ⟨rfl,rfl⟩;dsimp only[List.nil_append]) | refine qR rfl ?_ | refine qA rfl ?_ | refine qy rfl rfl ?_ | refine jw rfl ?_ | refine qF rfl rfl ?_ | refine qG rfl rfl ?_ | refine qV rfl rfl (by omega) (by omega) ?_ | refine qk tb rfl rfl ?_ | refine qw tb rfl rfl rfl ?_ | (apply qS tb rfl rfl;(· (first | (refine At.own (?_);repeat (first | exact Has.here | refine Has.there ?_)) | exact At.seen (by assumption)));(· exact rfl)) | (apply qQ tb rfl rfl;(· (first | (refine At.own (?_);repeat (first | exact Has.here | refine Has.there ?_)) | exact At.seen (by assumption)));(· exact rfl)) | (apply qH tb rfl rfl rfl rfl rfl;(· (repeat (first | exact Upd.here | apply Upd.there)));(· exact rfl)) | (apply qJ tb rfl rfl rfl rfl rfl;(· (repeat (first | exact Upd.here | apply Upd.there)));(· exact rfl)) | (apply qM tb (by kernel_rfl) rfl (rfl:tb.fo _ 0=_);(· (repeat (first | exact Fill.nil | (apply Fill.cons;(· exact rfl);(· exact rfl);(· exact rfl);(· exact rfl);(· exact rfl)))))) | (refine qU rfl ?_;intro b) | (refine qZ rfl rfl ?_;intro b) | (refine qL tb rfl ?_;intro b))) | refine Qp rfl rfl rfl rfl ?_ | refine qD rfl ?_ | refine qE rfl ?_))
         exact jh hM hw hV0 hR [] (Kr _) (qcS rfl rfl) (hf _)
     · have hle:decide ((((bs S).size:Nat):Int)≤32)=false:=zi (by rw[qe];omega)
       have hf:∀V',Q (.bool false) V' []:=fun V'=>by
        have h:=hQ V';have hb:Nat.ble S.length 32=false:=by
         cases hb:Nat.ble S.length 32 with
         | false=>rfl
         | true=>exact absurd (zm hb) h32
        rw[hnm,hb]at h;exact h
       (repeat' (first | refine jj ?_ | refine qz ?_ | refine jk ?_ | refine qT ?_ | refine qO ?_ | refine jb ?_ | refine jv ?_ | refine jc ?_ | refine qp ?_ | refine qo ?_ | refine qx rfl ?_ | refine qu ?_ | refine jr ?_ | ((first | refine qP rfl ?_ | refine jd ?_ | refine yg rfl rfl rfl ?_);(first | (apply Zk;(· exact rfl);(· exact Has.here);(· exact hpe)) | (apply Zn;(· exact rfl);(· exact rfl);(· exact hne)) | (apply QI;(· exact rfl);(· exact rfl);(· exact JP)) | (apply qdq;(· exact rfl);(· exact rfl);(· exact hle)) | refine qR rfl ?_ | refine qA rfl ?_ | refine qy rfl rfl ?_ | refine jw rfl ?_ | refine qF rfl rfl ?_ | refine qG rfl rfl ?_ | refine qV rfl rfl (by omega) (by omega) ?_ | refine qk tb rfl rfl ?_ | refine qw tb rfl rfl rfl ?_ | (apply qS tb rfl rfl;(· (first | (refine At.own (?_);repeat (first | exact Has.here | refine Has.there ?_)) | exact At.seen (by assumption)));(· exact rfl)) | (apply qQ tb rfl rfl;(· (first | (refine At.own (?_);repeat (first | exact Has.here | refine Has.there ?_)) | exact At.seen (by assumption)));(· exact rfl)) | (apply qH tb rfl rfl rfl rfl rfl;(· (repeat (first | exact Upd.here | apply Upd.there)));(· exact rfl)) | (apply qJ tb rfl rfl rfl rfl rfl;(· (repeat (first | exact Upd.here | apply Upd.there)));(· exact rfl)) | (apply qM tb (by kernel_rfl) rfl (rfl:tb.fo _ 0=_);(· (repeat (first | exact Fill.nil | (apply Fill.cons;(· exact rfl);(· exact rfl);(· exact rfl);(· exact rfl);(· exact rfl)))))) | (refine qU rfl ?_;intro b) | (refine qZ rfl rfl ?_;intro b) | (refine qL tb rfl ?_;intro b))) | refine Qp rfl rfl rfl rfl ?_ | refine qD rfl ?_ | refine qE rfl ?_))
       exact jh hM hw hV0 hR [] (Kr _) (qcS rfl rfl) (hf _)
end Fly
namespace Su
open Go Go.Proofs Fly
def qxF(s:ByteArray):Option Bool:=bif Nat.ble (lb s).length 1000000 then some (nmB (lb s))else none
noncomputable def qsC:PrimD:=prim (d1 cS) (d1 cB) qxF
theorem qxG:OkT 35 qsC:=by
 refine⟨by kernel_rfl,fun xs y h V vs hgk hr=>?_,fun j hj=>nomatch hj⟩
 obtain⟨s,h1,h2⟩:=osm (show((d1 cS).dec xs).bind qxF=some y from h)
 have hr2:=(d1 cS).rep h1 hr
 obtain⟨h3,h4⟩:=qi h2;have:=soi h4;subst this
 cases hr2 with | cons k1 k2=>
 cases k2 with | nil=>
 cases k1 with | s k1=>
 have h3:(lb s).length≤1000000:=zm h3
 have e:s=bs (lb s):=(qfM s).symm
 show ju Tryz.prog 35 #[.string s] V [] _
 rw[e];exact qsB hgk h3 fun V'=>⟨[_],.cons (.s rfl) .nil,rfl⟩
end Su
end
section
namespace Su
open Go Fly
noncomputable section
def qwr  (s:ByteArray):Option Bool :=
 (bif(decide (1024<(ByteArray.size s:Int)))then
 (qay s).bind fun x0=>
 (bif(decide ((ByteArray.size s:Int)≤16384))then
 some true
 else
  (bif(decide ((List.length x0.1:Int)=0))then
  (bif(decide (x0.2.1=91))then
  some (decide (x0.2.2=0))
 else
  some false)
 else
  some false))
 else
  (qht s).bind fun x1=>
  (qhu s).bind fun x2=>
  (bif x1 then
  some true
 else
  (bif x2 then
  some true
 else
  (qay s).bind fun x3=>
  (qcs s).bind fun x4=>
  (qhv (x3.1,x4.1)).bind fun x5=>
  (bif x5 then
  (bif(decide (x3.2.1=x4.2.1))then
  (bif(decide (x3.2.2=x4.2.2))then
  (qeI s).bind fun x6=>
  (bif(decide ((Jt (lb s))=x6))then
  (bif(Nat.ble (List.length (lb s)) 1000000)then
  some (nmB (lb s))
 else none).bind fun x7=>
  (qfU s).bind fun x8=>
  some (decide (x7=x8))
 else
  some false)
 else
  some false)
 else
  some false)
 else
  some false))))
theorem qjd(S:List UInt8):∀(f i:Nat),(yW S f i).1.length≤f+1
 | 0,_=>zw _
 | f+1,i=>by
  have ih:=fun j=>qjd S f j
  unfold yW;split
  · split
    · split
      · simp only[zy];have:=ih (skE S (jV S i).2.1.toNat);omega
      · simp
    · simp
  · simp
theorem qsD(S:List UInt8):(qbp S).1.length≤1000000:=by
 unfold qbp;by_cases h:16384<S.length
 · rw[zr h];exact VX _
 · rw[zp h]
   have:=qjd S (S.length+1) (sk false S)
   omega
def qsE(_:ByteArray):Option Bool:=some true
theorem qws(s:ByteArray)(y:Bool)(hg:(d1 cS).good s)(h:qsE s=some y):qwr s=some y:=by
 clear hg;have:=soi h;subst this
 clear h;refine onB (P:=fun s=>qwr s=some true) (fun S=>?_) s
 unfold qwr;simp only[qe];have ll:qay (bs S)=some (qbp S):=(qqa (bs S)).trans (by rw[jB])
 have yl:qcs (bs S)=some (qbp S):=(qqZ (bs S)).trans (by rw[jB])
 by_cases h1:1024<S.length
 · rw[bdT (by omega)]
   refine obs ll ?_
   by_cases h2:S.length≤16384
   · exact bdT (by omega) _ _
   · refine(bdF (by omega) _ _).trans ?_
     have e:qbp S=([],91,0):=by unfold qbp;rw[zr (by omega)]
     rw[e];rfl
 · rw[bdF (by omega)]
   obtain⟨b1,hf⟩:=qzJ (S:=S) (by omega)
   obtain⟨b2,hp⟩:=qzL (S:=S) (by omega)
   refine obs hf (obs hp ?_)
   cases b1 with
   | true=>rfl
   | false=>
    cases b2 with
    | true=>rfl
    | false=>
     rw[zj,zj];refine obs ll (obs yl (obs (qzM (qsD S)) ?_))
     rw[zf,bdT rfl,bdT rfl];refine obs (qxn S) ?_
     refine(bdT (by rw[jB]) _ _).trans ?_
     rw[jB,zo (show S.length≤1000000 by omega),zf];refine obs rfl (obs (qBN (S:=S) (by omega)) ?_)
     exact congrArg some (za rfl)
end
end Su
end
section
namespace Su
noncomputable section
open Go Go.Proofs Fly
set_option maxRecDepth 100000
def qsF(t:List UInt8)(pw:Int):Int×Int :=
 if t=[]∨(t.length:Int)+pw < -325 then(0,0)else
 if 320<(t.length:Int)+pw then(0,82)else
 qnu (dv t*pT pw) fun N=>qnu (pU pw) fun D=>qnu (J4 N D) fun M=>qnu (jm N D+6000).toNat fun E=>qnu (RN false 0 M E (qcP N D)) fun r=>if r=9218868437227405312 then(0,82)else(((r:Nat):Int),0)
theorem qsG(t:List UInt8)(pw:Int):qsF t pw=qiM t pw:=by
 unfold qsF qiM;simp only[qwo,qeo]
def qwt(S:List UInt8):Int×Int :=
 if 400<S.length then(0,81)else
 if(ptL S).2.2=false then(0,80)else qsF ((ptL S).1.dropWhile (· == 48)) (ptL S).2.1
theorem qwu(S:List UInt8):qwt S=Qn S:=by unfold qwt Qn;rw[qsG]
def qwv(t:Tk)(l:List UInt8)(fl:Bool):Tk×Int :=
 if 400<l.length then(t,91)else
 if fl=true then(if(qwt l).2=0 then((3,t.2.1,t.2.2.1,t.2.2.2.1,(qwt l).1),0)else(t,93))else
 if 2147483647<dv l then(t,92)else((2,t.2.1,t.2.2.1,((dv l:Nat):Int),t.2.2.2.2),0)
theorem qww(t:Tk)(l:List UInt8)(fl:Bool):qwv t l fl=qka t l fl:=by unfold qwv qka;rw[qwu]
def qAv(S:List UInt8)(i:Nat):Tk×(Int×Int) :=
 if(S[i]?).any yp=true then
  ((bif Jt ((S.drop i).take (spI S i-i))then 4 else 1,((i:Nat):Int),bs ((S.drop i).take (spI S i-i)),0,0),((spI S i:Nat):Int),if 32<spI S i-i then 91 else 0)
 else if(S[i]?).any isD=true then
  ((qwv (0,((i:Nat):Int),bs [],0,0) ((S.drop i).take ((yq S i).1-i)) (yq S i).2).1,(((yq S i).1:Nat):Int),(qwv (0,((i:Nat):Int),bs [],0,0) ((S.drop i).take ((yq S i).1-i)) (yq S i).2).2)
 else if JN (S.drop i)=[]then((5,((i:Nat):Int),bs [],0,0),((i:Nat):Int),90)
 else((5,((i:Nat):Int),bs (JN (S.drop i)),0,0),((i+(JN (S.drop i)).length:Nat):Int),0)
theorem qwx(S:List UInt8)(i:Nat):qAv S i=jV S i:=by unfold qAv jV;rw[qww]
def qsH(p:ByteArray×Int):Option (Tk×Int×Int):=bif(decide (0≤p.2)&&decide (p.2<((lb p.1).length:Int)))&&Nat.ble (lb p.1).length 1000000 then some (qAv (lb p.1) p.2.toNat)else none
theorem qsI:qsH=QU:=by
 funext p
 unfold qsH QU;rw[qwx]
def qsJ:PrimD:=prim (dc cS (d1 (cI .i64))) (dc cTk (dc (cI .i64) (d1 (cI .i64)))) qsH
theorem qwy:OkT 71 qsJ:=by unfold qsJ;rw[qsI];exact qst
def qAw:qt:=jo [(71,qsJ),(35,qsC)] qkr
theorem qwz:PkT qAw:=qn ZU (qh qwy (qh qxG qq))
theorem qje:qhV tb qAw (shN tb qAw 400 9) 400 27 [] (d1 cB).dec=some true:=by kernel_rfl
def qgh:PrimD:=prim d0 (d1 cB) fun _=>some true
theorem qny:OkT 27 qgh:=qdh ja qwz (by kernel_rfl) fun a y hg h=>⟨400,9,400,qje.trans h⟩
def qsK:qt:=jo [(27,qgh)] qsz
theorem ZV:PkT qsK:=qn qnx (qh qny qq)
end
end Su
end
section
namespace Su
noncomputable section
open Go Go.Proofs Fly
set_option maxRecDepth 100000
def qsL:PrimD:=prim (dc (cQ 4 1) (d1 (cI .i64))) (d1 cB) (qqc)
theorem qAx:OkT 221 qsL:=yj ja ZV (fun a=>qy9 a.1 a.2) (by kernel_rfl) (fun _ _=>by kernel_rfl) qu9
def qsM:PrimD:=prim (d1 (cQ 4 1)) (d1 (cI .i64)) (qqd)
theorem qAy:OkT 177 qsM:=jF ja ZV (fun fu a=>qza fu a) (by kernel_rfl) (fun _ _=>by kernel_rfl) qva
def qsN:PrimD:=prim (dc (cQ 4 1) (d1 (cI .i64))) (d1 (cQ 4 1)) (QC)
theorem qAz:OkT 201 qsN:=jF ja ZV (fun fu a=>qzb fu a.1 a.2) (by kernel_rfl) (fun _ _=>by kernel_rfl) qvb
def ql1:qt:=jo [(221,qsL),(177,qsM),(201,qsN)] qsK
theorem Yv:PkT ql1:=qn ZV (qh qAx (qh qAy (qh qAz qq)))
end
end Su
end
section
namespace Su
noncomputable section
open Go Go.Proofs Fly
set_option maxRecDepth 100000
def qxH:PrimD:=prim (d1 (cQ 2 1)) (d1 (cQ 4 1)) (qxj)
theorem qCe:OkT 199 qxH:=jF ja Yv (fun fu a=>bOf fu a) (by kernel_rfl) (fun _ _=>by kernel_rfl) qzf
def qsO:PrimD:=prim (dc (cQ 4 1) (d1 (cQ 4 1))) (d1 (cQ 4 1)) (yG)
theorem qAA:OkT 200 qsO:=jF ja Yv (fun fu a=>qze fu a.1 a.2) (by kernel_rfl) (fun _ _=>by kernel_rfl) qvi
def qsP:PrimD:=prim (dc (cQ 4 1) (d1 (cQ 4 1))) (d1 (cI .i64)) (qqi)
theorem qAB:OkT 238 qsP:=jF ja Yv (fun fu a=>qzd fu a.1 a.2) (by kernel_rfl) (fun _ _=>by kernel_rfl) qvj
def ql2:qt:=jo [(199,qxH),(200,qsO),(238,qsP)] ql1
theorem qaz:PkT ql2:=qn Yv (qh qCe (qh qAA (qh qAB qq)))
end
end Su
end
section
namespace Su
noncomputable section
open Go Go.Proofs Fly
set_option maxRecDepth 100000
def qsQ:PrimD:=prim (dc (cQ 4 1) (d1 (cQ 4 1))) (d1 (cQ 4 1)) (JO)
theorem qAC:OkT 178 qsQ:=jF ja qaz (fun fu a=>qzg fu a.1 a.2) (by kernel_rfl) (fun _ _=>by kernel_rfl) qvk
def ql3:PrimD:=prim (dc cB (dc (cI .i64) (d1 (cI .u64)))) (d1 (cI .u64)) (Q4)
theorem qwA:OkT 234 ql3:=yj ja qaz (fun a=>qql a.1 a.2.1 a.2.2) (by kernel_rfl) (fun _ _=>by kernel_rfl) qqm
def ql4:qt:=jo [(178,qsQ),(234,ql3)] ql2
theorem qeM:PkT ql4:=qn qaz (qh qAC (qh qwA qq))
end
end Su
end
section
namespace Su
noncomputable section
open Go Go.Proofs Fly
set_option maxRecDepth 100000
def qxI:PrimD:=prim (dc (cI .i64) (d1 cB)) (d1 (cI .u64)) (YC)
theorem qCf:OkT 223 qxI:=yj ja qeM (fun a=>qOf a.1 a.2) (by kernel_rfl) (fun _ _=>by kernel_rfl) qzi
def ql5:qt:=jo [(223,qxI)] ql4
theorem qaA:PkT ql5:=qn qeM (qh qCf qq)
end
end Su
end
section
namespace Su
noncomputable section
open Go Go.Proofs Fly
set_option maxRecDepth 100000
def qjf:PrimD:=prim (d1 (cI .i64)) (dc (cQ 4 1) (d1 (cI .i64))) (yk)
theorem qsR:OkT 232 qjf:=yj ja qaA (fun a=>qkc a) (by kernel_rfl) (fun _ _=>by kernel_rfl) qm2
def qsS:PrimD:=prim (dc (cA (dc (cQ 4 1) (dc (cQ 4 1) (dc (cI .i64) (d1 cB))))) (dc (cQ 4 1) (d1 (cI .i64)))) (d1 (cI .i64)) (QD)
theorem qAD:OkT 233 qsS:=yj ja qaA (fun a=>qzj a.1 a.2.1 a.2.2) (by kernel_rfl) (fun _ _=>by kernel_rfl) qvm
def ql6:qt:=jo [(232,qjf),(233,qsS)] ql5
theorem qeN:PkT ql6:=qn qaA (qh qsR (qh qAD qq))
end
end Su
end
section
namespace Su
noncomputable section
open Go Go.Proofs Fly
set_option maxRecDepth 100000
def qjg:PrimD:=prim (d1 (cA (dc (cQ 4 1) (dc (cQ 4 1) (dc (cI .i64) (d1 cB)))))) (d1 (cI .i64)) (J8)
theorem qsT:OkT 231 qjg:=jF ja qeN (fun fu a=>qkd fu a) (by kernel_rfl) (fun _ _=>by kernel_rfl) qm4
def ql7:qt:=jo [(231,qjg)] ql6
theorem qeO:PkT ql7:=qn qeN (qh qsT qq)
end
end Su
end
section
namespace Su
noncomputable section
open Go Go.Proofs Fly
set_option maxRecDepth 100000
def qsU:PrimD:=prim (dc (cA (dc (cQ 4 1) (dc (cQ 4 1) (dc (cI .i64) (d1 cB))))) (d1 (cI .u8))) (dc (cI .i64) (d1 (cI .u8))) (fun a=>qkf a.1 a.2)
theorem qAE:OkT 222 qsU:=fnL ja qeO (by kernel_rfl) (fun _ _=>by kernel_rfl)
def ql8:qt:=jo [(222,qsU)] ql7
theorem qaB:PkT ql8:=qn qeO (qh qAE qq)
end
end Su
end
section
namespace Su
noncomputable section
open Go Go.Proofs Fly
set_option maxRecDepth 100000
def qsV:PrimD:=prim (d1 (cA (dc cB (dc (cQ 4 1) (d1 (cQ 4 1)))))) (d1 (cI .i64)) (fun a=>qvt a)
theorem qAF:OkT 202 qsV:=fnL ja qaB (by kernel_rfl) (fun _ _=>by kernel_rfl)
def ql9:PrimD:=prim (dc cB (dc (cA (dc (cQ 4 1) (dc (cQ 4 1) (dc (cI .i64) (d1 cB))))) (d1 (cI .u8)))) (dc (cI .u64) (d1 (cI .u8))) (fun a=>qqx a.1 a.2.1 a.2.2)
theorem qwB:OkT 203 ql9:=fnL ja qaB (by kernel_rfl) (fun _ _=>by kernel_rfl)
def qma:qt:=jo [(202,qsV),(203,ql9)] ql8
theorem qeP:PkT qma:=qn qaB (qh qAF (qh qwB qq))
end
end Su
end
section
namespace Su
noncomputable section
open Go Go.Proofs Fly
set_option maxRecDepth 100000
def qsW:PrimD:=prim (dc (cA (dc cB (dc (cQ 4 1) (d1 (cQ 4 1))))) (d1 (cI .u8))) (dc (cI .u64) (d1 (cI .u8))) (fun a=>qqy a.1 a.2)
theorem qAG:OkT 180 qsW:=fnL ja qeP (by kernel_rfl) (fun _ _=>by kernel_rfl)
def qmb:qt:=jo [(180,qsW)] qma
theorem qeQ:PkT qmb:=qn qeP (qh qAG qq)
end
end Su
end
section
namespace Su
noncomputable section
open Go Go.Proofs Fly
set_option maxRecDepth 100000
def qsX:PrimD:=prim (dc cS (d1 (cI .i64))) (d1 (cI .i64)) (Ju)
theorem qAH:OkT 198 qsX:=jF ja qeQ (fun fu a=>qvv fu a.1 a.2) (by kernel_rfl) (fun _ _=>by kernel_rfl) qvw
def qsY:qt:=jo [(198,qsX)] qmb
theorem qcx:PkT qsY:=qn qeQ (qh qAH qq)
end
end Su
end
section
namespace Su
noncomputable section
open Go Go.Proofs Fly
set_option maxRecDepth 100000
def qsZ:PrimD:=prim (d1 cS) (d1 (cQ 4 1)) (qcm)
theorem qAI:OkT 176 qsZ:=jF ja qcx (fun fu a=>qvx fu a) (by kernel_rfl) (fun _ _=>by kernel_rfl) qvC
def qs0:PrimD:=prim (d1 (cI .i64)) (d1 (cQ 4 1)) (qcl)
theorem qAJ:OkT 179 qs0:=jF ja qcx (fun fu a=>qzm fu a) (by kernel_rfl) (fun _ _=>by kernel_rfl) qvA
def qs1:qt:=jo [(176,qsZ),(179,qs0)] qsY
theorem qgi:PkT qs1:=qn qcx (qh qAI (qh qAJ qq))
end
end Su
end
section
namespace Su
noncomputable section
open Go Go.Proofs Fly
set_option maxRecDepth 100000
def qs2:PrimD:=prim (d1 cS) (dc cS (dc (cI .i64) (dc (cI .i64) (d1 cB)))) (qcn)
theorem qAK:OkT 175 qs2:=jF ja qgi (fun fu a=>qqD fu a) (by kernel_rfl) (fun _ _=>by kernel_rfl) qvD
def qs3:qt:=jo [(175,qs2)] qs1
theorem qgj:PkT qs3:=qn qgi (qh qAK qq)
end
end Su
end
section
namespace Su
noncomputable section
open Go Go.Proofs Fly
set_option maxRecDepth 100000
def qs4:PrimD:=prim (d1 cS) (dc (cI .u64) (d1 (cI .i64))) (qcp)
theorem qAL:OkT 133 qs4:=yj ja qgj (fun a=>qvI a) (by kernel_rfl) (fun _ _=>by kernel_rfl) qvJ
def qs5:qt:=jo [(133,qs4)] qs3
theorem Yb:PkT qs5:=qn qgj (qh qAL qq)
end
end Su
end
section
namespace Su
noncomputable section
open Go Go.Proofs Fly
set_option maxRecDepth 100000
def qxJ:PrimD:=prim (dc cS (d1 (cI .i64))) (d1 (cI .u8)) (yP)
theorem qCg:OkT 72 qxJ:=yj ja Yb (fun a=>yAt a.1 a.2) (by kernel_rfl) (fun _ _=>by kernel_rfl) qzz
def qs6:PrimD:=prim (d1 (cI .u8)) (d1 cB) (Zh)
theorem qAM:OkT 78 qs6:=yj ja Yb (fun a=>qzx a) (by kernel_rfl) (fun _ _=>by kernel_rfl) qvL
def qs7:PrimD:=prim (d1 (cI .u8)) (d1 cB) (QF)
theorem qAN:OkT 79 qs7:=yj ja Yb (fun a=>qzy a) (by kernel_rfl) (fun _ _=>by kernel_rfl) qvM
def qs8:PrimD:=prim (dc cS (d1 cS)) (d1 cB) (qhp)
theorem qAO:OkT 75 qs8:=jF ja Yb (fun fu a=>qqK fu a.1 a.2) (by kernel_rfl) (fun _ _=>by kernel_rfl) qvN
def qs9:qt:=jo [(72,qxJ),(78,qs6),(79,qs7),(75,qs8)] qs5
theorem qcy:PkT qs9:=qn Yb (qh qCg (qh qAM (qh qAN (qh qAO qq))))
end
end Su
end
section
namespace Su
noncomputable section
open Go Go.Proofs Fly
set_option maxRecDepth 100000
def qxK:PrimD:=prim (d1 cS) (d1 cB) (qeI)
theorem qCh:OkT 34 qxK:=yj ja qcy (fun a=>yWd a) (by kernel_rfl) (fun _ _=>by kernel_rfl) qzB
def qxL:PrimD:=prim (d1 cS) (d1 cB) (qfU)
theorem qCi:OkT 36 qxL:=jF ja qcy (fun fu a=>yNm fu a) (by kernel_rfl) (fun _ _=>by kernel_rfl) qzC
def qta:qt:=jo [(34,qxK),(36,qxL)] qs9
theorem qgk:PkT qta:=qn qcy (qh qCh (qh qCi qq))
end
end Su
end
section
namespace Su
noncomputable section
open Go Go.Proofs Fly
set_option maxRecDepth 100000
def qtb:PrimD:=prim (dc cS (d1 (cI .i64))) (dc (cI .i64) (d1 cB)) (qcq)
theorem qAP:OkT 132 qtb:=jF ja qgk (fun fu a=>qqQ fu a.1 a.2) (by kernel_rfl) (fun _ _=>by kernel_rfl) qvQ
def qmc:qt:=jo [(132,qtb)] qta
theorem qeR:PkT qmc:=qn qgk (qh qAP qq)
end
end Su
end
section
namespace Su
noncomputable section
open Go Go.Proofs Fly
set_option maxRecDepth 100000
def qtc:PrimD:=prim (dc cS (d1 (cI .i64))) (dc cTk (dc (cI .i64) (d1 (cI .i64)))) (Zj)
theorem qAQ:OkT 73 qtc:=jF ja qeR (fun fu a=>qqU fu a.1 a.2) (by kernel_rfl) (fun _ _=>by kernel_rfl) qvS
def qtd:qt:=jo [(73,qtc)] qmc
theorem qgl:PkT qtd:=qn qeR (qh qAQ qq)
end
end Su
end
section
namespace Su
noncomputable section
open Go Go.Proofs Fly
set_option maxRecDepth 100000
def qte:PrimD:=prim (d1 cS) (dc (cL rTk) (dc (cI .i64) (d1 (cI .i64)))) (qcs)
theorem qAR:OkT 31 qte:=jF ja qgl (fun fu a=>qvT fu a) (by kernel_rfl) (fun _ _=>by kernel_rfl) qvW
def qtf:qt:=jo [(31,qte)] qtd
theorem ZW:PkT qtf:=qn qgl (qh qAR qq)
end
end Su
end
section
namespace Su
noncomputable section
open Go Go.Proofs Fly
set_option maxRecDepth 100000
def qtg:PrimD:=prim (d1 cS) (d1 cB) (qht)
theorem qAS:OkT 29 qtg:=jF ja ZW (fun fu a=>qvX fu a) (by kernel_rfl) (fun _ _=>by kernel_rfl) qv2
def qth:PrimD:=prim (d1 cS) (d1 cB) (qhu)
theorem qAT:OkT 30 qth:=jF ja ZW (fun fu a=>qvY fu a) (by kernel_rfl) (fun _ _=>by kernel_rfl) qv3
def qti:PrimD:=prim (dc (cL rTk) (d1 (cL rTk))) (d1 cB) (qhv)
theorem qAU:OkT 32 qti:=jF ja ZW (fun fu a=>qvZ fu a.1 a.2) (by kernel_rfl) (fun _ _=>by kernel_rfl) qv5
def qAV:qt:=jo [(29,qtg),(30,qth),(32,qti),(35,qsC)] qtf
theorem qnz:PkT qAV:=qn ZW (qh qAS (qh qAT (qh qAU (qh qxG qq))))
end
end Su
end
section
namespace Su
open Go Go.Proofs Fly
set_option maxRecDepth 100000
noncomputable def qAW:PrimD:=prim (d1 cS) (d1 cB) (qsE)
theorem qAX:OkT 6 qAW:=yj ja qnz (fun a=>qwr a) (by kernel_rfl) (fun _ _=>by kernel_rfl) qws
end Su
end
section
namespace Su
open Go Fly
def yN(P:Program)(t:Nat):Bool:=match P.underlying t with
 | some (.struct _)=>true
 | _=>false
def qgm(P:Program)(S:List Nat)(n:Nat):Nat→List Field→Bool
 | o,[]=>Nat.beq o n
 | o,f::fs=>Nat.beq f.offset o&&(S.contains f.type&&qgm P S n (o+P.cellsOf f.type) fs)
def Yc(P:Program)(S:List Nat)(t:Nat):Bool:=match P.underlying t with
 | some .bool=>Nat.beq (P.cellsOf t) 1
 | some (.int _)=>Nat.beq (P.cellsOf t) 1
 | some (.float _)=>Nat.beq (P.cellsOf t) 1
 | some .string=>Nat.beq (P.cellsOf t) 1
 | some (.slice e)=>Nat.beq (P.cellsOf t) 1&&(S.contains e&&Nat.blt 0 (P.cellsOf e))
 | some (.struct fs)=>qgm P S (P.cellsOf t) 0 fs.toList
 | _=>false
inductive All2 {α β:Type} (R:α→β→Prop):List α→List β→Prop
 | nil:All2 R [] []
 | cons {a:α} {b:β} {l:List α} {m:List β} (h:R a b) (h':All2 R l m):All2 R (a::l) (b::m)
def Shp(P:Program):Nat→Nat→List T→Prop
 | 0,_,_=>False
 | fuel+1,t,xs=>match P.underlying t with
  | some .bool=>∃b,xs=[.s (.bool b)]
  | some (.int k)=>∃n,xs=[.s (.int k n)]∧(Lit.int k n).wf=true
  | some (.float k)=>∃b,xs=[.s (.float k b)]∧(Lit.float k b).wf=true
  | some .string=>∃s,xs=[.s (.string s)]∧s.size≤maxLen
  | some (.slice e)=>∃l,xs=[.sl (P.cellsOf e) l]∧l.length≤maxLen∧∀x∈l,x.isAgg=yN P e∧Shp P fuel e x.cells
  | some (.struct fs)=>∃parts:List (List T),xs=parts.flatten∧All2 (fun(f:Field) p=>Shp P fuel f.type p) fs.toList parts
  | _=>False
def hv(w:World):qb:=fun b=>w.heap[b]?
theorem qwC{a:Addr}{m n:Nat}(h:n≠0∨m=0∨a.spot=none):(a.add m).add n=a.add (m+n):=by
 unfold Addr.add;by_cases hn:n=0
 · subst hn;simp
 · by_cases hm:m=0
   · subst hm;simp[hn]
   · simp[hn,hm,Ku]
theorem qeS{w:World}{a:Addr}{v:Value}(h:w.cell? a=some v):a.spot=none∧rd (hv w) a.block a.off v:=by
 unfold World.cell? at h
 split at h
 · rename_i c e f hb
   cases hs:a.spot with
   | some s=>rw[hs]at h;simp at h
   | none=>rw[hs]at h;exact⟨rfl,c,e,f,hb,by simpa using h⟩
 · simp at h
theorem qmd(a:Addr)(n:Nat):(a.add n).off=a.off+n∧(a.add n).block=a.block:=by
 unfold Addr.add;split
 · rename_i h;subst h;exact⟨rfl,rfl⟩
 · exact⟨rfl,rfl⟩
theorem qme{w:World}{a:Addr}{k:Nat}(hk:0<k):∀(css:List (List Value)) (s:Nat),(∀i cs,css[i]?=some cs→w.cells? 0 (a.add ((s+i)*k)) k=some cs)→∀j c,css.flatten[j]?=some c→rd (hv w) a.block (a.off+s*k+j) c∧w.cell? (a.add (s*k+j))=some c
 | [],s,h,j,c,hj=>by simp at hj
 | c0::css,s,h,j,c,hj=>by
  obtain⟨_,hl,hc⟩:=World.cells?_some (h 0 c0 rfl)
  simp only[Ks]at hc;rw[Wf]at hj;rcases VO j k with hjk | hjk
  · rw[Ki (by omega)]at hj
    have h1:=hc j hjk;rw[hj]at h1;have h3:w.cell? (a.add (s*k+j))=some c:=by
     by_cases hj0:j=0
     · subst hj0
       have:(a.add (s*k)).add 0=a.add (s*k):=by unfold Addr.add;simp
       rw[this]at h1;exact h1
     · rw[qwC (.inl hj0)]at h1;exact h1
    obtain⟨_,h2⟩:=qeS h3;rw[(qmd _ _).1,(qmd _ _).2]at h2;exact⟨by rw[Ku];exact h2,h3⟩
  · rw[zO (by omega),hl]at hj
    have h2:=qme hk css (s+1) (fun i cs hi=>by
     have:=h (i+1) cs (by simpa using hi)
     rw[show s+1+i=s+(i+1) by omega];exact this) (j-k) c hj
    have e1:(s+1)*k+(j-k)=s*k+j:=by rw[zR];omega
    rw[Ku,e1]at h2;exact⟨by rw[Ku];exact h2.1,h2.2⟩
end Su
end
