/-
  The law and its row.
-/
import Derived.Test.YtldhknmacepeiaaGreatDoorHSh1
import Derived.Test.YtldhknmacepeiaaGreatDoorNB05
import Derived.Test.YtldhknmacepeiaaGreatDoorNB09
import Derived.Test.YtldhknmacepeiaaGreatDoorSuTb
import Derived.Test.YtldhknmacepeiaaGreatDoorNB10
import Derived.Test.YtldhknmacepeiaaGreatDoorNC10
import Derived.Test.YtldhknmacepeiaaGreatDoorNT04
import Derived.Shelf.Small.Strs
import Derived.Shelf.Strconv.Itoa3
import Derived.Test.YtldhknmacepeiaaGreatDoorProg
import Derived.Test.YtldhknmacepeiaaGreatDoorRfc
import Derived.Test.YtldhknmacepeiaaGreatDoorNT10
import Derived.Test.YtldhknmacepeiaaGreatDoorNT13
import Derived.Test.YtldhknmacepeiaaGreatDoorNT14
import Derived.Test.YtldhknmacepeiaaGreatDoorNT15
set_option linter.unusedVariables false
set_option linter.unusedSimpArgs false
set_option maxRecDepth 10000
section
namespace Fly
open Go Go.Proofs Su
set_option maxRecDepth 10000
noncomputable def tbN:Tabs Tryz.prog:=Su.qk3.sound.tb
section
variable {P:Program} {n:Nat} {X:Cx} {L:Lo} {V:qa} {G:Own} {Q:Value→qa→Own→Prop}
variable {ty:TypeId} {pos:String} {af:Array Edge} {gd:Option (Nat×Bool)} {ds:Option Tmp}
theorem qgC{t e:TypeId}{a:Option Addr}{len cap:Nat}(hu:P.underlying t=some (.slice e))(w:World):(Op.equal t (.slice a len cap) (.slice none 0 0)).run P w = .ok a.isNone w:=by
 show(Op.equalIn (9999+1) t (.slice a len cap) (.slice none 0 0)).run P w=_
 unfold Op.equalIn;rw[Sem.run_bind,Fly.run_underlying hu];cases a <;> rfl
theorem qd7{t u e:TypeId}{x y:Operand}{a:Option Addr}{len cap:Nat}(hx:ev L x=some (.slice a len cap))(hy:ev L y=some (.slice none 0 0))(hu:P.underlying t=some (.slice e))(k:Q (.bool a.isNone) V G) :
 Opr P n X L V G ⟨ds,.binOp .eql t x y u,ty,pos,af,gd⟩ Q:=qiv hx hy rfl (fun w=>by simp[eqGuard]) (qgC hu) k
end
attribute [local irreducible] WC WE WR Opr St Go.Calls qgH qiq qai Rel jw qg1 qiu Owe One qcM Go.CallsD
theorem qwL{V:qa}{len cap:Nat}{Q:Value→qa→Own→Prop}(hQ:Q (.slice none 0 0) V []):jw Tryz.prog 157 #[.slice none len cap] V [] Q:=by
 refine jf (args:=[_]) Tryz.func157 rfl Tryz.ntmps157 rfl ?_
 intro X w hM hb hw hV0 hR;dsimp only[Qf,zD,Nat.reduceAdd]
 (repeat' (first | refine jo ?_ | refine qz ?_ | refine jp ?_ | refine q9 ?_ | refine qU ?_ | refine jg ?_ | refine jy ?_ | refine jh ?_ | refine qp ?_ | refine qo ?_ | refine qx rfl ?_ | refine qu ?_ | refine ju ?_ | ((first | refine qV rfl ?_ | refine ji ?_ | refine yd rfl rfl rfl ?_);(first | (refine qd7 (e:=105) rfl rfl (by kernel_rfl) ?_) | refine qY rfl ?_ | refine qA rfl ?_ | refine qa4 rfl rfl ?_ | refine Yw rfl rfl ?_ | refine qa5 rfl rfl ?_ | refine ZQ rfl rfl ?_ | refine J4 rfl rfl ?_ | refine qa6 rfl rfl ?_ | refine qy rfl rfl ?_ | refine jz rfl ?_ | refine qH rfl rfl ?_ | refine qI rfl rfl ?_ | refine qaf rfl rfl (by omega) (by omega) ?_ | refine jc rfl rfl (by omega) (by omega) ?_ | refine qag rfl rfl (by omega) (by omega) ?_ | refine ZN rfl rfl ?_ | refine ZO rfl rfl ?_ | refine ZP rfl rfl ?_ | refine qk tbN rfl rfl ?_ | refine Qz tbN rfl rfl rfl ?_ | refine qa2 rfl rfl ?_ | refine qen rfl rfl ?_ | refine qa3 rfl rfl ?_ | refine Q8 rfl rfl ?_ | refine qa7 rfl rfl (by decide) ?_ | refine qa8 rfl rfl (by decide) ?_ | refine qbm rfl rfl ?_ | refine J9 rfl rfl ?_ | refine qaq rfl rfl (by kernel_rfl) ?_ | refine YF rfl rfl (by kernel_rfl) ?_ | refine qw tbN rfl rfl rfl ?_ | refine qa9 rfl ?_ | refine Jd tbN rfl rfl rfl ?_ | (apply qZ tbN rfl rfl;(· (first | (refine At.own (?_);repeat (first | exact Has.here | refine Has.there ?_)) | exact At.seen (by assumption)));(· exact rfl)) | (apply qW tbN rfl rfl;(· (first | (refine At.own (?_);repeat (first | exact Has.here | refine Has.there ?_)) | exact At.seen (by assumption)));(· exact rfl)) | (apply qJ tbN rfl rfl rfl rfl rfl;(· (repeat (first | exact Upd.here | apply Upd.there)));(· exact rfl)) | (apply qL tbN rfl rfl rfl rfl rfl;(· (repeat (first | exact Upd.here | apply Upd.there)));(· exact rfl)) | (apply qS tbN (by kernel_rfl) rfl (rfl:tbN.fo _ 0=_);(· (repeat (first | exact Fill.nil | (apply Fill.cons;(· exact rfl);(· exact rfl);(· exact rfl);(· exact rfl);(· exact rfl)))))) | (refine ja rfl ?_;intro b) | (refine je rfl rfl ?_;intro b) | (refine qR tbN rfl ?_;intro b) | (apply yc tbN;(· exact rfl);(· exact rfl);(· exact rfl);(· decide);(· (repeat (first | exact Cat.nil | (apply Cat.cons;(· exact rfl);(· exact rfl);(· exact rfl)) | exact App.nil | apply App.cons)));intro b))) | refine Qs rfl rfl rfl rfl ?_ | refine qF rfl ?_ | refine qG rfl ?_ | refine qgK rfl (fun _=>?_) (fun _=>?_) | refine qcN rfl (fun _=>?_) (fun _=>?_) | refine Yx rfl rfl (fun _=>?_) (fun _=>?_) | refine Yy rfl rfl (fun _=>?_) (fun _=>?_) | refine qar rfl (fun _=>?_) (fun _=>?_) | refine qc9 rfl (fun _=>?_) (fun _=>?_) | refine JN rfl rfl (fun _=>?_) (fun _=>?_) | refine YG rfl rfl (fun _=>?_) (fun _=>?_)))
 exact jl hM hw hV0 hR [] (VB _) (qcd rfl rfl) hQ
theorem qwM{V:qa}{a:Addr}{cap:Nat}{Q:Value→qa→Own→Prop}(hQ:∀b,Q (.slice (some ⟨b,0,none⟩) 0 0) V [(b,.cells #[] 105 (0,0))]):jw Tryz.prog 157 #[.slice (some a) 0 cap] V [] Q:=by
 refine jf (args:=[_]) Tryz.func157 rfl Tryz.ntmps157 rfl ?_
 intro X w hM hb hw hV0 hR;dsimp only[Qf,zD,Nat.reduceAdd]
 (repeat' (first | refine jo ?_ | refine qz ?_ | refine jp ?_ | refine q9 ?_ | refine qU ?_ | refine jg ?_ | refine jy ?_ | refine jh ?_ | refine qp ?_ | refine qo ?_ | refine qx rfl ?_ | refine qu ?_ | refine ju ?_ | ((first | refine qV rfl ?_ | refine ji ?_ | refine yd rfl rfl rfl ?_);(first | (refine qd7 (e:=105) rfl rfl (by kernel_rfl) ?_) | refine qY rfl ?_ | refine qA rfl ?_ | refine qa4 rfl rfl ?_ | refine Yw rfl rfl ?_ | refine qa5 rfl rfl ?_ | refine ZQ rfl rfl ?_ | refine J4 rfl rfl ?_ | refine qa6 rfl rfl ?_ | refine qy rfl rfl ?_ | refine jz rfl ?_ | refine qH rfl rfl ?_ | refine qI rfl rfl ?_ | refine qaf rfl rfl (by omega) (by omega) ?_ | refine jc rfl rfl (by omega) (by omega) ?_ | refine qag rfl rfl (by omega) (by omega) ?_ | refine ZN rfl rfl ?_ | refine ZO rfl rfl ?_ | refine ZP rfl rfl ?_ | refine qk tbN rfl rfl ?_ | refine Qz tbN rfl rfl rfl ?_ | refine qa2 rfl rfl ?_ | refine qen rfl rfl ?_ | refine qa3 rfl rfl ?_ | refine Q8 rfl rfl ?_ | refine qa7 rfl rfl (by decide) ?_ | refine qa8 rfl rfl (by decide) ?_ | refine qbm rfl rfl ?_ | refine J9 rfl rfl ?_ | refine qaq rfl rfl (by kernel_rfl) ?_ | refine YF rfl rfl (by kernel_rfl) ?_ | refine qw tbN rfl rfl rfl ?_ | refine qa9 rfl ?_ | refine Jd tbN rfl rfl rfl ?_ | (apply qZ tbN rfl rfl;(· (first | (refine At.own (?_);repeat (first | exact Has.here | refine Has.there ?_)) | exact At.seen (by assumption)));(· exact rfl)) | (apply qW tbN rfl rfl;(· (first | (refine At.own (?_);repeat (first | exact Has.here | refine Has.there ?_)) | exact At.seen (by assumption)));(· exact rfl)) | (apply qJ tbN rfl rfl rfl rfl rfl;(· (repeat (first | exact Upd.here | apply Upd.there)));(· exact rfl)) | (apply qL tbN rfl rfl rfl rfl rfl;(· (repeat (first | exact Upd.here | apply Upd.there)));(· exact rfl)) | (apply qS tbN (by kernel_rfl) rfl (rfl:tbN.fo _ 0=_);(· (repeat (first | exact Fill.nil | (apply Fill.cons;(· exact rfl);(· exact rfl);(· exact rfl);(· exact rfl);(· exact rfl)))))) | (refine ja rfl ?_;intro b) | (refine je rfl rfl ?_;intro b) | (refine qR tbN rfl ?_;intro b) | (apply yc tbN;(· exact rfl);(· exact rfl);(· exact rfl);(· decide);(· (repeat (first | exact Cat.nil | (apply Cat.cons;(· exact rfl);(· exact rfl);(· exact rfl)) | exact App.nil | apply App.cons)));intro b))) | refine Qs rfl rfl rfl rfl ?_ | refine qF rfl ?_ | refine qG rfl ?_ | refine qgK rfl (fun _=>?_) (fun _=>?_) | refine qcN rfl (fun _=>?_) (fun _=>?_) | refine Yx rfl rfl (fun _=>?_) (fun _=>?_) | refine Yy rfl rfl (fun _=>?_) (fun _=>?_) | refine qar rfl (fun _=>?_) (fun _=>?_) | refine qc9 rfl (fun _=>?_) (fun _=>?_) | refine JN rfl rfl (fun _=>?_) (fun _=>?_) | refine YG rfl rfl (fun _=>?_) (fun _=>?_)))
 refine qV rfl (ZW (e:=105) (k:=1) tbN rfl rfl rfl (zE 0) ?_)
 (repeat' (first | refine jo ?_ | refine qz ?_ | refine jp ?_ | refine q9 ?_ | refine qU ?_ | refine jg ?_ | refine jy ?_ | refine jh ?_ | refine qp ?_ | refine qo ?_ | refine qx rfl ?_ | refine qu ?_ | refine ju ?_ | ((first | refine qV rfl ?_ | refine ji ?_ | refine yd rfl rfl rfl ?_);(first | refine qY rfl ?_ | refine qA rfl ?_ | refine qa4 rfl rfl ?_ | refine Yw rfl rfl ?_ | refine qa5 rfl rfl ?_ | refine ZQ rfl rfl ?_ | refine J4 rfl rfl ?_ | refine qa6 rfl rfl ?_ | refine qy rfl rfl ?_ | refine jz rfl ?_ | refine qH rfl rfl ?_ | refine qI rfl rfl ?_ | refine qaf rfl rfl (by omega) (by omega) ?_ | refine jc rfl rfl (by omega) (by omega) ?_ | refine qag rfl rfl (by omega) (by omega) ?_ | refine ZN rfl rfl ?_ | refine ZO rfl rfl ?_ | refine ZP rfl rfl ?_ | refine qk tbN rfl rfl ?_ | refine Qz tbN rfl rfl rfl ?_ | refine qa2 rfl rfl ?_ | refine qen rfl rfl ?_ | refine qa3 rfl rfl ?_ | refine Q8 rfl rfl ?_ | refine qa7 rfl rfl (by decide) ?_ | refine qa8 rfl rfl (by decide) ?_ | refine qbm rfl rfl ?_ | refine J9 rfl rfl ?_ | refine qaq rfl rfl (by kernel_rfl) ?_ | refine YF rfl rfl (by kernel_rfl) ?_ | refine qw tbN rfl rfl rfl ?_ | refine qa9 rfl ?_ | refine Jd tbN rfl rfl rfl ?_ | (apply qZ tbN rfl rfl;(· (first | (refine At.own (?_);repeat (first | exact Has.here | refine Has.there ?_)) | exact At.seen (by assumption)));(· exact rfl)) | (apply qW tbN rfl rfl;(· (first | (refine At.own (?_);repeat (first | exact Has.here | refine Has.there ?_)) | exact At.seen (by assumption)));(· exact rfl)) | (apply qJ tbN rfl rfl rfl rfl rfl;(· (repeat (first | exact Upd.here | apply Upd.there)));(· exact rfl)) | (apply qL tbN rfl rfl rfl rfl rfl;(· (repeat (first | exact Upd.here | apply Upd.there)));(· exact rfl)) | (apply qS tbN (by kernel_rfl) rfl (rfl:tbN.fo _ 0=_);(· (repeat (first | exact Fill.nil | (apply Fill.cons;(· exact rfl);(· exact rfl);(· exact rfl);(· exact rfl);(· exact rfl)))))) | (refine ja rfl ?_;intro b) | (refine je rfl rfl ?_;intro b) | (refine qR tbN rfl ?_;intro b) | (apply yc tbN;(· exact rfl);(· exact rfl);(· exact rfl);(· decide);(· (repeat (first | exact Cat.nil | (apply Cat.cons;(· exact rfl);(· exact rfl);(· exact rfl)) | exact App.nil | apply App.cons)));intro b))) | refine Qs rfl rfl rfl rfl ?_ | refine qF rfl ?_ | refine qG rfl ?_ | refine qgK rfl (fun _=>?_) (fun _=>?_) | refine qcN rfl (fun _=>?_) (fun _=>?_) | refine Yx rfl rfl (fun _=>?_) (fun _=>?_) | refine Yy rfl rfl (fun _=>?_) (fun _=>?_) | refine qar rfl (fun _=>?_) (fun _=>?_) | refine qc9 rfl (fun _=>?_) (fun _=>?_) | refine JN rfl rfl (fun _=>?_) (fun _=>?_) | refine YG rfl rfl (fun _=>?_) (fun _=>?_)))
 exact jl hM hw hV0 hR [(b,.cells #[] 105 (0,0))] (VB _) (qcd rfl rfl) (hQ b)
theorem qwN{V:qa}{bb off len cap:Nat}{news:List Value}{Q:Value→qa→Own→Prop}(hn:news.length=len*1)(h1:∀u∈news,u.oneCell'=true)(hr:∀(j:Nat) (u:Value),news[j]?=some u→rd V bb (off+j) u)(h0:0<len)(hl:len≤549755813888)
 (hQ:∀v' Gr',RowC 105 1 v' Gr' len news→Q v' V Gr'):jw Tryz.prog 157 #[.slice (some ⟨bb,off,none⟩) len cap] V [] Q:=by
 refine jf (args:=[_]) Tryz.func157 rfl Tryz.ntmps157 rfl ?_
 intro X w hM hb hw hV0 hR;dsimp only[Qf,zD,Nat.reduceAdd]
 (repeat' (first | refine jo ?_ | refine qz ?_ | refine jp ?_ | refine q9 ?_ | refine qU ?_ | refine jg ?_ | refine jy ?_ | refine jh ?_ | refine qp ?_ | refine qo ?_ | refine qx rfl ?_ | refine qu ?_ | refine ju ?_ | ((first | refine qV rfl ?_ | refine ji ?_ | refine yd rfl rfl rfl ?_);(first | (refine qd7 (e:=105) rfl rfl (by kernel_rfl) ?_) | refine qY rfl ?_ | refine qA rfl ?_ | refine qa4 rfl rfl ?_ | refine Yw rfl rfl ?_ | refine qa5 rfl rfl ?_ | refine ZQ rfl rfl ?_ | refine J4 rfl rfl ?_ | refine qa6 rfl rfl ?_ | refine qy rfl rfl ?_ | refine jz rfl ?_ | refine qH rfl rfl ?_ | refine qI rfl rfl ?_ | refine qaf rfl rfl (by omega) (by omega) ?_ | refine jc rfl rfl (by omega) (by omega) ?_ | refine qag rfl rfl (by omega) (by omega) ?_ | refine ZN rfl rfl ?_ | refine ZO rfl rfl ?_ | refine ZP rfl rfl ?_ | refine qk tbN rfl rfl ?_ | refine Qz tbN rfl rfl rfl ?_ | refine qa2 rfl rfl ?_ | refine qen rfl rfl ?_ | refine qa3 rfl rfl ?_ | refine Q8 rfl rfl ?_ | refine qa7 rfl rfl (by decide) ?_ | refine qa8 rfl rfl (by decide) ?_ | refine qbm rfl rfl ?_ | refine J9 rfl rfl ?_ | refine qaq rfl rfl (by kernel_rfl) ?_ | refine YF rfl rfl (by kernel_rfl) ?_ | refine qw tbN rfl rfl rfl ?_ | refine qa9 rfl ?_ | refine Jd tbN rfl rfl rfl ?_ | (apply qZ tbN rfl rfl;(· (first | (refine At.own (?_);repeat (first | exact Has.here | refine Has.there ?_)) | exact At.seen (by assumption)));(· exact rfl)) | (apply qW tbN rfl rfl;(· (first | (refine At.own (?_);repeat (first | exact Has.here | refine Has.there ?_)) | exact At.seen (by assumption)));(· exact rfl)) | (apply qJ tbN rfl rfl rfl rfl rfl;(· (repeat (first | exact Upd.here | apply Upd.there)));(· exact rfl)) | (apply qL tbN rfl rfl rfl rfl rfl;(· (repeat (first | exact Upd.here | apply Upd.there)));(· exact rfl)) | (apply qS tbN (by kernel_rfl) rfl (rfl:tbN.fo _ 0=_);(· (repeat (first | exact Fill.nil | (apply Fill.cons;(· exact rfl);(· exact rfl);(· exact rfl);(· exact rfl);(· exact rfl)))))) | (refine ja rfl ?_;intro b) | (refine je rfl rfl ?_;intro b) | (refine qR tbN rfl ?_;intro b) | (apply yc tbN;(· exact rfl);(· exact rfl);(· exact rfl);(· decide);(· (repeat (first | exact Cat.nil | (apply Cat.cons;(· exact rfl);(· exact rfl);(· exact rfl)) | exact App.nil | apply App.cons)));intro b))) | refine Qs rfl rfl rfl rfl ?_ | refine qF rfl ?_ | refine qG rfl ?_ | refine qgK rfl (fun _=>?_) (fun _=>?_) | refine qcN rfl (fun _=>?_) (fun _=>?_) | refine Yx rfl rfl (fun _=>?_) (fun _=>?_) | refine Yy rfl rfl (fun _=>?_) (fun _=>?_) | refine qar rfl (fun _=>?_) (fun _=>?_) | refine qc9 rfl (fun _=>?_) (fun _=>?_) | refine JN rfl rfl (fun _=>?_) (fun _=>?_) | refine YG rfl rfl (fun _=>?_) (fun _=>?_)))
 refine qV rfl (ZX (e:=105) (k:=1) (m:=0) (z:=[.int .u32 0]) (Gr:=[(b,.cells #[] 105 (0,0))]) (G1:=[]) (xs:=[]) (news:=news) tbN rfl rfl rfl (zo (by kernel_rfl)) rfl rfl (fun w hw j u hj=>?_) hn h1 (RowC.some (g:=b) (cur:=#[]) (zE 0) (zE 0) (by simp[maxLen]) rfl rfl) (zJ _) h0 (by omega) fun v' Gr' hR'=>?_)
 · obtain⟨arr,e,f0,q1,q2⟩:=hr j u hj
   rw[Qg,yD (hw.view _ _ q1)];exact q2
 · (repeat' (first | refine jo ?_ | refine qz ?_ | refine jp ?_ | refine q9 ?_ | refine qU ?_ | refine jg ?_ | refine jy ?_ | refine jh ?_ | refine qp ?_ | refine qo ?_ | refine qx rfl ?_ | refine qu ?_ | refine ju ?_ | ((first | refine qV rfl ?_ | refine ji ?_ | refine yd rfl rfl rfl ?_);(first | refine qY rfl ?_ | refine qA rfl ?_ | refine qa4 rfl rfl ?_ | refine Yw rfl rfl ?_ | refine qa5 rfl rfl ?_ | refine ZQ rfl rfl ?_ | refine J4 rfl rfl ?_ | refine qa6 rfl rfl ?_ | refine qy rfl rfl ?_ | refine jz rfl ?_ | refine qH rfl rfl ?_ | refine qI rfl rfl ?_ | refine qaf rfl rfl (by omega) (by omega) ?_ | refine jc rfl rfl (by omega) (by omega) ?_ | refine qag rfl rfl (by omega) (by omega) ?_ | refine ZN rfl rfl ?_ | refine ZO rfl rfl ?_ | refine ZP rfl rfl ?_ | refine qk tbN rfl rfl ?_ | refine Qz tbN rfl rfl rfl ?_ | refine qa2 rfl rfl ?_ | refine qen rfl rfl ?_ | refine qa3 rfl rfl ?_ | refine Q8 rfl rfl ?_ | refine qa7 rfl rfl (by decide) ?_ | refine qa8 rfl rfl (by decide) ?_ | refine qbm rfl rfl ?_ | refine J9 rfl rfl ?_ | refine qaq rfl rfl (by kernel_rfl) ?_ | refine YF rfl rfl (by kernel_rfl) ?_ | refine qw tbN rfl rfl rfl ?_ | refine qa9 rfl ?_ | refine Jd tbN rfl rfl rfl ?_ | (apply qZ tbN rfl rfl;(· (first | (refine At.own (?_);repeat (first | exact Has.here | refine Has.there ?_)) | exact At.seen (by assumption)));(· exact rfl)) | (apply qW tbN rfl rfl;(· (first | (refine At.own (?_);repeat (first | exact Has.here | refine Has.there ?_)) | exact At.seen (by assumption)));(· exact rfl)) | (apply qJ tbN rfl rfl rfl rfl rfl;(· (repeat (first | exact Upd.here | apply Upd.there)));(· exact rfl)) | (apply qL tbN rfl rfl rfl rfl rfl;(· (repeat (first | exact Upd.here | apply Upd.there)));(· exact rfl)) | (apply qS tbN (by kernel_rfl) rfl (rfl:tbN.fo _ 0=_);(· (repeat (first | exact Fill.nil | (apply Fill.cons;(· exact rfl);(· exact rfl);(· exact rfl);(· exact rfl);(· exact rfl)))))) | (refine ja rfl ?_;intro b) | (refine je rfl rfl ?_;intro b) | (refine qR tbN rfl ?_;intro b) | (apply yc tbN;(· exact rfl);(· exact rfl);(· exact rfl);(· decide);(· (repeat (first | exact Cat.nil | (apply Cat.cons;(· exact rfl);(· exact rfl);(· exact rfl)) | exact App.nil | apply App.cons)));intro b))) | refine Qs rfl rfl rfl rfl ?_ | refine qF rfl ?_ | refine qG rfl ?_ | refine qgK rfl (fun _=>?_) (fun _=>?_) | refine qcN rfl (fun _=>?_) (fun _=>?_) | refine Yx rfl rfl (fun _=>?_) (fun _=>?_) | refine Yy rfl rfl (fun _=>?_) (fun _=>?_) | refine qar rfl (fun _=>?_) (fun _=>?_) | refine qc9 rfl (fun _=>?_) (fun _=>?_) | refine JN rfl rfl (fun _=>?_) (fun _=>?_) | refine YG rfl rfl (fun _=>?_) (fun _=>?_)))
   rw[KU];refine jl hM hw hV0 hR Gr' (VB _) (qcd rfl rfl) (hQ _ _ ?_)
   rw[zD,zK]at hR';exact hR'
end Fly
namespace Su
open Go Go.Proofs Fly
theorem qjv(l:List T):sub l 0 l.length=some l:=Jz l
theorem qgD{P:Program}{f:Nat}{V:qa}{vs:List Value}{l:List T}{e w:Nat}
 (h:jw P f vs.toArray V [] fun v V' G'=>∃ie,RepOB V' [ie] (.row false e w l) ie G'∧RepS V' [ie] (.osl 0 0 l.length) v):jw P f vs.toArray V [] fun v V' _=>∃rvs,RepA V' [.sl w l] rvs∧v=Qt rvs:=by
 intro w0 hs hG hV hnd;refine(h w0 hs hG hV hnd).mono ?_
 rintro ex w' ⟨v,V',G',rfl,hh,ie,m1,m2⟩
 have hsub:sub l 0 l.length=some l:=qjv l
 have hz:toTs 64 ⟨[],[],[.row false e w l]⟩ [.osl 0 0 l.length]=some ([.sl w l],(St.mk [] [] [.row false e w l]).frow 0 w l):=by
  simp only[toTs,toT,Wa,hsub,zh]
 obtain⟨V2,G2,g2,s2,r2,_⟩:=(Qn (I:=[ie]) (L:=[]) 64).2 ⟨[],[],[.row false e w l]⟩ _ [.osl 0 0 l.length] _ hz V' G' [v] (.cons m2 .nil) ⟨⟨G'++[],.cons m1 .nil,by rw[KU]⟩,fun d sv hd _=>by simp[St.look]at hd⟩ ⟨fun p hp=>(hh.free p (by simp[hp])).2,by have:=hh.nodup;simpa using this⟩
 exact⟨_,V2,G2,rfl,g2.holds _ _ hh,[v],r2,rfl⟩
noncomputable def qp3:PrimD:=⟨List Int,fun xs=>((d1 (cQ 1 1)).dec xs).bind fun l=>bif qgl l then some l else none,fun l=>[.sl 1 (l.map eW)],none,some (105,1),fun _=>none⟩
theorem qjw{V:qa}{v:Value}{l:List T}(hl:l.length≤549755813888)(h:Rep V (.sl 1 l) v) :
 jw Tryz.prog 157 #[v] V [] fun v' V' G'=>∃ie,RepOB V' [ie] (.row false 105 1 l) ie G'∧RepS V' [ie] (.osl 0 0 l.length) v':=by
 cases h with | @sl _ _ vs a cap a1 a2 a3 a4 a5 a6=>
 have hn:vs.length=l.length*1:=by rw[← a1.length,Ql a3]
 by_cases h0:l=[]
 · subst h0
   cases a with
   | none=>exact qwL ⟨.vrow,.vrow,.oslv rfl⟩
   | some a=>exact qwM fun b=>⟨.row b 1 0,.row (by simp) (by simp[maxLen]) (by simp) (by simpa using RepA.nil) (by simp) (by simp),by
    have:=RepS.osl (V:=V) (I:=[IE.row b 1 0]) (n:=0) (off:=0) (len:=0) (b:=b) (k:=1) (ct:=0) (cap:=0) rfl (by omega) (by simp[maxLen]) ⟨by simp,by simp⟩
    simpa using this⟩
 · have hpos:0<l.length:=List.length_pos_iff.2 h0
   rcases a6 with a6 | ⟨b,off,rfl,a6⟩
   · exact absurd a6 h0
   · refine qwN hn (QN a1 a2) a6 hpos hl fun v' Gr' hR=>?_
     obtain⟨b',ct,cap,rfl,b1,b2,b3⟩:=qnF (V:=V) (I:=[.row 0 0 0]) (l:=l) hR hpos rfl a1 a2 a3
     refine⟨.row b' 1 ct,b3.row_any,?_⟩
     have:=RepS.osl (V:=V) (I:=[IE.row b' 1 ct]) (n:=0) (off:=0) (len:=l.length) (b:=b') (k:=1) (ct:=ct) (cap:=cap) rfl (by omega) b2 ⟨b1.1,by omega⟩
     rw[K8]at this;exact this
theorem qh9(xs:List T)(y:List Int)(h:((d1 (cQ 1 1)).dec xs).bind (fun l=>bif qgl l then some l else none)=some y)(V:qa)(vs:List Value)(hr:RepA V xs vs) :
 jw Tryz.prog 157 vs.toArray V [] fun v V' G'=>∃ie,RepOB V' [ie] (.row false 105 1 (y.map eW)) ie G'∧RepS V' [ie] (.osl 0 0 (y.map eW).length) v:=by
 obtain⟨l,h1,h2⟩:=osm h;obtain⟨h3,h4⟩:=qh h2;have:=soi h4;subst this
 have hr2:=(d1 (cQ 1 1)).rep h1 hr
 cases hr2 with | cons k1 k2=>cases k2 with | nil=>
 cases k1 with | ql k1=>
 exact qjw (l:=l.map eW) (by have h5:(l.map (view 1)).length=l.length:=zH ..;rw[show(List.map eW l).length=l.length from h5];exact zo h3) k1
theorem qp4:OkT 157 qp3:=by
 refine⟨by kernel_rfl,fun xs y h V vs _ hr=>qgD (qh9 xs y h V vs hr),fun j hj xs y h V vs _ hr=>?_⟩
 have hj:some ((105,1):Nat×Nat)=some j:=hj
 simp only[zb]at hj;subst hj;intro w0 a1 a2 a3 a4;refine(qh9 xs y h V vs hr w0 a1 a2 a3 a4).mono ?_
 rintro e w' ⟨v,V',G',rfl,hh,ie,m1,m2⟩
 refine⟨v,V',G',rfl,hh,fun w l he hw=>?_⟩
 have he:[T.sl 1 (y.map eW)]=[.sl w l]:=he
 simp only[Wz,T.sl.injEq,and_true]at he;obtain⟨rfl,rfl⟩:=he;exact⟨ie,m1,m2⟩
end Su
end
section
namespace Su
noncomputable section
open Go Go.Proofs Fly
def qla:PrimD:=prim (dc (cQ 1 1) (d1 (cI .u32))) (dc (cQ 1 1) (d1 (cQ 1 1))) JA
theorem qts:OkT 112 qla:=by
 refine⟨by kernel_rfl,fun xs y h V vs hgk hr=>?_,fun j hj=>nomatch hj⟩
 obtain⟨p,h1,h2⟩:=osm (show((dc (cQ 1 1) (d1 (cI .u32))).dec xs).bind JA=some y from h)
 have hr2:=(dc (cQ 1 1) (d1 (cI .u32))).rep h1 hr
 have hg:=(dc (cQ 1 1) (d1 (cI .u32))).rng hr2
 obtain⟨a,b⟩:=p;obtain⟨h3,h4⟩:=qh h2;have:=soi h4;subst this
 rw[zn,zL]at h3;obtain⟨⟨ha,la⟩,hb⟩:=hg;have hb:=qcy.1 hb;obtain⟨h3a,h3b⟩:=h3;have h3a:0<b:=h3a
 obtain⟨B,rfl⟩:∃B:Nat,b=(B:Int):=⟨b.toNat,by omega⟩
 cases hr2 with | cons k1 k2=>
 cases k2 with | cons k2 k3=>
 cases k3 with | nil=>
 cases k2 with | s k2=>
 exact Go.Proofs.Sho.short_fing hgk (Wd.of ha) (by omega) (by have:=hb.2;omega) (zo h3b) k1
def qlb:PrimD:=prim (d1 (cQ 1 1)) (d1 (cQ 1 1)) QF
theorem qtt:OkT 157 qlb:=by
 refine⟨by kernel_rfl,fun xs y h V vs hg hr=>?_,fun j hj=>nomatch hj⟩
 have hF:=qp4.2.1 xs y h V vs hg hr;intro w a1 a2 a3 a4;refine(hF w a1 a2 a3 a4).mono ?_
 rintro e w' ⟨v,V',G',rfl,hh,rvs,m1,rfl⟩
 refine⟨_,V',G',rfl,hh,rvs,?_,rfl⟩
 have m1:RepA V' [.sl 1 (List.map (view 1) (y:List (U 1)))] rvs:=m1
 cases m1 with | cons k1 k2=>cases k2 with | nil=>exact .cons (.ql k1) .nil
def qp5:qO:=jX [(157,qlb),(112,qla)] qp1
theorem qfj:PkT qp5:=qB qmq (qf qtt (qf qts qT))
end
end Su
end
section
namespace Su
noncomputable section
open Go Go.Proofs Fly
set_option maxRecDepth 100000
def quD:PrimD:=prim (dc (cQ 1 1) (d1 (cQ 1 1))) (dc (cQ 1 1) (dc (cQ 1 1) (d1 (cI .i64)))) (qb7)
theorem qyH:OkT 108 quD:=yu jt qfj (fun fu a=>Div fu a.1 a.2) (by kernel_rfl) (fun _ _=>by kernel_rfl) qvR
def qp6:qO:=jX [(108,quD)] qp5
theorem qfk:PkT qp6:=qB qfj (qf qyH qT)
end
end Su
end
section
namespace Su
noncomputable section
open Go Go.Proofs Fly
set_option maxRecDepth 100000
def quE:PrimD:=prim (dc (cQ 1 1) (d1 (cQ 1 1))) (d1 (cQ 1 1)) (qub)
theorem qyI:OkT 124 quE:=yu jt qfk (fun fu a=>Gcd fu a.1 a.2) (by kernel_rfl) (fun _ _=>by kernel_rfl) qvS
def qp7:qO:=jX [(124,quE)] qp6
theorem qmt:PkT qp7:=qB qfk (qf qyI qT)
end
end Su
end
section
namespace Su
open Go Go.Proofs Fly
set_option maxRecDepth 100000
noncomputable def qp8:qO:=jX [] qp7
theorem qfl:PkT qp8:=qB qmt qT
end Su
end
section
namespace Su
noncomputable section
open Go Go.Proofs Fly
set_option maxRecDepth 100000
def qlc:PrimD:=prim (d1 (cI .u64)) (d1 (cI .i64)) (qkx)
theorem qtu:OkT 122 qlc:=yk jt qfl (fun a=>qoH a) (by kernel_rfl) (fun _ _=>by kernel_rfl) qoJ
def qp9:qO:=jX [(122,qlc)] qp8
theorem Zz:PkT qp9:=qB qfl (qf qtu qT)
end
end Su
end
section
namespace Su
noncomputable section
open Go Go.Proofs Fly
set_option maxRecDepth 100000
def qqa:PrimD:=prim (d1 cW) (d1 (cI .i64)) (qoK)
theorem qwO:OkT 152 qqa:=yk jt Zz (fun a=>qvT a) (by kernel_rfl) (fun _ _=>by kernel_rfl) qsF
def qqb:PrimD:=prim (dc cW (d1 (cI .i64))) (d1 cW) (qoL)
theorem qwP:OkT 154 qqb:=yu jt Zz (fun fu a=>qvU fu a.1 a.2) (by kernel_rfl) (fun _ _=>by kernel_rfl) qsG
def qqc:PrimD:=prim (dc cW (d1 (cI .i64))) (dc cW (d1 cB)) (qoM)
theorem qwQ:OkT 153 qqc:=yu jt Zz (fun fu a=>qvV fu a.1 a.2) (by kernel_rfl) (fun _ _=>by kernel_rfl) qsH
def qqd:qO:=jX [(152,qqa),(154,qqb),(153,qqc)] qp9
theorem qbL:PkT qqd:=qB Zz (qf qwO (qf qwP (qf qwQ qT)))
end
end Su
end
section
namespace Su
noncomputable section
open Go Go.Proofs Fly
set_option maxRecDepth 100000
def quF:PrimD:=prim (dc ql1 (dc (cI .u8) (dc cB (dc cB (d1 cB))))) (d1 cB) (quc)
theorem qyJ:OkT 155 quF:=yk jt qbL (fun a=>rUp a.1 a.2.1 a.2.2.1 a.2.2.2.1 a.2.2.2.2) (by kernel_rfl) (fun _ _=>by kernel_rfl) qvX
def qld:PrimD:=prim (dc ql1 (d1 (cI .u8))) (dc (cI .u64) (d1 (cI .u8))) (qkC)
theorem qtv:OkT 156 qld:=yk jt qbL (fun a=>qoO a.1 a.2) (by kernel_rfl) (fun _ _=>by kernel_rfl) qoP
def qqe:qO:=jX [(155,quF),(156,qld)] qqd
theorem qfm:PkT qqe:=qB qbL (qf qyJ (qf qtv qT))
end
end Su
end
section
namespace Su
noncomputable section
open Go Go.Proofs Fly
set_option maxRecDepth 100000
def qia:PrimD:=prim (dc ql1 (d1 (cI .u8))) (dc (cI .u64) (d1 (cI .u8))) (YW)
theorem qqf:OkT 106 qia:=yk jt qfm (fun a=>qjf a.1 a.2) (by kernel_rfl) (fun _ _=>by kernel_rfl) ql9
def qqg:qO:=jX [(106,qia)] qqe
theorem J2:PkT qqg:=qB qfm (qf qqf qT)
end
end Su
end
section
namespace Su
noncomputable section
open Go Go.Proofs Fly
set_option maxRecDepth 100000
def quG:PrimD:=prim (dc cS (d1 (cI .u8))) (d1 cS) (qhR)
theorem qyK:OkT 117 quG:=yu jt J2 (fun fu a=>tLB fu a.1 a.2) (by kernel_rfl) (fun _ _=>by kernel_rfl) qv1
def quH:PrimD:=prim (dc cS (d1 (cI .u8))) (d1 cS) (qhS)
theorem qyL:OkT 162 quH:=yu jt J2 (fun fu a=>tRB fu a.1 a.2) (by kernel_rfl) (fun _ _=>by kernel_rfl) qv2
def qqh:PrimD:=prim (d1 (cI .i64)) (d1 cS) (qbv)
theorem qwR:OkT 56 qqh:=yu jt J2 (fun fu a=>qv0 fu a) (by kernel_rfl) (fun _ _=>by kernel_rfl) qsJ
def quI:PrimD:=prim (d1 (cI .i64)) (d1 cS) (ZJ)
theorem qyM:OkT 57 quI:=yu jt J2 (fun fu a=>tRd fu a) (by kernel_rfl) (fun _ _=>by kernel_rfl) qv3
def qqi:qO:=jX [(117,quG),(162,quH),(56,qqh),(57,quI)] qqg
theorem qfn:PkT qqi:=qB J2 (qf qyK (qf qyL (qf qwR (qf qyM qT))))
end
end Su
end
section
namespace Su
noncomputable section
open Go Go.Proofs Fly
set_option maxRecDepth 100000
def qqj:PrimD:=prim (d1 (cI .u64)) (d1 (cI .i64)) (fun a=>bLen a)
theorem qwS:OkT 64 qqj:=fnL jt qfn (by kernel_rfl) (fun _ _=>by kernel_rfl)
def qqk:qO:=jX [(64,qqj)] qqi
theorem qbM:PkT qqk:=qB qfn (qf qwS qT)
end
end Su
end
section
namespace Su
noncomputable section
open Go Go.Proofs Fly
set_option maxRecDepth 100000
def qql:PrimD:=prim (dc (cI .u64) (d1 (cI .i64))) (dc (cQ 1 1) (d1 (cI .i64))) (qgr)
theorem qwT:OkT 20 qql:=yu jt qbM (fun fu a=>qsL fu a.1 a.2) (by kernel_rfl) (fun _ _=>by kernel_rfl) qsO
def qqm:PrimD:=prim (d1 (cI .i64)) (d1 (cQ 1 1)) (YZ)
theorem qwU:OkT 107 qqm:=yk jt qbM (fun a=>qv4 a) (by kernel_rfl) (fun _ _=>by kernel_rfl) qsP
def qqn:qO:=jX [(20,qql),(107,qqm)] qqk
theorem qfo:PkT qqn:=qB qbM (qf qwT (qf qwU qT))
end
end Su
end
section
namespace Su
noncomputable section
open Go Go.Proofs Fly
set_option maxRecDepth 100000
def qle:PrimD:=prim (dc cB (dc (cQ 1 1) (dc (cQ 1 1) (d1 (cI .u8))))) (dc (cI .u64) (d1 (cI .u8))) (yN)
theorem qlf:OkT 50 qle:=yk jt qfo (fun a=>qkK a.1 a.2.1 a.2.2.1 a.2.2.2) (by kernel_rfl) (fun _ _=>by kernel_rfl) qoW
def qqo:qO:=jX [(50,qle)] qqn
theorem qfp:PkT qqo:=qB qfo (qf qlf qT)
end
end Su
end
section
namespace Su
noncomputable section
open Go Go.Proofs Fly
set_option maxRecDepth 100000
def qib:PrimD:=prim (d1 cS) (dc (cQ 1 1) (d1 (cI .i64))) (qdP)
theorem qqp:OkT 19 qib:=yu jt qfp (fun fu a=>qdO fu a) (by kernel_rfl) (fun _ _=>by kernel_rfl) qmb
def qqq:qO:=jX [(19,qib)] qqo
theorem qfq:PkT qqq:=qB qfp (qf qqp qT)
end
end Su
end
section
namespace Su
noncomputable section
open Go Go.Proofs Fly
set_option maxRecDepth 100000
def qlg:PrimD:=prim (d1 (cQ 1 1)) (d1 cS) (qcF)
theorem qtw:OkT 54 qlg:=yu jt qfq (fun fu a=>qkN fu a) (by kernel_rfl) (fun _ _=>by kernel_rfl) qo5
def qgE:qO:=jX [(54,qlg)] qqq
theorem qfr:PkT qgE:=qB qfq (qf qtw qT)
end
end Su
end
section
namespace Go.Proofs
open Go.Shelf
def Tryz.idxB_ren:Go.Shelf.Ren:=⟨fun | 137=>125 | 217=>170 | 266=>194 | n=>n,fun | 9=>9 | 5=>5 | 3=>3 | n=>n,fun | n=>n⟩
theorem Tryz.idxB:Go.Proofs.Lays.n137 Tryz.prog Tryz.idxB_ren:={
 mixed:=by kernel_rfl
 f137:=Tryz.func125.trans (congrArg some (by kernel_rfl))
 f217:=Tryz.func170.trans (congrArg some (by kernel_rfl))
 f266:=Tryz.func194.trans (congrArg some (by kernel_rfl))
 t3:=Tryz.underlying3
 a3:=Tryz.isAgg3
 z3:=Tryz.sizeOf3
 v3:=Tryz.zeroValue3
 t5:=Tryz.underlying5
 a5:=Tryz.isAgg5
 z5:=Tryz.sizeOf5
 v5:=Tryz.zeroValue5
 t9:=Tryz.underlying9
 a9:=Tryz.isAgg9
 z9:=Tryz.sizeOf9
 v9:=Tryz.zeroValue9 }
def Tryz.itoa_ren:Go.Shelf.Ren:=⟨fun | 171=>94 | 243=>145 | 246=>184 | 283=>205 | 284=>206 | 285=>207 | 286=>208 | 129=>122 | 317=>224 | 318=>225 | 319=>226 | 320=>227 | 337=>235 | 338=>236 | n=>n,fun | 3=>3 | 9=>9 | 2=>2 | 4=>4 | 171=>245 | 0=>0 | 53=>22 | 37=>129 | 5=>5 | 173=>247 | 212=>266 | 51=>105 | 20=>20 | 213=>267 | 46=>28 | 232=>282 | 233=>283 | n=>n,fun | 17=>4 | 18=>7 | 19=>8 | n=>n⟩
theorem Tryz.itoa:Go.Proofs.LaysM.n171 Tryz.prog Tryz.itoa_ren:={
 mixed:=by kernel_rfl
 f129:=Tryz.func122.trans (congrArg some (by kernel_rfl))
 f171:=Tryz.func94.trans (congrArg some (by kernel_rfl))
 f243:=Tryz.func145.trans (congrArg some (by kernel_rfl))
 f246:=Tryz.func184.trans (congrArg some (by kernel_rfl))
 f283:=Tryz.func205.trans (congrArg some (by kernel_rfl))
 f284:=Tryz.func206.trans (congrArg some (by kernel_rfl))
 f285:=Tryz.func207.trans (congrArg some (by kernel_rfl))
 f286:=Tryz.func208.trans (congrArg some (by kernel_rfl))
 f317:=Tryz.func224.trans (congrArg some (by kernel_rfl))
 f318:=Tryz.func225.trans (congrArg some (by kernel_rfl))
 f319:=Tryz.func226.trans (congrArg some (by kernel_rfl))
 f320:=Tryz.func227.trans (congrArg some (by kernel_rfl))
 f337:=Tryz.func235.trans (congrArg some (by kernel_rfl))
 f338:=Tryz.func236.trans (congrArg some (by kernel_rfl))
 t0:=Tryz.underlying0
 a0:=Tryz.isAgg0
 z0:=Tryz.sizeOf0
 v0:=Tryz.zeroValue0
 t2:=Tryz.underlying2
 a2:=Tryz.isAgg2
 z2:=Tryz.sizeOf2
 v2:=Tryz.zeroValue2
 t3:=Tryz.underlying3
 a3:=Tryz.isAgg3
 z3:=Tryz.sizeOf3
 v3:=Tryz.zeroValue3
 t4:=Tryz.underlying4
 a4:=Tryz.isAgg4
 z4:=Tryz.sizeOf4
 v4:=Tryz.zeroValue4
 t5:=Tryz.underlying5
 a5:=Tryz.isAgg5
 z5:=Tryz.sizeOf5
 v5:=Tryz.zeroValue5
 t9:=Tryz.underlying9
 a9:=Tryz.isAgg9
 z9:=Tryz.sizeOf9
 v9:=Tryz.zeroValue9
 t20:=Tryz.underlying20
 a20:=Tryz.isAgg20
 z20:=Tryz.sizeOf20
 v20:=Tryz.zeroValue20
 t37:=Tryz.underlying129
 a37:=Tryz.isAgg129
 z37:=Tryz.sizeOf129
 v37:=Tryz.zeroValue129
 t46:=Tryz.underlying28
 a46:=Tryz.isAgg28
 z46:=Tryz.sizeOf28
 v46:=Tryz.zeroValue28
 t51:=Tryz.underlying105
 a51:=Tryz.isAgg105
 z51:=Tryz.sizeOf105
 v51:=Tryz.zeroValue105
 t53:=Tryz.underlying22
 a53:=Tryz.isAgg22
 z53:=Tryz.sizeOf22
 v53:=Tryz.zeroValue22
 t171:=Tryz.underlying245
 a171:=Tryz.isAgg245
 z171:=Tryz.sizeOf245
 v171:=Tryz.zeroValue245
 t173:=Tryz.underlying247
 a173:=Tryz.isAgg247
 z173:=Tryz.sizeOf247
 v173:=Tryz.zeroValue247
 t212:=Tryz.underlying266
 a212:=Tryz.isAgg266
 z212:=Tryz.sizeOf266
 v212:=Tryz.zeroValue266
 t213:=Tryz.underlying267
 a213:=Tryz.isAgg267
 z213:=Tryz.sizeOf267
 t232:=Tryz.underlying282
 a232:=Tryz.isAgg282
 z232:=Tryz.sizeOf282
 v232:=Tryz.zeroValue282
 t233:=Tryz.underlying283
 a233:=Tryz.isAgg283
 z233:=Tryz.sizeOf283
 v233:=Tryz.zeroValue283
 g17:=by kernel_rfl
 g18:=by kernel_rfl
 g19:=by kernel_rfl
 i0:=by kernel_rfl
 i2:=by kernel_rfl
 i3:=by kernel_rfl
 i4:=by kernel_rfl
 i5:=by kernel_rfl
 i9:=by kernel_rfl
 i20:=by kernel_rfl
 i37:=by kernel_rfl
 i46:=by kernel_rfl
 i51:=by kernel_rfl
 i53:=by kernel_rfl
 i171:=by kernel_rfl
 i173:=by kernel_rfl
 i212:=by kernel_rfl
 i232:=by kernel_rfl
 i233:=by kernel_rfl
 m17:=by kernel_rfl
 m18:=by kernel_rfl
 m19:=by kernel_rfl }
end Go.Proofs
end
section
namespace Su
noncomputable section
open Go Go.Proofs Fly
theorem qlh(c:UInt8):∀l,Lib.indexByte l c=jb c l
 | []=>rfl
 | b::l=>by
  unfold Lib.indexByte jb;rw[qlh c l];cases b == c with
  | true=>rfl
  | false=>
   simp only[zm];by_cases h:jb c l = -1
   · simp[h]
   · simp[h]
def qqr:PrimD:=prim (dc cS (d1 (cI .u8))) (d1 (cI .i64)) qoS
theorem qjx{V:qa}{w:World}(hs:ZC V w):Holds ⟨keys [],w,V,fun _ _ _=>False⟩ V [] w :=
 ⟨Ext.refl _ _,hs,(fun p hp=>by cases hp),(fun p hp=>by cases hp),.nil,Sub.refl _,fun r h0 hr=>absurd h0 hr⟩
theorem qwV:OkT 125 qqr:=by
 refine⟨by kernel_rfl,fun xs y h V vs _ hr=>?_,fun j hj=>nomatch hj⟩
 obtain⟨p,h1,h2⟩:=osm (show((dc cS (d1 (cI .u8))).dec xs).bind qoS=some y from h)
 have hr2:=(dc cS (d1 (cI .u8))).rep h1 hr
 have hg:=(dc cS (d1 (cI .u8))).rng hr2
 obtain⟨s,c⟩:=p;have:=soi h2;subst this
 cases hr2 with | cons k1 k2=>
 cases k2 with | cons k2 k3=>
 cases k3 with | nil=>
 cases k1 with | s k1=>
 cases k2 with | s k2=>
 intro w hs _ _ _;refine(Any.strings_IndexByte Tryz.idxB s c w).mono ?_
 rintro e w' ⟨rfl,rfl⟩
 refine⟨_,V,[],rfl,qjx hs,[_],.cons (.s (v:=.int .i64 (jb (UInt8.ofNat c.toNat) (lb s))) ?_) .nil,?_⟩
 · have hl:s.size≤maxLen:=hg.1
   have:=Zt (UInt8.ofNat c.toNat) (lb s)
   have e:(lb s).length=s.size:=by unfold lb;rw[KF];rfl
   rw[yA]at hl;exact Q3.2 ⟨by omega,by omega⟩
 · rw[qlh];rfl
theorem qqs:∀n,Lib.decDigits n=dg n:=by
 intro n;induction n using Nat.strongRecOn with
 | ind n ih=>
  unfold Lib.decDigits;by_cases h:n<10
  · rw[dif_pos h,qhO h]
  · rw[dif_neg h,qhP (by omega),ih (n / 10) (by omega)]
theorem qwW(n:Int):Lib.itoa n=itT n:=by
 unfold Lib.itoa itT;rw[qqs,qqs];by_cases h:n<0
 · rw[zA h,za h];rfl
 · rw[zx h,zk h];rfl
def quJ:PrimD:=prim (d1 (cI .i64)) (d1 cS) qe3
theorem qic{V:qa}:∀ {l:List Nat} {vs:List Value},RepA V (l.map fun z=>T.s (.int .u64 ((z:Nat):Int))) vs→vs=l.map fun z=>Value.int .u64 ((z:Nat):Int)
 | [],_,.nil=>rfl
 | z::l,_,.cons h h'=>by
  cases h with | s h=>
  rw[KT,qic h']
theorem qwX{V:qa}{w:World}(hg:GOK tb V)(hs:ZC V w):Lib.TabIs Tryz.prog w "internal/strconv.uint64pow10" .u64 Lib.pow10Tab:=by
 obtain⟨h1,arr,e,f,h2,h3⟩:=hg.1 4 gT4 rfl
 unfold Lib.TabIs World.var?
 rw[show Tryz.prog.globalNamed "internal/strconv.uint64pow10"=some 4 by kernel_rfl,zh];show(match w.heap[4]? with | some (.cells cs _ _)=>some cs | _=>none)=_
 rw[hs _ _ h2];have hv:arr.toList=[1,10,100,1000,10000,100000,1000000,10000000,100000000,1000000000,10000000000,100000000000,1000000000000,10000000000000,100000000000000,1000000000000000,10000000000000000,100000000000000000,1000000000000000000,10000000000000000000].map fun z:Nat=>Value.int .u64 ((z:Nat):Int):=by
  cases h1 with
  | pt k1 k2 k3=>
   rename_i vs;have hvs:=qic (l:=[1,10,100,1000,10000,100000,1000000,10000000,100000000,1000000000,10000000000,100000000000,1000000000000,10000000000000,100000000000000,1000000000000000,10000000000000000,100000000000000000,1000000000000000000,10000000000000000000]) k1
   rw[← hvs];have hl:vs.length=20:=by rw[hvs];rfl
   have hsz:arr.toList.length=20:=by rw[KF];exact h3
   refine List.ext_getElem? fun j=>?_
   by_cases hj:j<20
   · obtain⟨arr',e',f',q1,q2⟩:=k3 j vs[j] (zq (by omega))
     rw[h2]at q1;simp only[zb,Obj.cells.injEq]at q1;obtain⟨rfl,_⟩:=q1;rw[zq (show j<vs.length by omega),← q2,zD];simp
   · rw[zQ (by omega),zQ (by omega)]
 have:arr=(Lib.pow10Tab.map fun z=>Value.int .u64 z).toArray:=by
  apply Array.toList_inj.1
  rw[hv];rfl
 rw[this]
theorem qtx{V:qa}{w:World}(hs:ZC V w)(k:Nat)(os:Array Obj):Holds ⟨keys [],w,V,fun _ _ _=>False⟩ V [] (Go.Sort.grow (w.drewN k) os):=by
 have hh:(Go.Sort.grow (w.drewN k) os).heap=w.heap++os:=rfl
 refine⟨⟨rfl,rfl,rfl,by rw[hh];simp,fun i hi _=>?_⟩,fun r o hr=>?_,(fun p hp=>by cases hp),(fun p hp=>by cases hp),.nil,Sub.refl _,fun r h0 hr=>absurd h0 hr⟩
 · rw[hh,VW hi]
 · have:=hs r o hr
   rw[hh,VW (zX.1 this).1];exact this
theorem qyN:OkT 94 quJ:=by
 refine⟨by kernel_rfl,fun xs y h V vs hgk hr=>?_,fun j hj=>nomatch hj⟩
 obtain⟨n,h1,h2⟩:=osm (show((d1 (cI .i64)).dec xs).bind qe3=some y from h)
 have hr2:=(d1 (cI .i64)).rep h1 hr
 obtain⟨h3,h4⟩:=qh h2;have:=soi h4;subst this
 simp only[zn,zL]at h3;cases hr2 with | cons k1 k2=>
 cases k2 with | nil=>
 cases k1 with | s k1=>
 intro w hs _ _ _;refine(Any.strconv_Itoa Tryz.itoa n (by omega) (by omega) w (qwX hgk hs)).mono ?_
 rintro e w' ⟨rfl,k,os,rfl⟩
 refine⟨_,V,[],rfl,qtx hs k os,[_],.cons (.s (v:=.string (bs (itT n))) ?_) .nil,?_⟩
 · refine zr ?_
   show(bs (itT n)).size≤maxLen
   have:=qcC h3.1 h3.2
   rw[qe,yA];omega
 · rw[qwW];rfl
end
end Su
end
section
namespace Su
noncomputable section
open Go Go.Proofs Fly
set_option maxRecDepth 100000
theorem qqt:(List.range 41).map (fun k=>qek tb qgE (shN tb qgE 9 9) 9 102 ((dc (cK (bs [48])) (d1 (cI .i64))).enc ((),((k:Nat):Int))) (d1 cS).dec)=(List.range 41).map fun k=>some (bs (zs k)):=by kernel_rfl
def qqu:PrimD:=prim (dc (cK (bs [48])) (d1 (cI .i64))) (d1 cS) qdR
theorem qwY:OkT 102 qqu:=Zp jt qfr (by kernel_rfl) fun a y hg h=>by
 obtain⟨u,n⟩:=a;obtain⟨h1,h2⟩:=qh h;have:=soi h2;subst this
 simp only[zn,zL]at h1;obtain⟨k,rfl⟩:=z8 h1.1;exact⟨9,9,9,List.map_inj_left.1 qqt k (List.mem_range.2 (by omega))⟩
def qjy:qO:=jX [(125,qqr),(94,quJ),(102,qqu)] qgE
theorem ZA:PkT qjy:=qB qfr (qf qwV (qf qyN (qf qwY qT)))
end
end Su
end
section
namespace Su
noncomputable section
open Go Go.Proofs Fly
set_option maxRecDepth 100000
def qqv:PrimD:=prim (d1 (cI .i64)) (d1 (cQ 1 1)) (jQ)
theorem qwZ:OkT 51 qqv:=yk jt ZA (fun a=>qv7 a) (by kernel_rfl) (fun _ _=>by kernel_rfl) qsS
def quK:PrimD:=prim (dc cS (d1 (cI .i64))) (dc cS (d1 (cI .i64))) (qhU)
theorem qyO:OkT 53 quK:=yk jt ZA (fun a=>dTr a.1 a.2) (by kernel_rfl) (fun _ _=>by kernel_rfl) qv8
def qqw:qO:=jX [(51,qqv),(53,quK)] qjy
theorem qbN:PkT qqw:=qB ZA (qf qwZ (qf qyO qT))
end
end Su
end
section
namespace Su
noncomputable section
open Go Go.Proofs Fly
set_option maxRecDepth 100000
def quL:PrimD:=prim (d1 (cI .u64)) (d1 (cA (dc (cQ 1 1) (d1 (cQ 1 1))))) (fun a=>dOf a)
theorem qyP:OkT 47 quL:=fnL jt qbN (by kernel_rfl) (fun _ _=>by kernel_rfl)
def qli:PrimD:=prim (dc (cA (dc (cQ 1 1) (d1 (cQ 1 1)))) (d1 (cI .i64))) (d1 (cA (dc (cQ 1 1) (d1 (cQ 1 1))))) (fun a=>quj a.1 a.2)
theorem qty:OkT 52 qli:=fnL jt qbN (by kernel_rfl) (fun _ _=>by kernel_rfl)
def qqx:qO:=jX [(47,quL),(52,qli)] qqw
theorem qfs:PkT qqx:=qB qbN (qf qyP (qf qty qT))
end
end Su
end
section
namespace Su
noncomputable section
open Go Go.Proofs Fly
set_option maxRecDepth 100000
def qqy:PrimD:=prim (d1 (cI .u64)) (dc cS (d1 (cI .i64))) (Yh)
theorem qw0:OkT 13 qqy:=yu jt qfs (fun fu a=>qwb fu a) (by kernel_rfl) (fun _ _=>by kernel_rfl) qsV
def qqz:qO:=jX [(13,qqy)] qqx
theorem qbO:PkT qqz:=qB qfs (qf qw0 qT)
end
end Su
end
section
namespace Su
noncomputable section
open Go Go.Proofs Fly
set_option maxRecDepth 100000
def qid:PrimD:=prim (d1 (cI .u64)) (dc cB (dc (cI .i64) (d1 (cI .u64)))) (qhV)
theorem qqA:OkT 55 qid:=yk jt qbO (fun a=>qji a) (by kernel_rfl) (fun _ _=>by kernel_rfl) qmf
def qie:PrimD:=prim (d1 (cI .u64)) (d1 (cI .u8)) (qhW)
theorem qqB:OkT 14 qie:=yk jt qbO (fun a=>qjj a) (by kernel_rfl) (fun _ _=>by kernel_rfl) qmg
def qqC:qO:=jX [(55,qid),(14,qie)] qqz
theorem qft:PkT qqC:=qB qbO (qf qqA (qf qqB qT))
end
end Su
end
section
namespace Su
noncomputable section
open Go Go.Proofs Fly
set_option maxRecDepth 100000
def qlj:PrimD:=prim (dc cS (d1 (cI .i64))) (d1 cS) (QG)
theorem qtz:OkT 46 qlj:=yk jt qft (fun a=>qkT a.1 a.2) (by kernel_rfl) (fun _ _=>by kernel_rfl) qo8
def qqD:qO:=jX [(46,qlj)] qqC
theorem qbP:PkT qqD:=qB qft (qf qtz qT)
end
end Su
end
section
namespace Su
noncomputable section
open Go Go.Proofs Fly
set_option maxRecDepth 100000
def qlk:PrimD:=prim (dc cS (d1 (cI .i64))) (d1 cS) (qgt)
theorem qtA:OkT 15 qlk:=yk jt qbP (fun a=>qkU a.1 a.2) (by kernel_rfl) (fun _ _=>by kernel_rfl) qo9
def qif:PrimD:=prim (d1 (cI .u64)) (d1 cS) (qdY)
theorem qqE:OkT 12 qif:=yk jt qbP (fun a=>qjk a) (by kernel_rfl) (fun _ _=>by kernel_rfl) qmj
def qqF:qO:=jX [(15,qlk),(12,qif)] qqD
theorem qmu:PkT qqF:=qB qbP (qf qtA (qf qqE qT))
end
end Su
end
section
namespace Su
noncomputable section
open Go Go.Proofs Fly
set_option maxRecDepth 100000
def qd8{α:Type}(n:Nat)(k:Nat→α):α:=Nat.rec (motive:=fun _=>α) (k 0) (fun m _=>k (m+1)) n
theorem qll{α:Type}(n:Nat)(k:Nat→α):qd8 n k=k n:=by cases n <;> rfl
def qjz(p:Bool×List Int×List Int×Int):Option (Int×Int) :=
 qd8 (qc p.2.1) fun N=>qd8 (qc p.2.2.1) fun D=>
 bif Nat.beq N 0||Nat.beq D 0 then(bif Nat.ble (qm N) 100000&&Nat.ble (qm D) 100000 then some (0,0)else none)else
 bif((Nat.ble p.2.1.length 100000&&Nat.ble p.2.2.1.length 100000)&&(Nat.ble (qm N) 40000&&Nat.ble (qm D) 40000))&&(decide (-4000≤jL N D)&&decide (jL N D≤4000))then
  qd8 (JX N D) fun M=>qd8 (jL N D+6000).toNat fun E=>qd8 (RN p.1 p.2.2.2 M E (qe4 N D)) fun r=>some (((r:Nat):Int),qkL p.1 p.2.2.2 N D)
 else none
theorem qmv:qjz=yN:=by
 funext p
 unfold qjz yN;simp only[qll,qdN]
def qjA:PrimD:=prim (dc cB (dc (cQ 1 1) (dc (cQ 1 1) (d1 (cI .u8))))) (dc (cI .u64) (d1 (cI .u8))) qjz
theorem qqG:OkT 50 qjA:=by unfold qjA;rw[qmv];exact qlf
def qw1(p:List Int×Int):Option (List Int×Int):=bif Nat.ble p.1.length 1000000 then some (qhJ (qc p.1) (max p.2 0).toNat)else none
theorem qtB:qw1=qaM:=by
 funext p
 unfold qw1 qaM;rw[qgk,qgj]
def qw2:PrimD:=prim (dc (cQ 1 1) (d1 (cI .i64))) (dc (cQ 1 1) (d1 (cI .i64))) qw1
theorem qw3:OkT 104 qw2:=by unfold qw2;rw[qtB];exact quC
def prW:qO:=jX [(50,qjA),(104,qw2)] qjy
theorem qw4:PkT prW:=qB ZA (qf qqG (qf qw3 qT))
theorem qig:qek tb prW (shN tb prW 400 9) 400 11 [] (d1 cB).dec=some true:=by kernel_rfl
def qfu:PrimD:=prim d0 (d1 cB) fun _=>some true
theorem qmw:OkT 11 qfu:=Zp jt qw4 (by kernel_rfl) fun a y hg h=>⟨400,9,400,qig.trans h⟩
def qqH:qO:=jX [(11,qfu)] qqF
theorem qfv:PkT qqH:=qB qmu (qf qmw qT)
end
end Su
end
section
namespace Su
noncomputable section
open Go Go.Proofs Fly
set_option maxRecDepth 100000
def qqI:PrimD:=prim (d1 cS) (dc cS (dc (cI .i64) (d1 cB))) (qbC)
theorem qw5:OkT 59 qqI:=yu jt qfv (fun fu a=>Qu fu a) (by kernel_rfl) (fun _ _=>by kernel_rfl) qsW
def qqJ:qO:=jX [(59,qqI)] qqH
theorem qfw:PkT qqJ:=qB qfv (qf qw5 qT)
end
end Su
end
section
namespace Su
noncomputable section
open Go Go.Proofs Fly
set_option maxRecDepth 100000
def qqK:PrimD:=prim (d1 cS) (dc (cI .u64) (d1 (cI .i64))) (qbD)
theorem qqL:OkT 17 qqK:=yk jt qfw (fun a=>qsX a) (by kernel_rfl) (fun _ _=>by kernel_rfl) qs0
def qqM:qO:=jX [(17,qqK)] qqJ
theorem qmx:PkT qqM:=qB qfw (qf qqL qT)
end
end Su
end
