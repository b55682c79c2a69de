/-
  The law and its row.
-/
import Derived.Test.YtldhknmacepeiaaGreatDoorHTxL
import Derived.Test.YtldhknmacepeiaaGreatDoorNX02
import Derived.Test.YtldhknmacepeiaaGreatDoorSuTb
import Derived.Test.YtldhknmacepeiaaGreatDoorNX06
set_option linter.unusedVariables false
set_option linter.unusedSimpArgs false
set_option maxRecDepth 10000
section
namespace Fly
open Go Go.Proofs Su
set_option maxRecDepth 10000
attribute [local irreducible] WC WE WR Opr St Go.Calls qhC qjl qaH Rel ju qhX qjp Owe One qdt Go.CallsD
theorem mo:Tryz.prog.follows .mixedOrders=true:=by kernel_rfl
def r5L:List Oper:=[
 ⟨some 25,.move (.tmp 0),9,"lex.go:89",#[],none⟩,
 ⟨some 26,.move (.tmp 1),3,"lex.go:89",#[],none⟩,
 ⟨some 27,.move (.tmp 9),3,"lex.go:89",#[],none⟩,
 ⟨some 28,.slice 9 (.tmp 25) (some (.tmp 26)) (some (.tmp 27)) none,9,"lex.go:89",#[⟨0,.data⟩,⟨1,.data⟩,⟨2,.data⟩],none⟩,
 ⟨some 29,.fieldAddr 62 (.tmp 7) 0,0,"lex.go:89",#[⟨0,(.textOnly .lateStores)⟩,⟨1,(.textOnly .lateStores)⟩,⟨2,(.textOnly .lateStores)⟩,⟨3,(.textOnly .lateStoresUnsure)⟩],none⟩,
 ⟨none,.store 60 (.tmp 29) (.const (.int .u8 1)),0,"lex.go:89",#[⟨4,.data⟩,⟨0,(.textOnly .lateStores)⟩,⟨1,(.textOnly .lateStores)⟩,⟨2,(.textOnly .lateStores)⟩,⟨3,(.textOnly .lateStoresUnsure)⟩],none⟩,
 ⟨some 30,.fieldAddr 62 (.tmp 7) 2,0,"lex.go:89",#[⟨0,.phase⟩,⟨1,.phase⟩,⟨2,.phase⟩,⟨3,.phase⟩,⟨4,.phase⟩,⟨5,.phase⟩],none⟩,
 ⟨none,.store 9 (.tmp 30) (.tmp 28),0,"lex.go:89",#[⟨6,.data⟩,⟨3,.data⟩,⟨5,.chain⟩,⟨0,.phase⟩,⟨1,.phase⟩,⟨2,.phase⟩,⟨3,.phase⟩,⟨4,.phase⟩,⟨5,.phase⟩],none⟩]
noncomputable def r5M:List Nat:=yO r5L []
theorem qAo:qe1 82 r5L r5M 6=true:=by kernel_rfl
section
variable {X:Cx} {L:Lo} {V:qb} {G G1:Own} {K:List KI} {s:ByteArray} {i k:Int} {b:Nat} {v0 v1 v2 v3 v4:Value} {e:TypeId}
def r5F(V:qb)(G G1:Own)(s:ByteArray)(i k:Int)(b:Nat):qjV:=fun o vals Ow V'=>V'=V∧(o 0=true→vals 0 = .string s)∧(o 1=true→vals 1 = .int .i64 i)∧(o 2=true→vals 2 = .int .i64 k) ∧
 (o 3=true→vals 3 = .string (s.extract i.toNat k.toNat))∧(o 4=true→vals 4 = .pointer (some ⟨b,0,none⟩))∧Ow=bif o 5 then G1 else G
theorem qCd(V:qb)(G G1:Own)(s:ByteArray)(i k:Int)(b:Nat):r5F V G G1 s i k b (fun _=>false) (fun _=>undef) G V:=by
 unfold r5F;exact⟨rfl,(fun h=>nomatch h),(fun h=>nomatch h),(fun h=>nomatch h),(fun h=>nomatch h),(fun h=>nomatch h),rfl⟩
theorem qhz:qfA r5L r5M 6=true:=by kernel_rfl
theorem qhA{o:Nat→Bool}{vals:Nat→Value}{t:Nat}{v:Value}(h:lk L t=some v)(ht:t<25):lk (yU o r5L vals L 6) t=some v:=by
 refine JY h 6 fun j q hj _ hq=>?_
 have:∀j q,r5L[j]?=some q→j<6→∀d,q.dst=some d→25≤d:=by
  intro j q hq hj d hd
  match j,hj with
  | 0,_=>cases hq;cases hd;decide
  | 1,_=>cases hq;cases hd;decide
  | 2,_=>cases hq;cases hd;decide
  | 3,_=>cases hq;cases hd;decide
  | 4,_=>cases hq;cases hd;decide
  | 5,_=>cases hq;cases hd
 intro hd;exact absurd ht (Nat.not_lt.2 (this j q hq hj t hd))
theorem ql0(hm:Tryz.prog.follows .mixedOrders=true)(h0:lk L 0=some (.string s))(h1:lk L 1=some (.int .i64 i))(h9:lk L 9=some (.int .i64 k))(h7:lk L 7=some (.pointer (some ⟨b,0,none⟩)))
 (hi:0≤i) (hik:i≤k) (hks:k≤(s.size:Int)) (hU:Upd G b (.cells [v0,v1,v2,v3,v4].toArray e (0,0)) (.cells [.int .u8 1,v1,v2,v3,v4].toArray e (0,0)) G1)
 (hk:WR Tryz.prog 82 X ((29,.pointer (some ⟨b,0,none⟩))::(28,.string (s.extract i.toNat k.toNat))::(27,.int .i64 k)::(26,.int .i64 i)::(25,.string s)::L) V G1 r5L.toArray (r5L.drop 6) K) :
 WC Tryz.prog 82 X L V G (.region 5 r5L.toArray true) K:=by
 refine ZC 6 (r5F V G G1 s i k b) hm rfl qAo (fun _=>undef) (qCd V G G1 s i k b) ?_ ?_
 · intro j o hj ho
   intro c vals Ow V' hs hcj hdone hnot hF;obtain⟨rfl,f0,f1,f2,f3,f4,rfl⟩:=hF
   match j,hj with
   | 0,_=>
    cases ho;refine qR (v:=.string s) (qhA h0 (by decide)) ⟨Sub.refl _,rfl,fun _=>rfl,f1,f2,f3,f4,rfl⟩
   | 1,_=>
    cases ho;refine qR (v:=.int .i64 i) (qhA h1 (by decide)) ⟨Sub.refl _,rfl,f0,fun _=>rfl,f2,f3,f4,rfl⟩
   | 2,_=>
    cases ho;refine qR (v:=.int .i64 k) (qhA h9 (by decide)) ⟨Sub.refl _,rfl,f0,f1,fun _=>rfl,f3,f4,rfl⟩
   | 3,_=>
    cases ho;have b0:c 0=true:=hdone 0 (by kernel_rfl)
    have b1:c 1=true:=hdone 1 (by kernel_rfl)
    have b2:c 2=true:=hdone 2 (by kernel_rfl)
    have e0:=yt (vals:=vals) (L:=L) qhz (j:=0) (by decide) b0 rfl rfl 6 (by decide) (zw 6)
    have e1:=yt (vals:=vals) (L:=L) qhz (j:=1) (by decide) b1 rfl rfl 6 (by decide) (zw 6)
    have e2:=yt (vals:=vals) (L:=L) qhz (j:=2) (by decide) b2 rfl rfl 6 (by decide) (zw 6)
    rw[f0 b0]at e0;rw[f1 b1]at e1;rw[f2 b2]at e2;exact qm9 e0 e1 e2 JP hi hik hks ⟨Sub.refl _,rfl,f0,f1,f2,fun _=>rfl,f4,rfl⟩
   | 4,_=>
    cases ho;refine qk tb (qhA h7 (by decide)) rfl ⟨Sub.refl _,rfl,f0,f1,f2,f3,fun _=>rfl,rfl⟩
   | 5,_=>
    cases ho;have b4:c 4=true:=hdone 4 (by kernel_rfl)
    have e4:=yt (vals:=vals) (L:=L) qhz (j:=4) (by decide) b4 rfl rfl 6 (by decide) (zw 6)
    rw[f4 b4]at e4;rw[hcj,zj];exact qH tb e4 rfl rfl rfl rfl hU rfl ⟨Sub.refl _,rfl,f0,f1,f2,f3,f4,rfl⟩
 · rintro vals Ow V' hs ⟨rfl,f0,f1,f2,f3,f4,rfl⟩
   have e:yU (fun i=>decide (i<6)) r5L vals L 6=(29,vals 4)::(28,vals 3)::(27,vals 2)::(26,vals 1)::(25,vals 0)::L:=rfl
   rw[e,f0 rfl,f1 rfl,f2 rfl,f3 rfl,f4 rfl];exact hk
end
end Fly
namespace Su
open Go Go.Proofs Fly
theorem qsr{α β:Type}{f:Nat}{d:Dec α}{r:Dec β}{g:α→Option β}(hp:OkT f (prim d r g)){V:qb}(hgk:GOK tb V){xs:List T}{vs:List Value}{a:α}{y:β}(h:d.dec xs=some a)(hg:g a=some y)(hr:RepA V xs vs){Q:Value→qb→Own→Prop}
 (hQ:∀V' rvs,RepA V' (r.enc y) rvs→Q (Qq rvs) V' []):ju Tryz.prog f vs.toArray V [] Q:=by
 have hh:(∀xs y,(d.dec xs).bind g=some y→∀V vs,GOK tb V→RepA V xs vs→ju Tryz.prog f vs.toArray V [] fun v V' _=>∃rvs,RepA V' (r.enc y) rvs∧v=Qq rvs)∧_:=hp.2
 have hF:=hh.1 xs y (by rw[h];exact hg) V vs hgk hr
 intro w a1 a2 a3 a4;refine(hF w a1 a2 a3 a4).mono ?_
 rintro e w' ⟨v,V',G',rfl,hk,rvs,m1,rfl⟩
 exact⟨_,V',[],rfl,hk.sublist (Kr _),hQ V' rvs m1⟩
theorem Jy{V:qb}(hgk:GOK tb V)(c:UInt8):ju Tryz.prog 77 #[.int .u8 ((c.toNat:Nat):Int)] V [] fun v _ G=>v = .bool (yp c)∧G=[]:=by
 have hc:=c.toNat_lt;refine qsr qsj hgk (xs:=[.s (.int .u8 ((c.toNat:Nat):Int))]) (vs:=[_]) (a:=((c.toNat:Nat):Int)) ?_ (qlC c) (.cons (.s (Y3.2 ⟨by omega,by omega⟩)) .nil) ?_
 · rfl
 · intro V' rvs m
   cases m with | cons m1 m=>cases m with | nil=>cases m1 with | s _=>exact⟨rfl,rfl⟩
theorem qbH{V:qb}(hgk:GOK tb V){S:List UInt8}{i:Nat}(hS:S.length≤1000000)(hi:i≤S.length):ju Tryz.prog 127 #[.string (bs S),.int .i64 ((i:Nat):Int),.func (.func 76) #[] #[]] V [] fun v _ G=>v = .int .i64 ((spI S i:Nat):Int)∧G=[]:=by
 refine qsr qsp hgk (xs:=[.s (.string (bs S)),.s (.int .i64 ((i:Nat):Int)),.fn 76 [] []]) (vs:=[_,_,_]) (a:=(bs S,((i:Nat):Int),())) (y:=((spI S i:Nat):Int)) ?_ ?_ (.cons (.s (zo (by rw[qe,jU];omega))) (.cons (.s (QG.2 ⟨by omega,by omega⟩)) (.cons (.fn .nil .nil) .nil))) ?_
 · rfl
 · unfold qhj
   show(bif(decide ((0:Int)≤((i:Nat):Int))&&decide (((i:Nat):Int)≤((S.length:Nat):Int)))&&Nat.ble S.length 1000000 then _ else _)=_
   rw[za (by omega),za (by omega),zo hS];rfl
 · intro V' rvs m
   cases m with | cons m1 m=>cases m with | nil=>cases m1 with | s _=>exact⟨rfl,rfl⟩
end Su
namespace Fly
open Go Go.Proofs Su
set_option maxRecDepth 10000
attribute [local irreducible] WC WE WR Opr St Go.Calls qhC qjl qaH Rel ju qhX qjp Owe One qdt Go.CallsD
theorem qAp{V:qb}(hgk:GOK Su.tb V){S:List UInt8}{i:Nat}{c:UInt8}(hS:S.length≤1000000)(hc:S[i]?=some c)(hl:yp c=true)(hw:Jt ((S.drop i).take (spI S i-i))=true)(h32:32<spI S i-i){Q:Value→qb→Own→Prop}
 (hQ:∀V',Q (.tuple #[.agg (tkV 4 ((i:Nat):Int) (bs ((S.drop i).take (spI S i-i))) 0 0).toArray,.int .i64 ((spI S i:Nat):Int),.int .i64 91]) V' []) :
 ju Tryz.prog 71 #[.string (bs S),.int .i64 ((i:Nat):Int)] V [] Q:=by
 obtain⟨hi,_⟩:=zn.1 hc
 have hk1:=qax (S:=S) (i:=i) (by omega)
 have hk0:i≤spI S i:=by unfold spI;omega
 have hcx:(bs S)[((i:Nat):Int).toNat]?=some c:=by rw[zg,qW];exact hc
 have hx:(bs S).extract ((i:Nat):Int).toNat ((spI S i:Nat):Int).toNat=bs ((S.drop i).take (spI S i-i)):=by rw[zg,zg,jZ]
 refine q9 (args:=[_,_]) Tryz.func71 rfl Tryz.ntmps71 rfl ?_
 intro X w hM hb hw0 hV0 hR;dsimp only[Qb,Nat.zero_add,Nat.reduceAdd]
 (repeat' (first | refine jj ?_ | refine qz ?_ | refine jk ?_ | refine qT ?_ | refine qO ?_ | refine jb ?_ | refine jv ?_ | refine jc ?_ | refine qp ?_ | refine qo ?_ | refine qx rfl ?_ | refine qu ?_ | refine jr ?_ | ((first | refine qP rfl ?_ | refine jd ?_ | refine yg rfl rfl rfl ?_);(first | (refine y6 rfl rfl JP (by omega) hcx ?_) | (refine qK (first:=[]) (cap:=[]) tb rfl rfl rfl (Jy hgk c) (zI _) ?_;rintro _ V1 _ hs1 ⟨rfl,rfl⟩;dsimp only[List.nil_append];rw[hl]) | (refine qK (first:=[]) (cap:=[]) tb rfl rfl rfl (qbH (GOK.mono hgk (by assumption)) hS (Vm hi)) (zI _) ?_;rintro _ V2 _ hs2 ⟨rfl,rfl⟩;dsimp only[List.nil_append]) | refine qR rfl ?_ | refine qA rfl ?_ | refine qy rfl rfl ?_ | refine jw rfl ?_ | refine qF rfl rfl ?_ | refine qG rfl rfl ?_ | refine qV rfl rfl (by omega) (by omega) ?_ | refine qk tb rfl rfl ?_ | refine qw tb rfl rfl rfl ?_ | (apply qS tb rfl rfl;(· (first | (refine At.own (?_);repeat (first | exact Has.here | refine Has.there ?_)) | exact At.seen (by assumption)));(· exact rfl)) | (apply qQ tb rfl rfl;(· (first | (refine At.own (?_);repeat (first | exact Has.here | refine Has.there ?_)) | exact At.seen (by assumption)));(· exact rfl)) | (apply qH tb rfl rfl rfl rfl rfl;(· (repeat (first | exact Upd.here | apply Upd.there)));(· exact rfl)) | (apply qJ tb rfl rfl rfl rfl rfl;(· (repeat (first | exact Upd.here | apply Upd.there)));(· exact rfl)) | (apply qM tb (by kernel_rfl) rfl (rfl:tb.fo _ 0=_);(· (repeat (first | exact Fill.nil | (apply Fill.cons;(· exact rfl);(· exact rfl);(· exact rfl);(· exact rfl);(· exact rfl)))))) | (refine qU rfl ?_;intro b) | (refine qZ rfl rfl ?_;intro b) | (refine qL tb rfl ?_;intro b))) | refine Qp rfl rfl rfl rfl ?_ | refine qD rfl ?_ | refine qE rfl ?_))
 refine ql0 (s:=bs S) (i:=((i:Nat):Int)) (k:=((spI S i:Nat):Int)) mo rfl rfl rfl rfl (by omega) (by omega) (by rw[qe];omega) (by(first | exact Upd.here | apply Upd.there);repeat (first | exact Upd.here | apply Upd.there)) ?_
 rw[hx];refine qP rfl (qk tb rfl rfl ?_)
 (repeat' (first | refine jj ?_ | refine qz ?_ | refine jk ?_ | refine qT ?_ | refine qO ?_ | refine jb ?_ | refine jv ?_ | refine jc ?_ | refine qp ?_ | refine qo ?_ | refine qx rfl ?_ | refine qu ?_ | refine jr ?_ | ((first | refine qP rfl ?_ | refine jd ?_ | refine yg rfl rfl rfl ?_);(first | (refine qK (first:=[]) (cap:=[]) tb rfl rfl rfl (Jw (l:=(S.drop i).take (spI S i-i)) (Q:=fun v _ G=>v = .bool true∧G=[]) ⟨by rw[hw],rfl⟩) (zI _) ?_;rintro _ V3 _ hs3 ⟨rfl,rfl⟩;dsimp only[List.nil_append]) | (refine qV rfl rfl (by omega) (by omega) ?_) | (apply Q5;(· exact rfl);(· exact rfl);(· omega)) | refine qR rfl ?_ | refine qA rfl ?_ | refine qy rfl rfl ?_ | refine jw rfl ?_ | refine qF rfl rfl ?_ | refine qG rfl rfl ?_ | refine qV rfl rfl (by omega) (by omega) ?_ | refine qk tb rfl rfl ?_ | refine qw tb rfl rfl rfl ?_ | (apply qS tb rfl rfl;(· (first | (refine At.own (?_);repeat (first | exact Has.here | refine Has.there ?_)) | exact At.seen (by assumption)));(· exact rfl)) | (apply qQ tb rfl rfl;(· (first | (refine At.own (?_);repeat (first | exact Has.here | refine Has.there ?_)) | exact At.seen (by assumption)));(· exact rfl)) | (apply qH tb rfl rfl rfl rfl rfl;(· (repeat (first | exact Upd.here | apply Upd.there)));(· exact rfl)) | (apply qJ tb rfl rfl rfl rfl rfl;(· (repeat (first | exact Upd.here | apply Upd.there)));(· exact rfl)) | (apply qM tb (by kernel_rfl) rfl (rfl:tb.fo _ 0=_);(· (repeat (first | exact Fill.nil | (apply Fill.cons;(· exact rfl);(· exact rfl);(· exact rfl);(· exact rfl);(· exact rfl)))))) | (refine qU rfl ?_;intro b) | (refine qZ rfl rfl ?_;intro b) | (refine qL tb rfl ?_;intro b))) | refine Qp rfl rfl rfl rfl ?_ | refine qD rfl ?_ | refine qE rfl ?_))
 exact jh hM hw0 hV0 hR [] (Kr _) (qtn rfl ⟨_,rfl,fun w hw=>rdN tb rfl (by(refine At.own ?_;repeat (first | exact Has.here | refine Has.there ?_))) rfl hw⟩ rfl rfl) (hQ _)
theorem qAq{V:qb}(hgk:GOK Su.tb V){S:List UInt8}{i:Nat}{c:UInt8}(hS:S.length≤1000000)(hc:S[i]?=some c)(hl:yp c=true)(hw:Jt ((S.drop i).take (spI S i-i))=true)(h32 : ¬32<spI S i-i){Q:Value→qb→Own→Prop}
 (hQ:∀V',Q (.tuple #[.agg (tkV 4 ((i:Nat):Int) (bs ((S.drop i).take (spI S i-i))) 0 0).toArray,.int .i64 ((spI S i:Nat):Int),.int .i64 0]) V' []) :
 ju Tryz.prog 71 #[.string (bs S),.int .i64 ((i:Nat):Int)] V [] Q:=by
 obtain⟨hi,_⟩:=zn.1 hc
 have hk1:=qax (S:=S) (i:=i) (by omega)
 have hk0:i≤spI S i:=by unfold spI;omega
 have hcx:(bs S)[((i:Nat):Int).toNat]?=some c:=by rw[zg,qW];exact hc
 have hx:(bs S).extract ((i:Nat):Int).toNat ((spI S i:Nat):Int).toNat=bs ((S.drop i).take (spI S i-i)):=by rw[zg,zg,jZ]
 refine q9 (args:=[_,_]) Tryz.func71 rfl Tryz.ntmps71 rfl ?_
 intro X w hM hb hw0 hV0 hR;dsimp only[Qb,Nat.zero_add,Nat.reduceAdd]
 (repeat' (first | refine jj ?_ | refine qz ?_ | refine jk ?_ | refine qT ?_ | refine qO ?_ | refine jb ?_ | refine jv ?_ | refine jc ?_ | refine qp ?_ | refine qo ?_ | refine qx rfl ?_ | refine qu ?_ | refine jr ?_ | ((first | refine qP rfl ?_ | refine jd ?_ | refine yg rfl rfl rfl ?_);(first | (refine y6 rfl rfl JP (by omega) hcx ?_) | (refine qK (first:=[]) (cap:=[]) tb rfl rfl rfl (Jy hgk c) (zI _) ?_;rintro _ V1 _ hs1 ⟨rfl,rfl⟩;dsimp only[List.nil_append];rw[hl]) | (refine qK (first:=[]) (cap:=[]) tb rfl rfl rfl (qbH (GOK.mono hgk (by assumption)) hS (Vm hi)) (zI _) ?_;rintro _ V2 _ hs2 ⟨rfl,rfl⟩;dsimp only[List.nil_append]) | refine qR rfl ?_ | refine qA rfl ?_ | refine qy rfl rfl ?_ | refine jw rfl ?_ | refine qF rfl rfl ?_ | refine qG rfl rfl ?_ | refine qV rfl rfl (by omega) (by omega) ?_ | refine qk tb rfl rfl ?_ | refine qw tb rfl rfl rfl ?_ | (apply qS tb rfl rfl;(· (first | (refine At.own (?_);repeat (first | exact Has.here | refine Has.there ?_)) | exact At.seen (by assumption)));(· exact rfl)) | (apply qQ tb rfl rfl;(· (first | (refine At.own (?_);repeat (first | exact Has.here | refine Has.there ?_)) | exact At.seen (by assumption)));(· exact rfl)) | (apply qH tb rfl rfl rfl rfl rfl;(· (repeat (first | exact Upd.here | apply Upd.there)));(· exact rfl)) | (apply qJ tb rfl rfl rfl rfl rfl;(· (repeat (first | exact Upd.here | apply Upd.there)));(· exact rfl)) | (apply qM tb (by kernel_rfl) rfl (rfl:tb.fo _ 0=_);(· (repeat (first | exact Fill.nil | (apply Fill.cons;(· exact rfl);(· exact rfl);(· exact rfl);(· exact rfl);(· exact rfl)))))) | (refine qU rfl ?_;intro b) | (refine qZ rfl rfl ?_;intro b) | (refine qL tb rfl ?_;intro b))) | refine Qp rfl rfl rfl rfl ?_ | refine qD rfl ?_ | refine qE rfl ?_))
 refine ql0 (s:=bs S) (i:=((i:Nat):Int)) (k:=((spI S i:Nat):Int)) mo rfl rfl rfl rfl (by omega) (by omega) (by rw[qe];omega) (by(first | exact Upd.here | apply Upd.there);repeat (first | exact Upd.here | apply Upd.there)) ?_
 rw[hx];refine qP rfl (qk tb rfl rfl ?_)
 (repeat' (first | refine jj ?_ | refine qz ?_ | refine jk ?_ | refine qT ?_ | refine qO ?_ | refine jb ?_ | refine jv ?_ | refine jc ?_ | refine qp ?_ | refine qo ?_ | refine qx rfl ?_ | refine qu ?_ | refine jr ?_ | ((first | refine qP rfl ?_ | refine jd ?_ | refine yg rfl rfl rfl ?_);(first | (refine qK (first:=[]) (cap:=[]) tb rfl rfl rfl (Jw (l:=(S.drop i).take (spI S i-i)) (Q:=fun v _ G=>v = .bool true∧G=[]) ⟨by rw[hw],rfl⟩) (zI _) ?_;rintro _ V3 _ hs3 ⟨rfl,rfl⟩;dsimp only[List.nil_append]) | (refine qV rfl rfl (by omega) (by omega) ?_) | (apply Q6;(· exact rfl);(· exact rfl);(· omega)) | refine qR rfl ?_ | refine qA rfl ?_ | refine qy rfl rfl ?_ | refine jw rfl ?_ | refine qF rfl rfl ?_ | refine qG rfl rfl ?_ | refine qV rfl rfl (by omega) (by omega) ?_ | refine qk tb rfl rfl ?_ | refine qw tb rfl rfl rfl ?_ | (apply qS tb rfl rfl;(· (first | (refine At.own (?_);repeat (first | exact Has.here | refine Has.there ?_)) | exact At.seen (by assumption)));(· exact rfl)) | (apply qQ tb rfl rfl;(· (first | (refine At.own (?_);repeat (first | exact Has.here | refine Has.there ?_)) | exact At.seen (by assumption)));(· exact rfl)) | (apply qH tb rfl rfl rfl rfl rfl;(· (repeat (first | exact Upd.here | apply Upd.there)));(· exact rfl)) | (apply qJ tb rfl rfl rfl rfl rfl;(· (repeat (first | exact Upd.here | apply Upd.there)));(· exact rfl)) | (apply qM tb (by kernel_rfl) rfl (rfl:tb.fo _ 0=_);(· (repeat (first | exact Fill.nil | (apply Fill.cons;(· exact rfl);(· exact rfl);(· exact rfl);(· exact rfl);(· exact rfl)))))) | (refine qU rfl ?_;intro b) | (refine qZ rfl rfl ?_;intro b) | (refine qL tb rfl ?_;intro b))) | refine Qp rfl rfl rfl rfl ?_ | refine qD rfl ?_ | refine qE rfl ?_))
 exact jh hM hw0 hV0 hR [] (Kr _) (qtn rfl ⟨_,rfl,fun w hw=>rdN tb rfl (by(refine At.own ?_;repeat (first | exact Has.here | refine Has.there ?_))) rfl hw⟩ rfl rfl) (hQ _)
theorem qAr{V:qb}(hgk:GOK Su.tb V){S:List UInt8}{i:Nat}{c:UInt8}(hS:S.length≤1000000)(hc:S[i]?=some c)(hl:yp c=true)(hw:Jt ((S.drop i).take (spI S i-i))=false)(h32:32<spI S i-i){Q:Value→qb→Own→Prop}
 (hQ:∀V',Q (.tuple #[.agg (tkV 1 ((i:Nat):Int) (bs ((S.drop i).take (spI S i-i))) 0 0).toArray,.int .i64 ((spI S i:Nat):Int),.int .i64 91]) V' []) :
 ju Tryz.prog 71 #[.string (bs S),.int .i64 ((i:Nat):Int)] V [] Q:=by
 obtain⟨hi,_⟩:=zn.1 hc
 have hk1:=qax (S:=S) (i:=i) (by omega)
 have hk0:i≤spI S i:=by unfold spI;omega
 have hcx:(bs S)[((i:Nat):Int).toNat]?=some c:=by rw[zg,qW];exact hc
 have hx:(bs S).extract ((i:Nat):Int).toNat ((spI S i:Nat):Int).toNat=bs ((S.drop i).take (spI S i-i)):=by rw[zg,zg,jZ]
 refine q9 (args:=[_,_]) Tryz.func71 rfl Tryz.ntmps71 rfl ?_
 intro X w hM hb hw0 hV0 hR;dsimp only[Qb,Nat.zero_add,Nat.reduceAdd]
 (repeat' (first | refine jj ?_ | refine qz ?_ | refine jk ?_ | refine qT ?_ | refine qO ?_ | refine jb ?_ | refine jv ?_ | refine jc ?_ | refine qp ?_ | refine qo ?_ | refine qx rfl ?_ | refine qu ?_ | refine jr ?_ | ((first | refine qP rfl ?_ | refine jd ?_ | refine yg rfl rfl rfl ?_);(first | (refine y6 rfl rfl JP (by omega) hcx ?_) | (refine qK (first:=[]) (cap:=[]) tb rfl rfl rfl (Jy hgk c) (zI _) ?_;rintro _ V1 _ hs1 ⟨rfl,rfl⟩;dsimp only[List.nil_append];rw[hl]) | (refine qK (first:=[]) (cap:=[]) tb rfl rfl rfl (qbH (GOK.mono hgk (by assumption)) hS (Vm hi)) (zI _) ?_;rintro _ V2 _ hs2 ⟨rfl,rfl⟩;dsimp only[List.nil_append]) | refine qR rfl ?_ | refine qA rfl ?_ | refine qy rfl rfl ?_ | refine jw rfl ?_ | refine qF rfl rfl ?_ | refine qG rfl rfl ?_ | refine qV rfl rfl (by omega) (by omega) ?_ | refine qk tb rfl rfl ?_ | refine qw tb rfl rfl rfl ?_ | (apply qS tb rfl rfl;(· (first | (refine At.own (?_);repeat (first | exact Has.here | refine Has.there ?_)) | exact At.seen (by assumption)));(· exact rfl)) | (apply qQ tb rfl rfl;(· (first | (refine At.own (?_);repeat (first | exact Has.here | refine Has.there ?_)) | exact At.seen (by assumption)));(· exact rfl)) | (apply qH tb rfl rfl rfl rfl rfl;(· (repeat (first | exact Upd.here | apply Upd.there)));(· exact rfl)) | (apply qJ tb rfl rfl rfl rfl rfl;(· (repeat (first | exact Upd.here | apply Upd.there)));(· exact rfl)) | (apply qM tb (by kernel_rfl) rfl (rfl:tb.fo _ 0=_);(· (repeat (first | exact Fill.nil | (apply Fill.cons;(· exact rfl);(· exact rfl);(· exact rfl);(· exact rfl);(· exact rfl)))))) | (refine qU rfl ?_;intro b) | (refine qZ rfl rfl ?_;intro b) | (refine qL tb rfl ?_;intro b))) | refine Qp rfl rfl rfl rfl ?_ | refine qD rfl ?_ | refine qE rfl ?_))
 refine ql0 (s:=bs S) (i:=((i:Nat):Int)) (k:=((spI S i:Nat):Int)) mo rfl rfl rfl rfl (by omega) (by omega) (by rw[qe];omega) (by(first | exact Upd.here | apply Upd.there);repeat (first | exact Upd.here | apply Upd.there)) ?_
 rw[hx];refine qP rfl (qk tb rfl rfl ?_)
 (repeat' (first | refine jj ?_ | refine qz ?_ | refine jk ?_ | refine qT ?_ | refine qO ?_ | refine jb ?_ | refine jv ?_ | refine jc ?_ | refine qp ?_ | refine qo ?_ | refine qx rfl ?_ | refine qu ?_ | refine jr ?_ | ((first | refine qP rfl ?_ | refine jd ?_ | refine yg rfl rfl rfl ?_);(first | (refine qK (first:=[]) (cap:=[]) tb rfl rfl rfl (Jw (l:=(S.drop i).take (spI S i-i)) (Q:=fun v _ G=>v = .bool false∧G=[]) ⟨by rw[hw],rfl⟩) (zI _) ?_;rintro _ V3 _ hs3 ⟨rfl,rfl⟩;dsimp only[List.nil_append]) | (refine qV rfl rfl (by omega) (by omega) ?_) | (apply Q5;(· exact rfl);(· exact rfl);(· omega)) | refine qR rfl ?_ | refine qA rfl ?_ | refine qy rfl rfl ?_ | refine jw rfl ?_ | refine qF rfl rfl ?_ | refine qG rfl rfl ?_ | refine qV rfl rfl (by omega) (by omega) ?_ | refine qk tb rfl rfl ?_ | refine qw tb rfl rfl rfl ?_ | (apply qS tb rfl rfl;(· (first | (refine At.own (?_);repeat (first | exact Has.here | refine Has.there ?_)) | exact At.seen (by assumption)));(· exact rfl)) | (apply qQ tb rfl rfl;(· (first | (refine At.own (?_);repeat (first | exact Has.here | refine Has.there ?_)) | exact At.seen (by assumption)));(· exact rfl)) | (apply qH tb rfl rfl rfl rfl rfl;(· (repeat (first | exact Upd.here | apply Upd.there)));(· exact rfl)) | (apply qJ tb rfl rfl rfl rfl rfl;(· (repeat (first | exact Upd.here | apply Upd.there)));(· exact rfl)) | (apply qM tb (by kernel_rfl) rfl (rfl:tb.fo _ 0=_);(· (repeat (first | exact Fill.nil | (apply Fill.cons;(· exact rfl);(· exact rfl);(· exact rfl);(· exact rfl);(· exact rfl)))))) | (refine qU rfl ?_;intro b) | (refine qZ rfl rfl ?_;intro b) | (refine qL tb rfl ?_;intro b))) | refine Qp rfl rfl rfl rfl ?_ | refine qD rfl ?_ | refine qE rfl ?_))
 exact jh hM hw0 hV0 hR [] (Kr _) (qtn rfl ⟨_,rfl,fun w hw=>rdN tb rfl (by(refine At.own ?_;repeat (first | exact Has.here | refine Has.there ?_))) rfl hw⟩ rfl rfl) (hQ _)
theorem qAs{V:qb}(hgk:GOK Su.tb V){S:List UInt8}{i:Nat}{c:UInt8}(hS:S.length≤1000000)(hc:S[i]?=some c)(hl:yp c=true)(hw:Jt ((S.drop i).take (spI S i-i))=false)(h32 : ¬32<spI S i-i){Q:Value→qb→Own→Prop}
 (hQ:∀V',Q (.tuple #[.agg (tkV 1 ((i:Nat):Int) (bs ((S.drop i).take (spI S i-i))) 0 0).toArray,.int .i64 ((spI S i:Nat):Int),.int .i64 0]) V' []) :
 ju Tryz.prog 71 #[.string (bs S),.int .i64 ((i:Nat):Int)] V [] Q:=by
 obtain⟨hi,_⟩:=zn.1 hc
 have hk1:=qax (S:=S) (i:=i) (by omega)
 have hk0:i≤spI S i:=by unfold spI;omega
 have hcx:(bs S)[((i:Nat):Int).toNat]?=some c:=by rw[zg,qW];exact hc
 have hx:(bs S).extract ((i:Nat):Int).toNat ((spI S i:Nat):Int).toNat=bs ((S.drop i).take (spI S i-i)):=by rw[zg,zg,jZ]
 refine q9 (args:=[_,_]) Tryz.func71 rfl Tryz.ntmps71 rfl ?_
 intro X w hM hb hw0 hV0 hR;dsimp only[Qb,Nat.zero_add,Nat.reduceAdd]
 (repeat' (first | refine jj ?_ | refine qz ?_ | refine jk ?_ | refine qT ?_ | refine qO ?_ | refine jb ?_ | refine jv ?_ | refine jc ?_ | refine qp ?_ | refine qo ?_ | refine qx rfl ?_ | refine qu ?_ | refine jr ?_ | ((first | refine qP rfl ?_ | refine jd ?_ | refine yg rfl rfl rfl ?_);(first | (refine y6 rfl rfl JP (by omega) hcx ?_) | (refine qK (first:=[]) (cap:=[]) tb rfl rfl rfl (Jy hgk c) (zI _) ?_;rintro _ V1 _ hs1 ⟨rfl,rfl⟩;dsimp only[List.nil_append];rw[hl]) | (refine qK (first:=[]) (cap:=[]) tb rfl rfl rfl (qbH (GOK.mono hgk (by assumption)) hS (Vm hi)) (zI _) ?_;rintro _ V2 _ hs2 ⟨rfl,rfl⟩;dsimp only[List.nil_append]) | refine qR rfl ?_ | refine qA rfl ?_ | refine qy rfl rfl ?_ | refine jw rfl ?_ | refine qF rfl rfl ?_ | refine qG rfl rfl ?_ | refine qV rfl rfl (by omega) (by omega) ?_ | refine qk tb rfl rfl ?_ | refine qw tb rfl rfl rfl ?_ | (apply qS tb rfl rfl;(· (first | (refine At.own (?_);repeat (first | exact Has.here | refine Has.there ?_)) | exact At.seen (by assumption)));(· exact rfl)) | (apply qQ tb rfl rfl;(· (first | (refine At.own (?_);repeat (first | exact Has.here | refine Has.there ?_)) | exact At.seen (by assumption)));(· exact rfl)) | (apply qH tb rfl rfl rfl rfl rfl;(· (repeat (first | exact Upd.here | apply Upd.there)));(· exact rfl)) | (apply qJ tb rfl rfl rfl rfl rfl;(· (repeat (first | exact Upd.here | apply Upd.there)));(· exact rfl)) | (apply qM tb (by kernel_rfl) rfl (rfl:tb.fo _ 0=_);(· (repeat (first | exact Fill.nil | (apply Fill.cons;(· exact rfl);(· exact rfl);(· exact rfl);(· exact rfl);(· exact rfl)))))) | (refine qU rfl ?_;intro b) | (refine qZ rfl rfl ?_;intro b) | (refine qL tb rfl ?_;intro b))) | refine Qp rfl rfl rfl rfl ?_ | refine qD rfl ?_ | refine qE rfl ?_))
 refine ql0 (s:=bs S) (i:=((i:Nat):Int)) (k:=((spI S i:Nat):Int)) mo rfl rfl rfl rfl (by omega) (by omega) (by rw[qe];omega) (by(first | exact Upd.here | apply Upd.there);repeat (first | exact Upd.here | apply Upd.there)) ?_
 rw[hx];refine qP rfl (qk tb rfl rfl ?_)
 (repeat' (first | refine jj ?_ | refine qz ?_ | refine jk ?_ | refine qT ?_ | refine qO ?_ | refine jb ?_ | refine jv ?_ | refine jc ?_ | refine qp ?_ | refine qo ?_ | refine qx rfl ?_ | refine qu ?_ | refine jr ?_ | ((first | refine qP rfl ?_ | refine jd ?_ | refine yg rfl rfl rfl ?_);(first | (refine qK (first:=[]) (cap:=[]) tb rfl rfl rfl (Jw (l:=(S.drop i).take (spI S i-i)) (Q:=fun v _ G=>v = .bool false∧G=[]) ⟨by rw[hw],rfl⟩) (zI _) ?_;rintro _ V3 _ hs3 ⟨rfl,rfl⟩;dsimp only[List.nil_append]) | (refine qV rfl rfl (by omega) (by omega) ?_) | (apply Q6;(· exact rfl);(· exact rfl);(· omega)) | refine qR rfl ?_ | refine qA rfl ?_ | refine qy rfl rfl ?_ | refine jw rfl ?_ | refine qF rfl rfl ?_ | refine qG rfl rfl ?_ | refine qV rfl rfl (by omega) (by omega) ?_ | refine qk tb rfl rfl ?_ | refine qw tb rfl rfl rfl ?_ | (apply qS tb rfl rfl;(· (first | (refine At.own (?_);repeat (first | exact Has.here | refine Has.there ?_)) | exact At.seen (by assumption)));(· exact rfl)) | (apply qQ tb rfl rfl;(· (first | (refine At.own (?_);repeat (first | exact Has.here | refine Has.there ?_)) | exact At.seen (by assumption)));(· exact rfl)) | (apply qH tb rfl rfl rfl rfl rfl;(· (repeat (first | exact Upd.here | apply Upd.there)));(· exact rfl)) | (apply qJ tb rfl rfl rfl rfl rfl;(· (repeat (first | exact Upd.here | apply Upd.there)));(· exact rfl)) | (apply qM tb (by kernel_rfl) rfl (rfl:tb.fo _ 0=_);(· (repeat (first | exact Fill.nil | (apply Fill.cons;(· exact rfl);(· exact rfl);(· exact rfl);(· exact rfl);(· exact rfl)))))) | (refine qU rfl ?_;intro b) | (refine qZ rfl rfl ?_;intro b) | (refine qL tb rfl ?_;intro b))) | refine Qp rfl rfl rfl rfl ?_ | refine qD rfl ?_ | refine qE rfl ?_))
 exact jh hM hw0 hV0 hR [] (Kr _) (qtn rfl ⟨_,rfl,fun w hw=>rdN tb rfl (by(refine At.own ?_;repeat (first | exact Has.here | refine Has.there ?_))) rfl hw⟩ rfl rfl) (hQ _)
end Fly
namespace Su
open Go Go.Proofs Fly
noncomputable def qss:PrimD:=prim (dc cS (d1 (cI .i64))) (dc cTk (dc (cI .i64) (d1 (cI .i64)))) QU
theorem qwq{V':qb}{k a i f e n:Int}{x:ByteArray}(h1:Qd (.int .u8 k)=true)(h2:Qd (.int .i64 a)=true)(h3:Qd (.string x)=true)(h4:Qd (.int .i32 i)=true)(h5:Qd (.int .u64 f)=true)(h6:Qd (.int .i64 n)=true)(h7:Qd (.int .i64 e)=true) :
 ∃rvs,RepA V' ((dc cTk (dc (cI .i64) (d1 (cI .i64)))).enc ((k,a,x,i,f),n,e)) rvs∧Value.tuple #[.agg (tkV k a x i f).toArray,.int .i64 n,.int .i64 e]=Qq rvs :=
 ⟨[_,_,_],.cons (.agg (.cons (.s h1) (.cons (.s h2) (.cons (.s h3) (.cons (.s h4) (.cons (.s h5) .nil))))) (qse rfl)) (.cons (.s h6) (.cons (.s h7) .nil)),rfl⟩
theorem qst:OkT 71 qss:=by
 refine⟨by kernel_rfl,fun xs y h V vs hgk hr=>?_,fun j hj=>nomatch hj⟩
 obtain⟨p,h1,h2⟩:=osm (show((dc cS (d1 (cI .i64))).dec xs).bind QU=some y from h)
 have hr2:=(dc cS (d1 (cI .i64))).rep h1 hr
 obtain⟨s,i⟩:=p;cases hl:((lb s)[i.toNat]?).any yp with
 | false=>
  have hh:(∀xs y,((dc cS (d1 (cI .i64))).dec xs).bind qhk=some y→∀V vs,GOK tb V→RepA V xs vs→ju Tryz.prog 71 vs.toArray V [] fun v V' _=>∃rvs,RepA V' ((dc cTk (dc (cI .i64) (d1 (cI .i64)))).enc y) rvs∧v=Qq rvs)∧_:=qsn.2
  refine hh.1 xs y ?_ V vs hgk hr
  rw[h1];show(bif((lb s)[i.toNat]?).any yp then none else QU (s,i))=some y
  rw[hl];exact h2
 | true=>
  cases hr2 with | cons k1 k2=>
  cases k2 with | cons k2 k3=>
  cases k3 with | nil=>
  cases k1 with | s k1=>
  cases k2 with | s k2=>
  obtain⟨g1,g2⟩:=qi h2;have:=soi g2;subst this
  simp only[zk]at g1;obtain⟨⟨a1,a2⟩,a3⟩:=g1;have a3:(lb s).length≤1000000:=zm a3
  have a1:=zW a1;obtain⟨k,rfl⟩:=zV a1;have a2:(k:Int)<(((lb s).length:Nat):Int):=zW a2
  rw[zg]at hl;obtain⟨c,hc⟩:∃c,(lb s)[k]?=some c:=⟨_,zl (by omega)⟩
  have hlc:yp c=true:=by rw[hc]at hl;exact hl
  have hk1:=qax (S:=lb s) (i:=k) (by omega)
  have et:jV (lb s) k=((bif Jt (((lb s).drop k).take (spI (lb s) k-k))then 4 else 1,(k:Int),bs (((lb s).drop k).take (spI (lb s) k-k)),0,0),((spI (lb s) k:Nat):Int),if 32<spI (lb s) k-k then 91 else 0):=by
   unfold jV;rw[zr hl]
  have es:s=bs (lb s):=(qfM s).symm
  show ju Tryz.prog 71 #[.string s,.int .i64 (k:Int)] V [] fun v V' _=>∃rvs,RepA V' ((dc cTk (dc (cI .i64) (d1 (cI .i64)))).enc (jV (lb s) k)) rvs∧v=Qq rvs
  rw[et];have s2:Qd (.int .i64 (k:Int))=true:=k2
  have s3:Qd (.string (bs (((lb s).drop k).take (spI (lb s) k-k))))=true:=zo (by rw[qe,zM,Kl,jU];omega)
  have s6:Qd (.int .i64 ((spI (lb s) k:Nat):Int))=true:=QG.2 ⟨by omega,by omega⟩
  have gen:∀S:List UInt8,s=bs S→S=lb s→ju Tryz.prog 71 #[.string s,.int .i64 (k:Int)] V [] fun v V' _=>∃rvs,RepA V' ((dc cTk (dc (cI .i64) (d1 (cI .i64)))).enc ((bif Jt ((S.drop k).take (spI S k-k))then 4 else 1,(k:Int),bs ((S.drop k).take (spI S k-k)),0,0),((spI S k:Nat):Int),if 32<spI S k-k then 91 else 0)) rvs∧v=Qq rvs:=by
   intro S e1 e2;subst e1;have e3:lb (bs S)=S:=jB S
   rw[e3]at a3 hc s3 s6 hk1;by_cases h32:32<spI S k-k
   · rw[zr h32]
     cases hw:Jt ((S.drop k).take (spI S k-k))with
     | true=>exact qAp hgk a3 hc hlc hw h32 fun _=>qwq rfl s2 s3 rfl rfl s6 rfl
     | false=>exact qAr hgk a3 hc hlc hw h32 fun _=>qwq rfl s2 s3 rfl rfl s6 rfl
   · rw[zp h32]
     cases hw:Jt ((S.drop k).take (spI S k-k))with
     | true=>exact qAq hgk a3 hc hlc hw h32 fun _=>qwq rfl s2 s3 rfl rfl s6 rfl
     | false=>exact qAs hgk a3 hc hlc hw h32 fun _=>qwq rfl s2 s3 rfl rfl s6 rfl
  exact gen (lb s) es rfl
end Su
end
section
namespace Su
open Go Go.Proofs Fly
set_option maxRecDepth 100000
noncomputable def qsu:qt:=jo [(71,qss)] qsq
theorem qgf:PkT qsu:=qn qnw (qh qst qq)
end Su
end
section
namespace Su
noncomputable section
open Go Go.Proofs Fly
set_option maxRecDepth 100000
def qsv:PrimD:=prim (d1 cS) (dc (cL rTk) (dc (cI .i64) (d1 (cI .i64)))) (qay)
theorem qAt:OkT 28 qsv:=jF ja qgf (fun fu a=>qp4 fu a) (by kernel_rfl) (fun _ _=>by kernel_rfl) qu7
def qsw:qt:=jo [(28,qsv)] qsu
theorem qgg:PkT qsw:=qn qgf (qh qAt qq)
end
end Su
end
section
namespace Su
noncomputable section
open Go Go.Proofs Fly
set_option maxRecDepth 100000
def qsx:PrimD:=prim (d1 (cI .u8)) (d1 cB) (qhl)
theorem qsy:OkT 76 qsx:=yj ja qgg (fun a=>qy8 a) (by kernel_rfl) (fun _ _=>by kernel_rfl) qu8
def qsz:qt:=jo [(76,qsx)] qsw
theorem qnx:PkT qsz:=qn qgg (qh qsy qq)
end
end Su
end
