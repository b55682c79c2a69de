/-
  An evaluator of the program's functions over trees of values, proved sound. No condition.
-/
import Derived.Test.YtnegfdebjikfiaaGreatSuSd
import Derived.Test.YtnegfdebjikfiaaGreatNC14
import Derived.Test.YtnegfdebjikfiaaGreatSuXl
import Derived.Test.YtnegfdebjikfiaaGreatSuTb
import Derived.Test.YtnegfdebjikfiaaGreatNC08
import Derived.Test.YtnegfdebjikfiaaGreatNC12
import Derived.Test.YtnegfdebjikfiaaGreatNC13
import Derived.Test.YtnegfdebjikfiaaGreatNC25
import Derived.Test.YtnegfdebjikfiaaGreatNC32
import Derived.Test.YtnegfdebjikfiaaGreatNC31
import Derived.Test.YtnegfdebjikfiaaGreatNS01
set_option linter.unusedVariables false
set_option linter.unusedSimpArgs false
section
namespace Su
open Go Fly
noncomputable section
abbrev WrT:=∀(O:Type),List SV→List OB→(List SV→List OB→Option O)→Option O
abbrev Wr:=Nat→Option WrT
def qkR(wr:Wr)(call:QJ):QJ:=fun O f args H k=>match wr f with
 | some g=>g O args H k
 | none=>call O f args H k
def qkS(T:Tbl)(pr:qq)(wr:Wr)(lf:Nat):Nat→QJ
 | 0=>fun _ _ _ _ _=>none
 | n+1=>qhU T pr (qkR wr (qkS T pr wr lf n)) lf
variable {P:Program} {B:Bts}
def JN(P:Program)(T:Tbl)(S:Sound P T)(f:Nat)(g:WrT):Prop :=
 ∀(O:Type) args H (k:List SV→List OB→Option O) (y:O),g O args H k=some y→S.tb.go f=true∧∀V I G vs,GOK T V→GR V I H G→RepSs V I args vs →
  yJ P f vs.toArray V G fun v V' G'=>∃rs H',k rs H'=some y∧∃I' rvs,GR V' I' H' G'∧RepSs V' I' rs rvs∧v=J4 rvs∧IPf H I H' I'
def qcc(P:Program)(T:Tbl)(S:Sound P T)(wr:Wr):Prop:=∀f g,wr f=some g→JN P T S f g
def qy2:Wr:=fun _=>none
theorem qiU{T:Tbl}{S:Sound P T}:qcc P T S qy2:=fun _ _ h=>by cases h
def qiV(l:List (Nat×WrT))(wr:Wr):Wr:=fun f=>List.rec (wr f) (fun p _ ih=>Prod.rec (fun k q=>Bool.rec ih (some q) (Nat.beq k f)) p) l
theorem JO{T:Tbl}{S:Sound P T}{wr:Wr}(h0:qcc P T S wr):∀ {l:List (Nat×WrT)},(∀q∈l,JN P T S q.1 q.2)→qcc P T S (qiV l wr)
 | [],_=>h0
 | (k,q)::l,h=>by
  intro f p hp;have ih:=JO h0 (l:=l) fun q hq=>h q (zo _ hq)
  have hp:(Bool.rec (qiV l wr f) (some q) (Nat.beq k f):Option WrT)=some p:=hp
  cases hb:Nat.beq k f with
  | true=>
   rw[hb]at hp;have:=zk hb;subst this
   have:=Option.some.inj hp;subst this
   exact h _ (zq ..)
  | false=>rw[hb]at hp;exact ih f p hp
theorem qaW{T:Tbl}{S:Sound P T}:∀q∈([]:List (Nat×WrT)),JN P T S q.1 q.2:=fun _ h=>by cases h
theorem JP{T:Tbl}{S:Sound P T}{f:Nat}{g:WrT}{l:List (Nat×WrT)}(h:JN P T S f g)(hl:∀q∈l,JN P T S q.1 q.2):∀q∈(f,g)::l,JN P T S q.1 q.2:=fun q hq=>by
 rcases zA.1 hq with rfl | hq
 · exact h
 · exact hl q hq
theorem qol{T:Tbl}{S:Sound P T}{wr:Wr}{call:QJ}(hC:yl P T S call)(hw:qcc P T S wr):yl P T S (qkR wr call):=by
 intro O f args H k y he;unfold qkR at he;cases hq:wr f with
 | none=>rw[hq]at he;exact hC O f args H k y he
 | some g=>rw[hq]at he;exact hw f g hq O args H k y he
theorem qom{T:Tbl}(S:Sound P T)(hcode:∀f fn c,T.fns f=some fn→fn.body=some c→okC fn.ntmps T f c=true){pr:qq}{wr:Wr}(hw:qcc P T S wr)(hreg:∀call,yl P T S call→qjK P T pr call){lf:Nat}:∀m,yl P T S (qkS T pr wr lf m)
 | 0=>fun O f args H k y he=>by simp[qkS]at he
 | m+1=>by
  have:=qne S hcode (m:=lf) (hreg _ (qol (qom S hcode hw hreg (lf:=lf) m) hw))
  intro O f args H k y he;exact this O f args H k y (by simpa only[qkS]using he)
theorem qon(h:BtsOK P B)(hc:B.fns.mp (fun f fn=>match fn.body with | some c=>okC fn.ntmps B.tbl f c | none=>true)=B.fns.mp fun _ _=>true){pr:qq}(hpr:j6 P B.tbl h.sound pr){wr:Wr}(hw:qcc P B.tbl h.sound wr)(lf m:Nat) :
 yl P B.tbl h.sound (qkS B.tbl pr wr lf m) :=
 qom h.sound (fun f fn c h1 h2=>by
  have:=Bt.mp_ok hc h1
  simp only[h2]at this;exact this) hw (fun call hC=>qid h.sound hC hpr) m
theorem qub{h:BtsOK P B}(hc:B.fns.mp (fun f fn=>match fn.body with | some c=>okC fn.ntmps B.tbl f c | none=>true)=B.fns.mp fun _ _=>true){pr:qq}(hpr:j6 P B.tbl h.sound pr){wr:Wr}(hw:qcc P B.tbl h.sound wr)
 {f:Nat} {α ρ:Type} {d:Dec α} {e:Dec ρ} {g:α→Option ρ} (hgo:(B.go.get f).isSome=true)
 (law:∀a y,d.good a→g a=some y→∃lf m n,qcF B.tbl pr (qkR wr (qkS B.tbl pr wr lf m)) n f (d.enc a) e.dec=some y):Ok1 P B.tbl h.sound f (prim d e g):=by
 refine⟨hgo,?_,fun j hj=>by cases hj⟩
 intro xs y hr V vs hg hrep;obtain⟨a,h1,h2⟩:=osm hr;have hrep':=d.rep h1 hrep;obtain⟨lf,m,n,hl⟩:=law a y (d.rng hrep') h2
 have hF:=(qzO h.sound (fun f fn c h1 h2=>by
  have:=Bt.mp_ok hc h1
  simp only[h2]at this;exact this) (m:=n) (qid h.sound (qol (qon h hc hpr hw lf m) hw) hpr) hl).2 V vs hg hrep'
 intro w hs hG hVn hnd;refine(hF w hs hG hVn hnd).mono ?_
 rintro ex w' ⟨v,V',G',rfl,hh,ts,rvs,h3,h4,rfl⟩
 exact⟨_,V',G',rfl,hh,rvs,e.rep h3 h4,rfl⟩
def qar{α:Type}(e:Nat)(d:Dec α)(g:List Tm→α→Option (List Tm)):WrT:=fun _ svs os k=>match svs,os with
 | .osl 0 0 len::az,[.row true e' 2 l]=>bif Nat.beq e' e&&Nat.beq len l.length then(asTs az).bind fun ts=>(d.dec ts).bind fun a=>(qD l).bind fun L=>(g L a).bind fun L'=>k [] [.row true e 2 (L'.map vT)]else none
 | _,_=>none
def qCR{α:Type}(e:Nat)(d:Dec α)(g:List Tm→α→Option (List Tm)):WrT:=fun _ svs os k=>match svs,os with
 | .osl 0 0 len::az,[.row true e' 2 l]=>bif Nat.beq e' e&&Nat.ble len l.length then(asTs az).bind fun ts=>(d.dec ts).bind fun a=>(qD (l.take len)).bind fun L=>(g L a).bind fun L'=>bif Nat.beq L'.length len then k [] [.row true e 2 (L'.map vT++l.drop len)]else none else none
 | _,_=>none
def qfC{O:Type}(T0:Tbl)(pr:qq)(wr:Wr)(lf m f e:Nat)(args:List T)(l:List T)(dec:List T→Option O):Option O :=
 qkS T0 pr wr lf m O f (.osl 0 0 l.length::mpT args) [.row true e 2 l] fun r H=>match r,H with
  | [],[.row true e' 2 l']=>bif Nat.beq e' e then dec l' else none
  | _,_=>none
theorem qfD:∀ {l:List SV} {ts:List T},asTs l=some ts→l=mpT ts
 | [],ts,h=>by have:=soi h;subst this;rfl
 | .t x::l,ts,h=>by
  obtain⟨r,h1,h⟩:=osm h;have:=soi h;subst this
  rw[qfD h1];rfl
theorem qy3{V:qb}{I:List IE}{fx:Bool}{e k:Nat}{l:List T}{ie:IE}{G:Own}(h:RepOB V I (.row fx e k l) ie G):l.length≤maxLen:=by
 cases h with
 | row _ h2 h3 _ _ _=>omega
 | vrow=>simp
theorem qaj{h:BtsOK P B}(hc:B.fns.mp (fun f fn=>match fn.body with | some c=>okC fn.ntmps B.tbl f c | none=>true)=B.fns.mp fun _ _=>true){pr:qq}(hpr:j6 P B.tbl h.sound pr){wr:Wr}(hw:qcc P B.tbl h.sound wr)
 {f e:Nat} {α:Type} {d:Dec α} {g:List Tm→α→Option (List Tm)} (hgo:(B.go.get f).isSome=true)
 (law:∀L a L',L.length≤maxLen→d.good a→g L a=some L'→∃lf m,qfC B.tbl pr wr lf m f e (d.enc a) (L.map vT) some=some (L'.map vT)):JN P B.tbl h.sound f (qar e d g):=by
 intro O svs os k y hr;unfold qar at hr;split at hr
 · rename_i len az e' l
   cases hb:(Nat.beq e' e&&Nat.beq len l.length)with
   | false=>rw[hb]at hr;cases hr
   | true=>
    rw[hb,zf]at hr;rw[zl]at hb;have:=zk hb.1;subst this
    have:=zk hb.2;subst this
    obtain⟨ts,h1,hr⟩:=osm hr;obtain⟨a,h2,hr⟩:=osm hr;obtain⟨L,h3,hr⟩:=osm hr;obtain⟨L',h4,hend⟩:=osm hr;have:=qfD h1;subst this
    have hl:l=L.map vT:=J9 h3
    subst hl;refine⟨hgo,fun V I G vs hg hG hrep=>?_⟩
    cases hrep with | cons k1 k2=>
    have k3:=d.rep h2 (Z4 k2)
    have hlen:L.length≤maxLen:=by
     obtain⟨G0,g1,_⟩:=hG;cases g1 with
     | cons g1 _=>exact KV (Nat.le_of_eq (zn («as»:=L) vT).symm) (qy3 g1)
    obtain⟨lf,m,hl⟩:=law L a L' hlen (d.rng k3) h4
    have hF:=(qon h hc hpr hw lf m _ f _ _ _ _ hl).2 V I G _ hg hG (.cons k1 (RepSs.ofT k3))
    intro w hs hGw hVn hnd;refine(hF w hs hGw hVn hnd).mono ?_
    rintro ex w' ⟨v,V',G',rfl,hh,rs,H',hk,I',rvs,m1,m2,rfl,m3⟩
    split at hk
    · rename_i e'' l'
      cases hb':Nat.beq e'' e' with
      | false=>rw[hb']at hk;cases hk
      | true=>
       rw[hb',zf]at hk;have:=zk hb';subst this
       have:=soi hk;subst this
       exact⟨_,V',G',rfl,hh,[],_,hend,I',rvs,m1,m2,rfl,m3⟩
    · cases hk
 · cases hr
end
end Su
end
section
namespace Su
noncomputable section
open Go Go.Proofs Fly
set_option maxRecDepth 100000
abbrev OkT(f:Nat)(p:PrimD):Prop:=Ok1 Tryz.prog tb QN.sound f p
abbrev PkT(q:qq):Prop:=j6 Tryz.prog tb QN.sound q
def qkT:PrimD:=prim (d1 (cI .u64)) (dc cB (dc (cI .i64) (d1 (cI .u64)))) (qj3)
theorem quc:OkT 121 qkT:=qF qx qif (fun a=>qlX a) (by kernel_rfl) (fun _ _=>by kernel_rfl) qpk
def qoo:PrimD:=prim (dc cB (dc (cI .i64) (d1 (cI .u64)))) (dc (cI .u64) (d1 (cI .i64))) (YH)
theorem qy4:OkT 107 qoo:=qF qx qif (fun a=>qry a.1 a.2.1 a.2.2) (by kernel_rfl) (fun _ _=>by kernel_rfl) qrz
def qud:qq:=jb [(121,qkT),(107,qoo)] noPr
theorem Yq:PkT qud:=qo qif (qe quc (qe qy4 qw))
end
end Su
end
section
namespace Su
noncomputable section
open Go Go.Proofs Fly
set_option maxRecDepth 100000
def qkU:PrimD:=prim (d1 (cI .u64)) (d1 (cI .u8)) (qj4)
theorem que:OkT 95 qkU:=qF qx Yq (fun a=>qlZ a) (by kernel_rfl) (fun _ _=>by kernel_rfl) qpl
def quf:PrimD:=prim (d1 (cI .u64)) (d1 (cI .i64)) (qrA)
theorem qCS:OkT 114 quf:=qF qx Yq (fun a=>qBk a) (by kernel_rfl) (fun _ _=>by kernel_rfl) qxd
def qug:PrimD:=prim (d1 cB) (d1 (cI .u64)) (qrB)
theorem qCT:OkT 59 qug:=qF qx Yq (fun a=>pInf a) (by kernel_rfl) (fun _ _=>by kernel_rfl) qxe
def qkV:PrimD:=prim d0 (d1 (cI .u64)) (fun _=>qBl)
theorem quh:OkT 122 qkV:=fnL qx Yq (by kernel_rfl) (fun _ _=>by kernel_rfl)
def qui:qq:=jb [(95,qkU),(114,quf),(59,qug),(122,qkV)] qud
theorem qc5:PkT qui:=qo Yq (qe que (qe qCS (qe qCT (qe quh qw))))
end
end Su
end
section
namespace Su
noncomputable section
open Go Go.Proofs Fly
set_option maxRecDepth 100000
def qkW:PrimD:=prim (d1 (cI .u64)) (dc (cI .u64) (d1 (cI .i64))) (qj5)
theorem quj:OkT 155 qkW:=qF qx qc5 (fun a=>ql0 a) (by kernel_rfl) (fun _ _=>by kernel_rfl) qpm
def quk:PrimD:=prim (d1 (cI .u64)) (d1 cB) (qrC)
theorem qCU:OkT 99 quk:=qF qx qc5 (fun a=>qBm a) (by kernel_rfl) (fun _ _=>by kernel_rfl) qxf
def qul:qq:=jb [(155,qkW),(99,quk)] qui
theorem qak:PkT qul:=qo qc5 (qe quj (qe qCU qw))
end
end Su
end
section
namespace Su
noncomputable section
open Go Go.Proofs Fly
set_option maxRecDepth 100000
def qum:PrimD:=prim (dc (cI .u64) (d1 (cI .u64))) (dc (cI .i64) (d1 cB)) (qrD)
theorem qCV:OkT 80 qum:=qF qx qak (fun a=>qBn a.1 a.2) (by kernel_rfl) (fun _ _=>by kernel_rfl) qxg
def qun:PrimD:=prim (d1 (cI .u64)) (d1 (cI .u64)) (qrE)
theorem qCW:OkT 44 qun:=qF qx qak (fun a=>qBo a) (by kernel_rfl) (fun _ _=>by kernel_rfl) qxh
def qup:PrimD:=prim (d1 (cI .u64)) (d1 (cI .u64)) (qrF)
theorem qCX:OkT 55 qup:=qF qx qak (fun a=>qBp a) (by kernel_rfl) (fun _ _=>by kernel_rfl) qxi
def quq:qq:=jb [(80,qum),(44,qun),(55,qup)] qul
theorem qg5:PkT quq:=qo qak (qe qCV (qe qCW (qe qCX qw)))
end
end Su
end
section
namespace Su
noncomputable section
open Go Go.Proofs Fly
set_option maxRecDepth 100000
def qop:PrimD:=prim (dc (cI .u64) (d1 (cI .u64))) (d1 cB) (qns)
theorem qy5:OkT 75 qop:=qF qx qg5 (fun a=>qrG a.1 a.2) (by kernel_rfl) (fun _ _=>by kernel_rfl) qrH
def qur:qq:=jb [(75,qop)] quq
theorem qc6:PkT qur:=qo qg5 (qe qy5 qw)
end
end Su
end
section
namespace Su
noncomputable section
open Go Go.Proofs Fly
set_option maxRecDepth 100000
def qus:PrimD:=prim (d1 (cQ 2 1)) (d1 (cI .u64)) (qrI)
theorem qCY:OkT 42 qus:=jz qx qc6 (fun fu a=>qBq fu a) (by kernel_rfl) (fun _ _=>by kernel_rfl) qxj
def qut:PrimD:=prim (d1 (cQ 2 1)) (d1 (cI .u64)) (qrJ)
theorem qCZ:OkT 94 qut:=jz qx qc6 (fun fu a=>qBr fu a) (by kernel_rfl) (fun _ _=>by kernel_rfl) qxk
def quu:qq:=jb [(42,qus),(94,qut)] qur
theorem qc7:PkT quu:=qo qc6 (qe qCY (qe qCZ qw))
end
end Su
end
section
namespace Su
noncomputable section
open Go Go.Proofs Fly
set_option maxRecDepth 100000
def qms:PrimD:=prim (d1 (cI .u64)) (d1 cB) (qrL)
theorem quv:OkT 39 qms:=qF qx qc7 (fun a=>qBs a) (by kernel_rfl) (fun _ _=>by kernel_rfl) qxl
def qiW:PrimD:=prim (d1 (cI .u64)) (d1 cB) (qnv)
theorem qoq:OkT 60 qiW:=qF qx qc7 (fun a=>qrK a) (by kernel_rfl) (fun _ _=>by kernel_rfl) qrM
def qor:qq:=jb [(39,qms),(60,qiW)] quu
theorem Jt:PkT qor:=qo qc7 (qe quv (qe qoq qw))
end
end Su
end
section
namespace Su
noncomputable section
open Go Go.Proofs Fly
set_option maxRecDepth 100000
def qos:PrimD:=prim (d1 (cI .u64)) (d1 (cI .i64)) (qnw)
theorem qy6:OkT 154 qos:=qF qx Jt (fun a=>qrQ a) (by kernel_rfl) (fun _ _=>by kernel_rfl) qrS
def quw:PrimD:=prim (dc (cI .u64) (d1 (cI .u64))) (d1 cW) (qrT)
theorem qC0:OkT 143 quw:=qF qx Jt (fun a=>qBt a.1 a.2) (by kernel_rfl) (fun _ _=>by kernel_rfl) qxm
def qux:PrimD:=prim (dc cW (d1 cW)) (dc cW (d1 (cI .u64))) (qrU)
theorem qC1:OkT 158 qux:=qF qx Jt (fun a=>qBu a.1 a.2) (by kernel_rfl) (fun _ _=>by kernel_rfl) qxn
def quy:PrimD:=prim (dc cW (d1 cW)) (dc cW (d1 (cI .u64))) (qrV)
theorem qC2:OkT 159 quy:=qF qx Jt (fun a=>qBv a.1 a.2) (by kernel_rfl) (fun _ _=>by kernel_rfl) qxp
def quz:qq:=jb [(154,qos),(143,quw),(158,qux),(159,quy)] qor
theorem qal:PkT quz:=qo Jt (qe qy6 (qe qC0 (qe qC1 (qe qC2 qw))))
end
end Su
end
section
namespace Su
noncomputable section
open Go Go.Proofs Fly
set_option maxRecDepth 100000
def quA:PrimD:=prim (d1 cW) (d1 (cI .i64)) (qrW)
theorem qC3:OkT 165 quA:=qF qx qal (fun a=>qBw a) (by kernel_rfl) (fun _ _=>by kernel_rfl) qxq
def quB:PrimD:=prim (dc cW (d1 (cI .i64))) (d1 cW) (qrX)
theorem qC4:OkT 156 quB:=jz qx qal (fun fu a=>qBx fu a.1 a.2) (by kernel_rfl) (fun _ _=>by kernel_rfl) qxr
def quC:PrimD:=prim (dc cW (d1 (cI .i64))) (dc cW (d1 cB)) (qrY)
theorem qC5:OkT 157 quC:=jz qx qal (fun fu a=>qBy fu a.1 a.2) (by kernel_rfl) (fun _ _=>by kernel_rfl) qxs
def quD:qq:=jb [(165,quA),(156,quB),(157,quC)] quz
theorem qc8:PkT quD:=qo qal (qe qC3 (qe qC4 (qe qC5 qw)))
end
end Su
end
section
namespace Su
noncomputable section
open Go Go.Proofs Fly
set_option maxRecDepth 100000
def qAg:PrimD:=prim (dc qpj (dc (cI .u8) (dc cB (dc cB (d1 cB))))) (d1 cB) (qzV)
theorem qEC:OkT 177 qAg:=qF qx qc8 (fun a=>rUp a.1 a.2.1 a.2.2.1 a.2.2.2.1 a.2.2.2.2) (by kernel_rfl) (fun _ _=>by kernel_rfl) qBA
def qot:PrimD:=prim (dc qpj (d1 (cI .u8))) (dc (cI .u64) (d1 (cI .u8))) (qnB)
theorem qy7:OkT 178 qot:=qF qx qc8 (fun a=>qr0 a.1 a.2) (by kernel_rfl) (fun _ _=>by kernel_rfl) qr1
def quE:qq:=jb [(177,qAg),(178,qot)] quD
theorem qg6:PkT quE:=qo qc8 (qe qEC (qe qy7 qw))
end
end Su
end
section
namespace Su
noncomputable section
open Go Go.Proofs Fly
set_option maxRecDepth 100000
def qkX:PrimD:=prim (dc qpj (d1 (cI .u8))) (dc (cI .u64) (d1 (cI .u8))) (Yb)
theorem quF:OkT 166 qkX:=qF qx qg6 (fun a=>ql1 a.1 a.2) (by kernel_rfl) (fun _ _=>by kernel_rfl) qpo
def quG:qq:=jb [(166,qkX)] quE
theorem qam:PkT quG:=qo qg6 (qe quF qw)
end
end Su
end
section
namespace Su
noncomputable section
open Go Go.Proofs Fly
set_option maxRecDepth 100000
def qkY:PrimD:=prim (dc cB (dc cW (dc (cI .i64) (dc cB (d1 (cI .u8)))))) (dc (cI .u64) (d1 (cI .u8))) (qj6)
theorem quH:OkT 142 qkY:=qF qx qam (fun a=>ql2 a.1 a.2.1 a.2.2.1 a.2.2.2.1 a.2.2.2.2) (by kernel_rfl) (fun _ _=>by kernel_rfl) qpp
def qAh:PrimD:=prim (d1 (cI .u64)) (d1 qBe) (fun a=>sOf a)
theorem qED:OkT 123 qAh:=fnL qx qam (by kernel_rfl) (fun _ _=>by kernel_rfl)
def qou:PrimD:=prim (d1 cB) (d1 (cI .u64)) (fun a=>qEj a)
theorem qy8:OkT 126 qou:=fnL qx qam (by kernel_rfl) (fun _ _=>by kernel_rfl)
def quI:qq:=jb [(142,qkY),(123,qAh),(126,qou)] quG
theorem qg7:PkT quI:=qo qam (qe quH (qe qED (qe qy8 qw)))
end
end Su
end
section
namespace Su
noncomputable section
open Go Go.Proofs Fly
set_option maxRecDepth 100000
def qov:PrimD:=prim (dc qBe (dc qBe (d1 (cI .u8)))) (dc (cI .u64) (d1 (cI .u8))) (fun a=>qdv a.1 a.2.1 a.2.2)
theorem qy9:OkT 127 qov:=fnL qx qg7 (by kernel_rfl) (fun _ _=>by kernel_rfl)
def quJ:qq:=jb [(127,qov)] quI
theorem qc9:PkT quJ:=qo qg7 (qe qy9 qw)
end
end Su
end
section
namespace Su
noncomputable section
open Go Go.Proofs Fly
set_option maxRecDepth 100000
def quK:PrimD:=prim (dc (cI .u64) (dc (cI .u64) (d1 (cI .u8)))) (dc (cI .u64) (d1 (cI .u8))) (fun a=>qr4 a.1 a.2.1 a.2.2)
theorem qC6:OkT 98 quK:=fnL qx qc9 (by kernel_rfl) (fun _ _=>by kernel_rfl)
def quL:PrimD:=prim (dc (cI .u64) (dc (cI .u64) (d1 (cI .u8)))) (dc (cI .u64) (d1 (cI .u8))) (fun a=>qxt a.1 a.2.1 a.2.2)
theorem qC7:OkT 109 quL:=fnL qx qc9 (by kernel_rfl) (fun _ _=>by kernel_rfl)
def qmt:qq:=jb [(98,quK),(109,quL)] quJ
theorem Yr:PkT qmt:=qo qc9 (qe qC6 (qe qC7 qw))
end
end Su
end
section
namespace Su
noncomputable section
open Go Go.Proofs Fly
set_option maxRecDepth 100000
def quM:PrimD:=prim (dc (cI .u64) (dc (cI .u64) (d1 (cI .u8)))) (d1 (cI .u64)) (qiq)
theorem quN:OkT 43 quM:=qF qx Yr (fun a=>qBD a.1 a.2.1 a.2.2) (by kernel_rfl) (fun _ _=>by kernel_rfl) qxv
def quO:PrimD:=prim (dc (cI .u64) (dc (cI .u64) (d1 (cI .u8)))) (d1 (cI .u64)) (qir)
theorem quP:OkT 69 quO:=qF qx Yr (fun a=>qBE a.1 a.2.1 a.2.2) (by kernel_rfl) (fun _ _=>by kernel_rfl) qxw
def qAi:PrimD:=prim (d1 (cQ 2 1)) (d1 (cI .u64)) (qnE)
theorem qAj:OkT 54 qAi:=jz qx Yr (fun fu a=>aUp fu a) (by kernel_rfl) (fun _ _=>by kernel_rfl) qBF
def qfE:qq:=jb [(43,quM),(69,quO),(54,qAi)] qmt
theorem qan:PkT qfE:=qo Yr (qe quN (qe quP (qe qAj qw)))
end
end Su
end
section
namespace Su
noncomputable section
open Go Go.Proofs Fly
set_option maxRecDepth 100000
theorem qza(fu:Nat)(l:(List Tm))(u:Unit):qni tb qfE fu 9 88 (0,58) ((dc qii (d1 (cF 89))).enc (l,u)) (d1 Y9).dec=qBG fu l u:=by kernel_rfl
theorem quQ(fu:Nat)(l:(List Tm))(u:Unit):qcF tb qfE (shN tb qfE fu 9) fu 88 ((dc Y9 (d1 (cF 89))).enc (l,u)) (d1 Y9).dec=qr8 fu l u:=by kernel_rfl
def qiX:PrimD:=prim (dc Y9 (d1 (cF 91))) (d1 cB) (qnG)
theorem qow:OkT 90 qiX:=jz qx qan (fun fu a=>qr9 fu a.1 a.2) (by kernel_rfl) (fun _ _=>by kernel_rfl) qsa
theorem qzb:OkT 88 (qgy (0,58) (dc qii (d1 (cF 89))) (d1 Y9) (ql4)):=qjV qx qan (by kernel_rfl) (exc qzQ (ex1 (exFn 89))) qEe fun a y hg h=>by
 obtain⟨n,hn⟩:=qxy a y hg h;exact⟨n,9,(qza n a.1 a.2).trans hn⟩
def qmu:PrimD:=qie (0,58) (dc qii (d1 (cF 89))) (d1 Y9) (ql4) (dc Y9 (d1 (cF 89))) qnH
theorem quR:OkT 88 qmu:=qgz qx qan qzb fun a y hg h=>by
 obtain⟨n,hn⟩:=qsb a y hg h;exact⟨n,9,n,(quQ n a.1 a.2).trans hn⟩
def qfF:qq:=jb [(88,qmu),(90,qiX)] qfE
theorem qao:PkT qfF:=qo qan (qe quR (qe qow qw))
end
end Su
end
section
namespace Su
noncomputable section
open Go Go.Proofs Fly
set_option maxRecDepth 100000
theorem quS(fu:Nat)  (a:Fm):qni tb qfF fu 9 36 (2,58) ((d1 qe2).enc (a)) (d1 jC).dec=qsc a:=by kernel_rfl
theorem qpS(fu:Nat)  (a:Fm):qcF tb qfF (shN tb qfF fu 9) fu 36 ((d1 jC).enc (a)) (d1 jC).dec=ql6 a:=by kernel_rfl
def quT:PrimD:=prim (d1 jC) (d1 cB) (qse)
theorem qC8:OkT 23 quT:=jz qx qao (fun fu a=>qBH fu a) (by kernel_rfl) (fun _ _=>by kernel_rfl) qxz
theorem quU:OkT 36 (qgy (2,58) (d1 qe2) (d1 jC) (qix)):=qjV qx qao (by kernel_rfl) exF4 hnA fun a y hg h=>⟨0,9,(quS 0 a).trans (qsd a y hg h)⟩
def qox:PrimD:=qie (2,58) (d1 qe2) (d1 jC) (qix) (d1 jC) qka
theorem qoy:OkT 36 qox:=qgz qx qao quU fun a y hg h=>⟨0,9,0,(qpS 0 a).trans (qpt a y hg h)⟩
def quV:qq:=jb [(36,qox),(23,quT)] qfF
theorem qg8:PkT quV:=qo qao (qe qoy (qe qC8 qw))
end
end Su
end
section
namespace Su
noncomputable section
open Go Go.Proofs Fly
set_option maxRecDepth 100000
def qkZ:PrimD:=prim (d1 cFms) (d1 cB) (qkb)
theorem quW:OkT 52 qkZ:=jz qx qg8 (fun fu a=>ql7 fu a) (by kernel_rfl) (fun _ _=>by kernel_rfl) qpu
def quX:qq:=jb [(52,qkZ)] quV
theorem qpT:PkT quX:=qo qg8 (qe quW qw)
end
end Su
end
section
namespace Su
open Go Go.Proofs Fly
set_option maxRecDepth 100000
noncomputable def qoz:qq:=jb [] quX
theorem qfG:PkT qoz:=qo qpT qw
end Su
end
section
namespace Su
noncomputable section
open Go Go.Proofs Fly
set_option maxRecDepth 100000
def qmv:PrimD:=prim (dc (cI .u64) (d1 (cI .u64))) (d1 cB) (qsg)
theorem quY:OkT 119 qmv:=qF qx qfG (fun a=>qBJ a.1 a.2) (by kernel_rfl) (fun _ _=>by kernel_rfl) qxA
def quZ:qq:=jb [(119,qmv)] qoz
theorem qg9:PkT quZ:=qo qfG (qe quY qw)
end
end Su
end
section
namespace Su
noncomputable section
open Go Go.Proofs Fly
set_option maxRecDepth 100000
def qfH:PrimD:=prim (d1 qBf) (d1 qBf) (qkc)
theorem qk0:OkT 85 qfH:=jz qx qg9 (fun fu a=>ql8 fu a) (by kernel_rfl) (fun _ _=>by kernel_rfl) qpv
def qu0:qq:=jb [(85,qfH)] quZ
theorem qha:PkT qu0:=qo qg9 (qe qk0 qw)
end
end Su
end
section
namespace Su
noncomputable section
open Go Go.Proofs Fly
set_option maxRecDepth 100000
def qu1:PrimD:=prim (d1 jC) (d1 (cI .u64)) (qiy)
theorem qC9:OkT 21 qu1:=jz qx qha (fun fu a=>qBK fu a) (by kernel_rfl) (fun _ _=>by kernel_rfl) qxD
def qu2:qq:=jb [(21,qu1)] qu0
theorem qda:PkT qu2:=qo qha (qe qC9 qw)
end
end Su
end
section
namespace Su
noncomputable section
open Go Go.Proofs Fly
set_option maxRecDepth 100000
def qoA:PrimD:=prim (d1 jC) (d1 (cI .u64)) (qnI)
theorem qzc:OkT 68 qoA:=qF qx qda (fun a=>qsh a) (by kernel_rfl) (fun _ _=>by kernel_rfl) qsi
def qu3:PrimD:=prim (dc (cI .u64) (d1 (cI .u64))) (d1 (cI .u64)) (qsj)
theorem qDa:OkT 41 qu3:=qF qx qda (fun a=>aMid a.1 a.2) (by kernel_rfl) (fun _ _=>by kernel_rfl) qxE
def qu4:qq:=jb [(68,qoA),(41,qu3)] qu2
theorem qpU:PkT qu4:=qo qda (qe qzc (qe qDa qw))
end
end Su
end
section
namespace Fly
open Go Go.Proofs Su
set_option maxRecDepth 10000
noncomputable def tb:Tabs Tryz.prog:=Su.QN.sound.tb
section
variable {P:Program} {n:Nat} {X:Cx} {L:Lo} {V:qb} {G:Own} {Q:Value→qb→Own→Prop}
variable {ty:TypeId} {pos:String} {af:Array Edge} {gd:Option (Nat×Bool)} {ds:Option Tmp}
theorem qk1{t e:TypeId}{a:Option Addr}{len cap:Nat}(hu:P.underlying t=some (.slice e))(w:World):(Op.equal t (.slice a len cap) (.slice none 0 0)).run P w = .ok a.isNone w:=by
 show(Op.equalIn (9999+1) t (.slice a len cap) (.slice none 0 0)).run P w=_
 unfold Op.equalIn;rw[Sem.run_bind,run_underlying hu];cases a <;> rfl
theorem qiY{t u e:TypeId}{x y:Operand}{a:Option Addr}{len cap:Nat}(hx:ev L x=some (.slice a len cap))(hy:ev L y=some (.slice none 0 0))(hu:P.underlying t=some (.slice e))(k:Q (.bool a.isNone) V G) :
 Opr P n X L V G ⟨ds,.binOp .eql t x y u,ty,pos,af,gd⟩ Q:=qlp hx hy rfl (fun w=>by simp[eqGuard]) (qk1 hu) k
end
attribute [local irreducible] WC WE WR Opr St Go.Calls qwe qAx qi9 Rel yJ qDY qAy Owe One qlj Go.CallsD
theorem c53n{V:qb}{len cap:Nat}{Q:Value→qb→Own→Prop}(hQ:Q (.slice none 0 0) V []):yJ Tryz.prog 53 #[.slice none len cap] V [] Q:=by
 refine Jc (args:=[_]) Tryz.func53 rfl Tryz.ntmps53 rfl ?_
 intro X w hM hb hw hV0 hR;dsimp only[qap,Kk,Nat.reduceAdd]
 (repeat' (first | refine qcd ?_ | refine QY ?_ | refine qcg ?_ | refine ZP ?_ | refine JW ?_ | refine ZM ?_ | refine qcf ?_ | refine ZN ?_ | refine yc ?_ | refine jJ ?_ | refine yZ rfl ?_ | refine yy ?_ | refine qce ?_ | ((first | refine qaA rfl ?_ | refine qa1 ?_ | refine qi4 rfl rfl rfl ?_);(first | (refine qiY (e:=58) rfl rfl (by kernel_rfl) ?_) | refine ZQ rfl ?_ | refine QZ rfl ?_ | refine qcj rfl rfl ?_ | refine qck rfl rfl ?_ | refine qcl rfl rfl ?_ | refine qcm rfl rfl ?_ | refine qcn rfl rfl ?_ | refine qco rfl rfl ?_ | refine y5 rfl rfl ?_ | refine qcr rfl ?_ | refine Q5 rfl rfl ?_ | refine Q6 rfl rfl ?_ | refine qa2 rfl rfl (by omega) (by omega) ?_ | refine qa3 rfl rfl (by omega) (by omega) ?_ | refine qa4 rfl rfl (by omega) (by omega) ?_ | refine qaB rfl rfl ?_ | refine qaC rfl rfl ?_ | refine qaD rfl rfl ?_ | refine jw tb rfl rfl ?_ | refine y7 tb rfl rfl rfl ?_ | refine qch rfl rfl ?_ | refine qfX rfl rfl ?_ | refine qci rfl rfl ?_ | refine Q0 rfl rfl ?_ | refine qcp rfl rfl (by decide) ?_ | refine qcq rfl rfl (by decide) ?_ | refine qcG rfl rfl ?_ | refine ZW rfl rfl ?_ | refine qbc rfl rfl (by kernel_rfl) ?_ | refine Zj rfl rfl (by kernel_rfl) ?_ | refine y6 tb rfl rfl rfl ?_ | refine qcs rfl ?_ | refine Q9 tb rfl rfl rfl ?_ | (apply Za tb rfl rfl;(· (first | (refine At.own (?_);repeat (first | exact Has.here | refine Has.there ?_)) | exact At.seen (by assumption)));(· exact rfl)) | (apply JX tb rfl rfl;(· (first | (refine At.own (?_);repeat (first | exact Has.here | refine Has.there ?_)) | exact At.seen (by assumption)));(· exact rfl)) | (apply JY tb rfl rfl rfl rfl rfl;(· (repeat (first | exact Upd.here | apply Upd.there)));(· exact rfl)) | (apply JZ tb rfl rfl rfl rfl rfl;(· (repeat (first | exact Upd.here | apply Upd.there)));(· exact rfl)) | (apply Jb tb (by kernel_rfl) rfl (rfl:tb.fo _ 0=_);(· (repeat (first | exact Fill.nil | (apply Fill.cons;(· exact rfl);(· exact rfl);(· exact rfl);(· exact rfl);(· exact rfl)))))) | (refine Qm rfl ?_;intro b) | (refine Yy rfl rfl ?_;intro b) | (refine Ja tb rfl ?_;intro b) | (apply jB tb;(· exact rfl);(· exact rfl);(· exact rfl);(· decide);(· (repeat (first | exact Cat.nil | (apply Cat.cons;(· exact rfl);(· exact rfl);(· exact rfl)) | exact App.nil | apply App.cons)));intro b))) | refine qp6 rfl rfl rfl rfl ?_ | refine QW rfl ?_ | refine QX rfl ?_ | refine qi5 rfl (fun _=>?_) (fun _=>?_) | refine qeg rfl (fun _=>?_) (fun _=>?_) | refine Zb rfl rfl (fun _=>?_) (fun _=>?_) | refine Zc rfl rfl (fun _=>?_) (fun _=>?_) | refine qbd rfl (fun _=>?_) (fun _=>?_) | refine qey rfl (fun _=>?_) (fun _=>?_) | refine J3 rfl rfl (fun _=>?_) (fun _=>?_) | refine Zk rfl rfl (fun _=>?_) (fun _=>?_)))
 exact qen hM hw hV0 hR [] (WA _) (qAu rfl rfl) hQ
theorem c53e{V:qb}{a:Addr}{cap:Nat}{Q:Value→qb→Own→Prop}(hQ:∀b,Q (.slice (some ⟨b,0,none⟩) 0 0) V [(b,.cells #[] 58 (0,0))]):yJ Tryz.prog 53 #[.slice (some a) 0 cap] V [] Q:=by
 refine Jc (args:=[_]) Tryz.func53 rfl Tryz.ntmps53 rfl ?_
 intro X w hM hb hw hV0 hR;dsimp only[qap,Kk,Nat.reduceAdd]
 (repeat' (first | refine qcd ?_ | refine QY ?_ | refine qcg ?_ | refine ZP ?_ | refine JW ?_ | refine ZM ?_ | refine qcf ?_ | refine ZN ?_ | refine yc ?_ | refine jJ ?_ | refine yZ rfl ?_ | refine yy ?_ | refine qce ?_ | ((first | refine qaA rfl ?_ | refine qa1 ?_ | refine qi4 rfl rfl rfl ?_);(first | (refine qiY (e:=58) rfl rfl (by kernel_rfl) ?_) | refine ZQ rfl ?_ | refine QZ rfl ?_ | refine qcj rfl rfl ?_ | refine qck rfl rfl ?_ | refine qcl rfl rfl ?_ | refine qcm rfl rfl ?_ | refine qcn rfl rfl ?_ | refine qco rfl rfl ?_ | refine y5 rfl rfl ?_ | refine qcr rfl ?_ | refine Q5 rfl rfl ?_ | refine Q6 rfl rfl ?_ | refine qa2 rfl rfl (by omega) (by omega) ?_ | refine qa3 rfl rfl (by omega) (by omega) ?_ | refine qa4 rfl rfl (by omega) (by omega) ?_ | refine qaB rfl rfl ?_ | refine qaC rfl rfl ?_ | refine qaD rfl rfl ?_ | refine jw tb rfl rfl ?_ | refine y7 tb rfl rfl rfl ?_ | refine qch rfl rfl ?_ | refine qfX rfl rfl ?_ | refine qci rfl rfl ?_ | refine Q0 rfl rfl ?_ | refine qcp rfl rfl (by decide) ?_ | refine qcq rfl rfl (by decide) ?_ | refine qcG rfl rfl ?_ | refine ZW rfl rfl ?_ | refine qbc rfl rfl (by kernel_rfl) ?_ | refine Zj rfl rfl (by kernel_rfl) ?_ | refine y6 tb rfl rfl rfl ?_ | refine qcs rfl ?_ | refine Q9 tb rfl rfl rfl ?_ | (apply Za tb rfl rfl;(· (first | (refine At.own (?_);repeat (first | exact Has.here | refine Has.there ?_)) | exact At.seen (by assumption)));(· exact rfl)) | (apply JX tb rfl rfl;(· (first | (refine At.own (?_);repeat (first | exact Has.here | refine Has.there ?_)) | exact At.seen (by assumption)));(· exact rfl)) | (apply JY tb rfl rfl rfl rfl rfl;(· (repeat (first | exact Upd.here | apply Upd.there)));(· exact rfl)) | (apply JZ tb rfl rfl rfl rfl rfl;(· (repeat (first | exact Upd.here | apply Upd.there)));(· exact rfl)) | (apply Jb tb (by kernel_rfl) rfl (rfl:tb.fo _ 0=_);(· (repeat (first | exact Fill.nil | (apply Fill.cons;(· exact rfl);(· exact rfl);(· exact rfl);(· exact rfl);(· exact rfl)))))) | (refine Qm rfl ?_;intro b) | (refine Yy rfl rfl ?_;intro b) | (refine Ja tb rfl ?_;intro b) | (apply jB tb;(· exact rfl);(· exact rfl);(· exact rfl);(· decide);(· (repeat (first | exact Cat.nil | (apply Cat.cons;(· exact rfl);(· exact rfl);(· exact rfl)) | exact App.nil | apply App.cons)));intro b))) | refine qp6 rfl rfl rfl rfl ?_ | refine QW rfl ?_ | refine QX rfl ?_ | refine qi5 rfl (fun _=>?_) (fun _=>?_) | refine qeg rfl (fun _=>?_) (fun _=>?_) | refine Zb rfl rfl (fun _=>?_) (fun _=>?_) | refine Zc rfl rfl (fun _=>?_) (fun _=>?_) | refine qbd rfl (fun _=>?_) (fun _=>?_) | refine qey rfl (fun _=>?_) (fun _=>?_) | refine J3 rfl rfl (fun _=>?_) (fun _=>?_) | refine Zk rfl rfl (fun _=>?_) (fun _=>?_)))
 refine qaA rfl (qaK (e:=58) (k:=2) tb rfl rfl rfl (zE 0) ?_)
 (repeat' (first | refine qcd ?_ | refine QY ?_ | refine qcg ?_ | refine ZP ?_ | refine JW ?_ | refine ZM ?_ | refine qcf ?_ | refine ZN ?_ | refine yc ?_ | refine jJ ?_ | refine yZ rfl ?_ | refine yy ?_ | refine qce ?_ | ((first | refine qaA rfl ?_ | refine qa1 ?_ | refine qi4 rfl rfl rfl ?_);(first | refine ZQ rfl ?_ | refine QZ rfl ?_ | refine qcj rfl rfl ?_ | refine qck rfl rfl ?_ | refine qcl rfl rfl ?_ | refine qcm rfl rfl ?_ | refine qcn rfl rfl ?_ | refine qco rfl rfl ?_ | refine y5 rfl rfl ?_ | refine qcr rfl ?_ | refine Q5 rfl rfl ?_ | refine Q6 rfl rfl ?_ | refine qa2 rfl rfl (by omega) (by omega) ?_ | refine qa3 rfl rfl (by omega) (by omega) ?_ | refine qa4 rfl rfl (by omega) (by omega) ?_ | refine qaB rfl rfl ?_ | refine qaC rfl rfl ?_ | refine qaD rfl rfl ?_ | refine jw tb rfl rfl ?_ | refine y7 tb rfl rfl rfl ?_ | refine qch rfl rfl ?_ | refine qfX rfl rfl ?_ | refine qci rfl rfl ?_ | refine Q0 rfl rfl ?_ | refine qcp rfl rfl (by decide) ?_ | refine qcq rfl rfl (by decide) ?_ | refine qcG rfl rfl ?_ | refine ZW rfl rfl ?_ | refine qbc rfl rfl (by kernel_rfl) ?_ | refine Zj rfl rfl (by kernel_rfl) ?_ | refine y6 tb rfl rfl rfl ?_ | refine qcs rfl ?_ | refine Q9 tb rfl rfl rfl ?_ | (apply Za tb rfl rfl;(· (first | (refine At.own (?_);repeat (first | exact Has.here | refine Has.there ?_)) | exact At.seen (by assumption)));(· exact rfl)) | (apply JX tb rfl rfl;(· (first | (refine At.own (?_);repeat (first | exact Has.here | refine Has.there ?_)) | exact At.seen (by assumption)));(· exact rfl)) | (apply JY tb rfl rfl rfl rfl rfl;(· (repeat (first | exact Upd.here | apply Upd.there)));(· exact rfl)) | (apply JZ tb rfl rfl rfl rfl rfl;(· (repeat (first | exact Upd.here | apply Upd.there)));(· exact rfl)) | (apply Jb tb (by kernel_rfl) rfl (rfl:tb.fo _ 0=_);(· (repeat (first | exact Fill.nil | (apply Fill.cons;(· exact rfl);(· exact rfl);(· exact rfl);(· exact rfl);(· exact rfl)))))) | (refine Qm rfl ?_;intro b) | (refine Yy rfl rfl ?_;intro b) | (refine Ja tb rfl ?_;intro b) | (apply jB tb;(· exact rfl);(· exact rfl);(· exact rfl);(· decide);(· (repeat (first | exact Cat.nil | (apply Cat.cons;(· exact rfl);(· exact rfl);(· exact rfl)) | exact App.nil | apply App.cons)));intro b))) | refine qp6 rfl rfl rfl rfl ?_ | refine QW rfl ?_ | refine QX rfl ?_ | refine qi5 rfl (fun _=>?_) (fun _=>?_) | refine qeg rfl (fun _=>?_) (fun _=>?_) | refine Zb rfl rfl (fun _=>?_) (fun _=>?_) | refine Zc rfl rfl (fun _=>?_) (fun _=>?_) | refine qbd rfl (fun _=>?_) (fun _=>?_) | refine qey rfl (fun _=>?_) (fun _=>?_) | refine J3 rfl rfl (fun _=>?_) (fun _=>?_) | refine Zk rfl rfl (fun _=>?_) (fun _=>?_)))
 exact qen hM hw hV0 hR [(b,.cells #[] 58 (0,0))] (WA _) (qAu rfl rfl) (hQ b)
theorem c53s{V:qb}{bb off len cap:Nat}{news:List Value}{Q:Value→qb→Own→Prop}(hn:news.length=len*2)(h1:∀u∈news,u.oneCell'=true)(hr:∀(j:Nat) (u:Value),news[j]?=some u→rd V bb (off+j) u)(h0:0<len)(hl:len≤549755813888)
 (hQ:∀v' Gr',RowC 58 2 v' Gr' len news→Q v' V Gr'):yJ Tryz.prog 53 #[.slice (some ⟨bb,off,none⟩) len cap] V [] Q:=by
 refine Jc (args:=[_]) Tryz.func53 rfl Tryz.ntmps53 rfl ?_
 intro X w hM hb hw hV0 hR;dsimp only[qap,Kk,Nat.reduceAdd]
 (repeat' (first | refine qcd ?_ | refine QY ?_ | refine qcg ?_ | refine ZP ?_ | refine JW ?_ | refine ZM ?_ | refine qcf ?_ | refine ZN ?_ | refine yc ?_ | refine jJ ?_ | refine yZ rfl ?_ | refine yy ?_ | refine qce ?_ | ((first | refine qaA rfl ?_ | refine qa1 ?_ | refine qi4 rfl rfl rfl ?_);(first | (refine qiY (e:=58) rfl rfl (by kernel_rfl) ?_) | refine ZQ rfl ?_ | refine QZ rfl ?_ | refine qcj rfl rfl ?_ | refine qck rfl rfl ?_ | refine qcl rfl rfl ?_ | refine qcm rfl rfl ?_ | refine qcn rfl rfl ?_ | refine qco rfl rfl ?_ | refine y5 rfl rfl ?_ | refine qcr rfl ?_ | refine Q5 rfl rfl ?_ | refine Q6 rfl rfl ?_ | refine qa2 rfl rfl (by omega) (by omega) ?_ | refine qa3 rfl rfl (by omega) (by omega) ?_ | refine qa4 rfl rfl (by omega) (by omega) ?_ | refine qaB rfl rfl ?_ | refine qaC rfl rfl ?_ | refine qaD rfl rfl ?_ | refine jw tb rfl rfl ?_ | refine y7 tb rfl rfl rfl ?_ | refine qch rfl rfl ?_ | refine qfX rfl rfl ?_ | refine qci rfl rfl ?_ | refine Q0 rfl rfl ?_ | refine qcp rfl rfl (by decide) ?_ | refine qcq rfl rfl (by decide) ?_ | refine qcG rfl rfl ?_ | refine ZW rfl rfl ?_ | refine qbc rfl rfl (by kernel_rfl) ?_ | refine Zj rfl rfl (by kernel_rfl) ?_ | refine y6 tb rfl rfl rfl ?_ | refine qcs rfl ?_ | refine Q9 tb rfl rfl rfl ?_ | (apply Za tb rfl rfl;(· (first | (refine At.own (?_);repeat (first | exact Has.here | refine Has.there ?_)) | exact At.seen (by assumption)));(· exact rfl)) | (apply JX tb rfl rfl;(· (first | (refine At.own (?_);repeat (first | exact Has.here | refine Has.there ?_)) | exact At.seen (by assumption)));(· exact rfl)) | (apply JY tb rfl rfl rfl rfl rfl;(· (repeat (first | exact Upd.here | apply Upd.there)));(· exact rfl)) | (apply JZ tb rfl rfl rfl rfl rfl;(· (repeat (first | exact Upd.here | apply Upd.there)));(· exact rfl)) | (apply Jb tb (by kernel_rfl) rfl (rfl:tb.fo _ 0=_);(· (repeat (first | exact Fill.nil | (apply Fill.cons;(· exact rfl);(· exact rfl);(· exact rfl);(· exact rfl);(· exact rfl)))))) | (refine Qm rfl ?_;intro b) | (refine Yy rfl rfl ?_;intro b) | (refine Ja tb rfl ?_;intro b) | (apply jB tb;(· exact rfl);(· exact rfl);(· exact rfl);(· decide);(· (repeat (first | exact Cat.nil | (apply Cat.cons;(· exact rfl);(· exact rfl);(· exact rfl)) | exact App.nil | apply App.cons)));intro b))) | refine qp6 rfl rfl rfl rfl ?_ | refine QW rfl ?_ | refine QX rfl ?_ | refine qi5 rfl (fun _=>?_) (fun _=>?_) | refine qeg rfl (fun _=>?_) (fun _=>?_) | refine Zb rfl rfl (fun _=>?_) (fun _=>?_) | refine Zc rfl rfl (fun _=>?_) (fun _=>?_) | refine qbd rfl (fun _=>?_) (fun _=>?_) | refine qey rfl (fun _=>?_) (fun _=>?_) | refine J3 rfl rfl (fun _=>?_) (fun _=>?_) | refine Zk rfl rfl (fun _=>?_) (fun _=>?_)))
 refine qaA rfl (qaL (e:=58) (k:=2) (m:=0) (z:=[.int .i64 0,.int .u64 0]) (Gr:=[(b,.cells #[] 58 (0,0))]) (G1:=[]) (xs:=[]) (news:=news) tb rfl rfl rfl (zr (by kernel_rfl)) rfl rfl (fun w hw j u hj=>?_) hn h1 (RowC.some (g:=b) (cur:=#[]) (zE 0) (zE 0) (by simp[maxLen]) rfl rfl) (Ko _) h0 (by omega) fun v' Gr' hR'=>?_)
 · obtain⟨arr,e,f0,q1,q2⟩:=hr j u hj
   rw[yH,ye (hw.view _ _ q1)];exact q2
 · (repeat' (first | refine qcd ?_ | refine QY ?_ | refine qcg ?_ | refine ZP ?_ | refine JW ?_ | refine ZM ?_ | refine qcf ?_ | refine ZN ?_ | refine yc ?_ | refine jJ ?_ | refine yZ rfl ?_ | refine yy ?_ | refine qce ?_ | ((first | refine qaA rfl ?_ | refine qa1 ?_ | refine qi4 rfl rfl rfl ?_);(first | refine ZQ rfl ?_ | refine QZ rfl ?_ | refine qcj rfl rfl ?_ | refine qck rfl rfl ?_ | refine qcl rfl rfl ?_ | refine qcm rfl rfl ?_ | refine qcn rfl rfl ?_ | refine qco rfl rfl ?_ | refine y5 rfl rfl ?_ | refine qcr rfl ?_ | refine Q5 rfl rfl ?_ | refine Q6 rfl rfl ?_ | refine qa2 rfl rfl (by omega) (by omega) ?_ | refine qa3 rfl rfl (by omega) (by omega) ?_ | refine qa4 rfl rfl (by omega) (by omega) ?_ | refine qaB rfl rfl ?_ | refine qaC rfl rfl ?_ | refine qaD rfl rfl ?_ | refine jw tb rfl rfl ?_ | refine y7 tb rfl rfl rfl ?_ | refine qch rfl rfl ?_ | refine qfX rfl rfl ?_ | refine qci rfl rfl ?_ | refine Q0 rfl rfl ?_ | refine qcp rfl rfl (by decide) ?_ | refine qcq rfl rfl (by decide) ?_ | refine qcG rfl rfl ?_ | refine ZW rfl rfl ?_ | refine qbc rfl rfl (by kernel_rfl) ?_ | refine Zj rfl rfl (by kernel_rfl) ?_ | refine y6 tb rfl rfl rfl ?_ | refine qcs rfl ?_ | refine Q9 tb rfl rfl rfl ?_ | (apply Za tb rfl rfl;(· (first | (refine At.own (?_);repeat (first | exact Has.here | refine Has.there ?_)) | exact At.seen (by assumption)));(· exact rfl)) | (apply JX tb rfl rfl;(· (first | (refine At.own (?_);repeat (first | exact Has.here | refine Has.there ?_)) | exact At.seen (by assumption)));(· exact rfl)) | (apply JY tb rfl rfl rfl rfl rfl;(· (repeat (first | exact Upd.here | apply Upd.there)));(· exact rfl)) | (apply JZ tb rfl rfl rfl rfl rfl;(· (repeat (first | exact Upd.here | apply Upd.there)));(· exact rfl)) | (apply Jb tb (by kernel_rfl) rfl (rfl:tb.fo _ 0=_);(· (repeat (first | exact Fill.nil | (apply Fill.cons;(· exact rfl);(· exact rfl);(· exact rfl);(· exact rfl);(· exact rfl)))))) | (refine Qm rfl ?_;intro b) | (refine Yy rfl rfl ?_;intro b) | (refine Ja tb rfl ?_;intro b) | (apply jB tb;(· exact rfl);(· exact rfl);(· exact rfl);(· decide);(· (repeat (first | exact Cat.nil | (apply Cat.cons;(· exact rfl);(· exact rfl);(· exact rfl)) | exact App.nil | apply App.cons)));intro b))) | refine qp6 rfl rfl rfl rfl ?_ | refine QW rfl ?_ | refine QX rfl ?_ | refine qi5 rfl (fun _=>?_) (fun _=>?_) | refine qeg rfl (fun _=>?_) (fun _=>?_) | refine Zb rfl rfl (fun _=>?_) (fun _=>?_) | refine Zc rfl rfl (fun _=>?_) (fun _=>?_) | refine qbd rfl (fun _=>?_) (fun _=>?_) | refine qey rfl (fun _=>?_) (fun _=>?_) | refine J3 rfl rfl (fun _=>?_) (fun _=>?_) | refine Zk rfl rfl (fun _=>?_) (fun _=>?_)))
   rw[zD];refine qen hM hw hV0 hR Gr' (WA _) (qAu rfl rfl) (hQ _ _ ?_)
   rw[Kk,Ka]at hR';exact hR'
end Fly
namespace Su
open Go Go.Proofs Fly
theorem qk2{P:Program}{f:Nat}{V:qb}{vs:List Value}{l:List T}{e w:Nat}
 (h:yJ P f vs.toArray V [] fun v V' G'=>∃ie,RepOB V' [ie] (.row false e w l) ie G'∧RepS V' [ie] (.osl 0 0 l.length) v):yJ P f vs.toArray V [] fun v V' _=>∃rvs,RepA V' [.sl w l] rvs∧v=J4 rvs:=by
 intro w0 hs hG hV hnd;refine(h w0 hs hG hV hnd).mono ?_
 rintro ex w' ⟨v,V',G',rfl,hh,ie,m1,m2⟩
 have hsub:sub l 0 l.length=some l:=qgF l _ rfl
 have hz:toTs 64 ⟨[],[],[.row false e w l]⟩ [.osl 0 0 l.length]=some ([.sl w l],(St.mk [] [] [.row false e w l]).frow 0 w l):=by
  simp only[toTs,toT,Vh,hsub,zj]
 obtain⟨V2,G2,g2,s2,r2,_⟩:=(yt (I:=[ie]) (L:=[]) 64).2 ⟨[],[],[.row false e w l]⟩ _ [.osl 0 0 l.length] _ hz V' G' [v] (.cons m2 .nil) ⟨⟨G'++[],.cons m1 .nil,by rw[zD]⟩,fun d sv hd _=>by simp[St.look]at hd⟩ ⟨fun p hp=>(hh.free p (by simp[hp])).2,by have:=hh.nodup;simpa using this⟩
 exact⟨_,V2,G2,rfl,g2.holds _ _ hh,[v],r2,rfl⟩
noncomputable def qfI:PrimD:=⟨List Tm,fun xs=>((d1 Y9).dec xs).bind fun l=>bif qgI l then some l else none,fun l=>[.sl 2 (l.map vT)],none,some (58,2),fun _=>none⟩
theorem qpV{V:qb}{v:Value}{l:List T}(hl:l.length≤549755813888)(h:Rep V (.sl 2 l) v) :
 yJ Tryz.prog 53 #[v] V [] fun v' V' G'=>∃ie,RepOB V' [ie] (.row false 58 2 l) ie G'∧RepS V' [ie] (.osl 0 0 l.length) v':=by
 cases h with | @sl _ _ vs a cap a1 a2 a3 a4 a5 a6=>
 have hn:vs.length=l.length*2:=by rw[← a1.length,yM a3]
 by_cases h0:l=[]
 · subst h0
   cases a with
   | none=>exact c53n ⟨.vrow,.vrow,.oslv rfl⟩
   | some a=>exact c53e fun b=>⟨.row b 2 0,.row (by simp) (by simp[maxLen]) (by simp) (by simpa using RepA.nil) (by simp) (by simp),by
    have:=RepS.osl (V:=V) (I:=[IE.row b 2 0]) (n:=0) (off:=0) (len:=0) (b:=b) (k:=2) (ct:=0) (cap:=0) rfl (by omega) (by simp[maxLen]) ⟨by simp,by simp⟩
    simpa using this⟩
 · have ZA:0<l.length:=zS.2 h0
   rcases a6 with a6 | ⟨b,off,rfl,a6⟩
   · exact absurd a6 h0
   · refine c53s hn (Qu a1 a2) a6 ZA hl fun v' Gr' hR=>?_
     obtain⟨b',ct,cap,rfl,b1,b2,b3⟩:=qqV (V:=V) (I:=[.row 0 0 0]) (l:=l) hR ZA rfl a1 a2 a3
     refine⟨.row b' 2 ct,b3.row_any,?_⟩
     have:=RepS.osl (V:=V) (I:=[IE.row b' 2 ct]) (n:=0) (off:=0) (len:=l.length) (b:=b') (k:=2) (ct:=ct) (cap:=cap) rfl (by omega) b2 ⟨b1.1,by omega⟩
     rw[Vg]at this;exact this
theorem qk3(xs:List T)(y:List Tm)(h:((d1 Y9).dec xs).bind (fun l=>bif qgI l then some l else none)=some y)(V:qb)(vs:List Value)(hr:RepA V xs vs) :
 yJ Tryz.prog 53 vs.toArray V [] fun v V' G'=>∃ie,RepOB V' [ie] (.row false 58 2 (y.map vT)) ie G'∧RepS V' [ie] (.osl 0 0 (y.map vT).length) v:=by
 obtain⟨l,h1,h2⟩:=osm h;obtain⟨h3,h4⟩:=qj h2;have:=soi h4;subst this
 have hr2:=(d1 Y9).rep h1 hr
 cases hr2 with | cons k1 k2=>cases k2 with | nil=>
 cases k1 with | ql k1=>
 exact qpV (l:=l.map vT) (by have h5:(l.map (view 10)).length=l.length:=zn ..;rw[show(List.map vT l).length=l.length from h5];exact zr h3) k1
theorem qk4:OkT 53 qfI:=by
 refine⟨by kernel_rfl,fun xs y h V vs _ hr=>qk2 (qk3 xs y h V vs hr),fun j hj xs y h V vs _ hr=>?_⟩
 have hj:some ((58,2):Nat×Nat)=some j:=hj
 simp only[zg]at hj;subst hj;intro w0 a1 a2 a3 a4;refine(qk3 xs y h V vs hr w0 a1 a2 a3 a4).mono ?_
 rintro e w' ⟨v,V',G',rfl,hh,ie,m1,m2⟩
 refine⟨v,V',G',rfl,hh,fun w l he hw=>?_⟩
 have he:[T.sl 2 (y.map vT)]=[.sl w l]:=he
 simp only[VN,T.sl.injEq,and_true]at he;obtain⟨rfl,rfl⟩:=he;exact⟨ie,m1,m2⟩
end Su
end
section
namespace Su
noncomputable section
open Go Go.Proofs Fly
set_option maxRecDepth 100000
abbrev dFF:Dec (Int×Int×Int):=dc (cI .u64) (dc (cI .u64) (d1 (cI .u8)))
def qzd(n:Nat):Option Int:=Nat.rec (motive:=fun _=>Option Int) (some ((0:Nat):Int)) (fun m _=>some ((m+1:Nat):Int)) n
theorem qiZ(n:Nat):qzd n=some (n:Int):=by cases n <;> rfl
def qu5(p:Int×Int×Int):Option Int:=qzd (yg p.1.toNat p.2.1.toNat p.2.2)
def qu6(p:Int×Int×Int):Option Int:=qzd (qj8 p.1.toNat p.2.1.toNat p.2.2)
def upO(s:Nat):List Int→Nat
 | []=>s
 | x::l=>upO (yg s x.toNat 1) l
def qDb(l:List Int):Option Int:=qzd (upO 0 l)
def qu7(a:Fm):Fm:=bif(fI (nzI a.2.1)&&fI (nzI a.2.2.2))&&!((qt a.2.2.1).any fun t=>!fI t.c)then(a.1,nzI a.2.1,qt a.2.2.1,nzI a.2.2.2)else qaS
theorem qu8:∀(l:List Int) (s:Nat),upO s l=upS s l
 | [],s=>rfl
 | x::l,s=>by show upO (yg s x.toNat 1) l=upS (Qe s x.toNat 1) l;rw[qu8 l,jX]
def qu9:PrimD:=prim dFF (d1 (cI .u64)) qu5
def qva:PrimD:=prim dFF (d1 (cI .u64)) qu6
def qDc:PrimD:=prim (d1 (cQ 2 1)) (d1 (cI .u64)) qDb
def qmw:PrimD:=qie (2,58) (d1 qe2) (d1 jC) (fun a=>some (qu7 a)) (d1 jC) (fun a=>bif a.2.2.1.all fun t=>!zI t.c then some (qu7 a)else none)
theorem qze:OkT 43 qu9:=by
 have e:qu5=qiq:=by funext p;unfold qu5 qiq;rw[jX,qiZ]
 unfold qu9;rw[e];exact quN
theorem qzf:OkT 69 qva:=by
 have e:qu6=qir:=by funext p;unfold qu6 qir;rw[qd2,qiZ]
 unfold qva;rw[e];exact quP
theorem qDd:OkT 54 qDc:=by
 have e:qDb=qnE:=by funext l;unfold qDb qnE;rw[qu8,qiZ]
 unfold qDc;rw[e];exact qAj
theorem qvb:OkT 36 qmw:=by
 have e:qu7=yY:=by funext a;rw[Qz];rfl
 unfold qmw;rw[e];exact qoy
def prB:qq:=jb [(43,qu9),(69,qva),(54,qDc),(36,qmw),(53,qfI),(85,qfH),(119,qmv),(88,qmu),(90,qiX),(39,qms),(60,qiW)] qmt
theorem qDe:PkT prB:=qo Yr (qe qze (qe qzf (qe qDd (qe qvb (qe qk4 (qe qk0 (qe quY (qe quR (qe qow (qe quv (qe qoq qw)))))))))))
theorem qk5:qcF tb prB (shN tb prB 60 9) 60 8 [] (d1 cB).dec=some true:=by kernel_rfl
def qhb:PrimD:=prim d0 (d1 cB) fun _=>some true
theorem qpW:OkT 8 qhb:=qdV qx qDe (by kernel_rfl) fun a y hg h=>⟨60,9,60,qk5.trans h⟩
def qvc:qq:=jb [(8,qhb),(53,qfI)] qu4
theorem qhc:PkT qvc:=qo qpU (qe qpW (qe qk4 qw))
end
end Su
end
section
namespace Su
noncomputable section
open Go Go.Proofs Fly
set_option maxRecDepth 100000
def qvd:PrimD:=prim (dc jC (d1 jC)) (d1 (cI .u64)) (qsD)
theorem qDf:OkT 76 qvd:=jz qx qhc (fun fu a=>qxK fu a.1 a.2) (by kernel_rfl) (fun _ _=>by kernel_rfl) qxL
def qve:qq:=jb [(76,qvd)] qvc
theorem qhd:PkT qve:=qo qhc (qe qDf qw)
end
end Su
end
section
namespace Su
noncomputable section
open Go Go.Proofs Fly
set_option maxRecDepth 100000
def qvf:PrimD:=prim (dc jC (d1 jC)) (d1 jC) (qfa)
theorem qDg:OkT 30 qvf:=jz qx qhd (fun fu a=>qxM fu a.1 a.2) (by kernel_rfl) (fun _ _=>by kernel_rfl) qxN
def qmx:qq:=jb [(30,qvf)] qve
theorem qhe:PkT qmx:=qo qhd (qe qDg qw)
end
end Su
end
section
namespace Su
noncomputable section
open Go Go.Proofs Fly
set_option maxRecDepth 100000
theorem qzg(fu:Nat)(L:(List Tm))(a:Int)(b:Int)(n:Int)(u:Unit):qfC tb qmx qy2 fu 9 179 58 ((dc (cI .i64) (dc (cI .i64) (dc (cI .i64) (d1 (cF 79))))).enc (a,b,n,u)) (L.map vT) some=qBU fu L a b n u:=by kernel_rfl
theorem qDh:JN Tryz.prog tb QN.sound 179 (qar 58 (dc (cI .i64) (dc (cI .i64) (dc (cI .i64) (d1 (cF 79))))) YL):=qaj qx qhe qiU (by kernel_rfl) fun L a y hl hg h=>by
 obtain⟨n,hn⟩:=qxP L a y hl hg h;exact⟨n,9,(qzg n L a.1 a.2.1 a.2.2.1 a.2.2.2).trans hn⟩
def qmy:Wr:=qiV [(179,qar 58 (dc (cI .i64) (dc (cI .i64) (dc (cI .i64) (d1 (cF 79))))) YL)] qy2
theorem qhf:qcc Tryz.prog tb QN.sound qmy:=JO qiU (JP qDh qaW)
def qmz:qq:=jb [] qmx
theorem qhg:PkT qmz:=qo qhe qw
end
end Su
end
section
namespace Su
noncomputable section
open Go Go.Proofs Fly
set_option maxRecDepth 100000
theorem qzh(fu:Nat)(L:(List Tm))(a:Int)(b:Int)(u:Unit):qfC tb qmz qmy fu 9 144 58 ((dc (cI .i64) (dc (cI .i64) (d1 (cF 79)))).enc (a,b,u)) (L.map vT) some=qBW fu L a b u:=by kernel_rfl
theorem qDi:JN Tryz.prog tb QN.sound 144 (qar 58 (dc (cI .i64) (dc (cI .i64) (d1 (cF 79)))) YM):=qaj qx qhg qhf (by kernel_rfl) fun L a y hl hg h=>by
 obtain⟨n,hn⟩:=qxT L a y hl hg h;exact⟨n,9,(qzh n L a.1 a.2.1 a.2.2).trans hn⟩
def qmA:Wr:=qiV [(144,qar 58 (dc (cI .i64) (dc (cI .i64) (d1 (cF 79)))) YM)] qmy
theorem qhh:qcc Tryz.prog tb QN.sound qmA:=JO qhf (JP qDi qaW)
def qmB:qq:=jb [] qmz
theorem qhi:PkT qmB:=qo qhg qw
end
end Su
end
