/-
  A logic of walks. No condition.
-/
import Derived.Test.YtldhknmacepeiaaGreatDoorTrTb
set_option linter.unusedVariables false
set_option linter.unusedSimpArgs false
section
namespace Fly
open Go
section
variable {P:Program} {n:Nat} {X:Cx} {L:Lo} {V:qc} {G:Own} {K:List KI} {Q:Value→qc→Own→Prop} {all:Array Oper} {ops:List Oper}
variable {ty:TypeId} {pos:String} {af:Array Edge} {gd:Option (Nat×Bool)} {ds:Option Tmp}
theorem yj(T:Tabs P){t e k m m':Nat}{x y:Operand}{v u:Value}{Gr G1:Own}{xs news:List Value}(hx:ev L x=some v)(hy:ev L y=some u)(hE:T.el t=some (e,k))(hk:0<k)(hb:P.bytesOf e≤256){z:List Value}(hz:T.ze e=some z)(hzl:z.length=k)
 (hS:Sl k V u news) (hl:news.length=m'*k) (h1:news.all (·.oneCell')=true) (hR:Row e k v Gr m xs) (hp:G.Perm (Gr++G1)) (hmm:m+m'≤549755813888)
 (k':∀v' Gr',Row e k v' Gr' (m+m') (xs++news)→Q v' V (Gr'++G1)):Opr P n X L V G ⟨ds,.call { callee:=.builtin .append,args:=#[x,y],argTypes:=#[t,t] },ty,pos,af,gd⟩ Q:=fun a ha w hw=>by
 obtain⟨hu,g,hT⟩:=yZ (T.el_ok _ _ hE)
 have hq:=hw.perm hp;obtain⟨a0,len,c2,rfl,hlc,hcm,hll,hS⟩:=hS;obtain rfl:m'=len:=Nat.eq_of_mul_eq_mul_right hk (hl.symm.trans hll)
 have hze:=T.ze_ok _ _ hz;unfold Ze at hze;split at hze
 · rename_i i hi
   cases hz0:i.zero with
   | none=>simp[hz0]at hze
   | some zv=>
   simp only[hz0,VQ,za]at hze;have hzs:zv.cells.size=k:=by rw[← hzl,← hze];simp
   have hsz:i.size=k:=by have:=(jK hT w).2.2;simpa[hi]using this
   have hby:i.bytes≤256:=by simpa[Program.bytesOf,hi]using hb
   have hmul:∀q,q≤549755813888→q*i.bytes≤140737488355328:=fun q hq=>by
    have:q*i.bytes≤549755813888*256:=Vu hq hby
    omega
   have fin:∀(v':Value) (w':World) (Gr':Own),(Builtin.append_ #[t,t] ty #[v,.slice a0 m' c2]).run P w = .ok v' w'→Row e k v' Gr' (m+m') (xs++news)→Holds X V (Gr'++G1) w' →
    ∃v w'' V' G',((execOp a.eval ⟨ds,.call { callee:=.builtin .append,args:=#[x,y],argTypes:=#[t,t] },ty,pos,af,gd⟩).run P w = .ok (.value v) w''∨((execOp a.eval ⟨ds,.call { callee:=.builtin .append,args:=#[x,y],argTypes:=#[t,t] },ty,pos,af,gd⟩).run P w = .ok .skip w''∧v=undef))∧Q v V' G'∧Holds X V' G' w'' :=
    fun v' w' Gr' hr hR' hh=>⟨v',w',V,_,.inl (by simp[execOp,resolve,invoke,builtin,ha.ev hx,ha.ev hy,hr]),k' v' Gr' hR',hh⟩
   refine .inl ?_
   by_cases hz':m'=0
   · subst hz'
     have hn:news=[]:=Va (by simpa using hl)
     subst hn;have hs0:Src P i.size t (.slice a0 0 c2) 0 [] w:=by
      cases a0 with
      | none=>exact Src.ofNil w hu c2
      | some a1=>exact Src.ofSlice w hu a1 0 c2 [] (by simp) (by simp) (by simp)
     cases hR with
     | nil=>
      have hr:=run_append_nothing (P:=P) w t t ty e i hu hi none 0 0 (zI _) (.slice a0 0 c2) hs0
      exact fin _ _ [] hr (by simpa using(Row.nil (e:=e) (k:=k))) hq
     | @some g m cap cur xs hm hc hs ht=>
      have hr:=run_append_nothing (P:=P) w t t ty e i hu hi (Option.some ⟨g,0,none⟩) m cap hm (.slice a0 0 c2) hs0
      exact fin _ _ _ hr (by simpa using(Row.some (g:=g) hm hc hs ht)) hq
   obtain⟨b2,off,rfl,hrd⟩:=hS.resolve_left hz';have hm':0<m':=by omega
   have hcell:∀j u,news[j]?=some u→w.cell? ((⟨b2,off,none⟩:Addr).add j)=some u:=fun j u hj=>by
    obtain⟨arr,e9,fr9,q1,q2⟩:=hrd j u hj;rw[j8,yv (hw.view _ _ q1)];exact q2
   cases hR with
   | nil=>
    have hr:=run_append_nil (P:=P) w t ty e i zv hu hi hz0 ⟨b2,off,none⟩ m' c2 news (by rw[hsz];exact hl) hcell hm' (by omega) (by have:=hmul m' (by omega);omega)
    have hge:=grownCap_ge w m' 0 e
    have hrow:Row e k (.slice (some ⟨w.heap.size,0,none⟩) m' (grownCap w m' 0 e)) [(w.heap.size,.cells (news.toArray++Builtin.zeroCells zv.cells (grownCap w m' 0 e-m')) e (0,0))] m' news:=by
     refine .some (by omega) (grownCap_le_maxLen w m' 0 e (by unfold maxLen;omega)) ?_ ?_
     · simp only[VL,Ky,size_zeroCells,hzs,hl,← zR]
       congr 1;omega
     · simp only[VB,← hl]
       exact K4
    exact fin _ _ _ hr (by simpa using hrow) ((hq.drew).alloc _)
   | @some g m cap cur xs hm hc hs ht=>
    have hrl:=(Row.some (e:=e) (g:=g) hm hc hs ht).len
    have hg:w.heap[g]?=some (.cells cur e (0,0)):=hq.own (g,.cells cur e (0,0)) (by simp)
    by_cases hroom:m+m'≤cap
    · have hfit:m*k+news.length≤cur.size:=by rw[hl,hs,← zR];exact zG _ hroom
      have hr:=run_append_room (P:=P) w t ty e i hu hi g m cap cur hg ⟨b2,off,none⟩ m' c2 news (by rw[hsz];exact hl) hcell (by simpa using h1) hroom (by rw[hsz];exact hfit)
      rw[hsz,YO w g cur _ e hg]at hr;refine fin _ _ _ hr (.some (g:=g) (cur:=(cur.toList.take (m*k)++news++cur.toList.drop (m*k+news.length)).toArray) hroom hc ?_ ?_) (hq.upd .here)
      · simp only[Ky,zb,Ka,KA,Ks]
        omega
      · simp only[]
        rw[ht];have:(xs++news).length=(m+m')*k:=by rw[zb,hrl,hl,zR]
        rw[← this,K4]
    · have hlt:cap<m+m':=by omega
      have hold:∀j u,xs[j]?=some u→w.cell? ((⟨g,0,none⟩:Addr).add j)=some u:=fun j u hj=>by
       rw[j8,yv hg,zt];rw[← ht,zZ]at hj;split at hj
       · simpa using hj
       · cases hj
      have hr:=run_append_grow (P:=P) w t ty e i zv hu hi hz0 ⟨g,0,none⟩ m cap xs (by rw[hsz];exact hrl) hold ⟨b2,off,none⟩ m' c2 news (by rw[hsz];exact hl) hcell hlt (by omega) (growslice_fits hlt (hmul _ (by omega)))
      have hge:=grownCap_ge w (m+m') cap e
      have hrow:Row e k (.slice (some ⟨w.heap.size,0,none⟩) (m+m') (grownCap w (m+m') cap e)) [(w.heap.size,.cells (xs.toArray++news.toArray++Builtin.zeroCells zv.cells (grownCap w (m+m') cap e-(m+m'))) e (0,0))] (m+m') (xs++news):=by
       refine .some (by omega) (grownCap_le_maxLen w (m+m') cap e (by unfold maxLen;omega)) ?_ ?_
       · simp only[VL,Ky,size_zeroCells,hzs,hl,hrl,← zR]
         congr 1;omega
       · have:(xs++news).length=(m+m')*k:=by rw[zb,hrl,hl,zR]
         simp only[VB,← this];exact K4
      refine fin _ _ _ hr hrow (((hq.drew).alloc _).sublist ?_)
      simp
 · cases hze
end
theorem Row.frozen{e:TypeId}{v:Value}{Gr:Own}{m:Nat}{xs:List Value}(h:Row e 1 v Gr m xs):(v = .slice none 0 0∧Gr=[]∧xs=[])∨∃g o,Gr=[(g,o)]∧∀V:qc,Sl 1 (addV V g o) v xs:=by
 rcases h.parts with⟨h1,h2,_,h4⟩|⟨g,cap,cur,h1,h2,h3,h4,h5,h6⟩
 · exact .inl ⟨h1,h2,h4⟩
 · refine .inr ⟨g,_,h2,fun V=>?_⟩
   have hl:=h.len;refine⟨_,m,cap,h1,h3,h4,hl,.inr ⟨g,0,rfl,fun i c hi=>?_⟩⟩
   refine⟨cur,e,(0,0),addV_same ..,?_⟩
   rw[← h6,zZ]at hi;rw[zt];split at hi
   · simpa using hi
   · cases hi
end Fly
end
section
namespace Fly
open Go
section
variable {P:Program} {n:Nat} {X:Cx} {L:Lo} {V:qc} {G:Own} {K:List KI}
abbrev Cut(n:Nat)(X:Cx)(I:Lo→qc→Own→Prop):Act→World→Prop:=fun a w=>∃L2 V2 G2,I L2 V2 G2∧Knows n L2 a∧Holds X V2 G2 w
theorem qe6{y:Code}(I:Lo→qc→Own→Prop)(h2:∀L2 V2 G2,I L2 V2 G2→WC P n X L2 V2 G2 y K):∀(e:Exit) (a:Act) (w:World),Qp P X.R (.lp (Cut n X I)::K) e a w→Qp P X.R (.code y::K) e a w:=fun e a w q=>by
 cases e with
 | normal=>obtain⟨L2,V2,G2,hI,hk,hh⟩:=q;exact h2 _ _ _ hI a w hk hh
 | _=>exact q
theorem qk2{x y:Code}(I:Lo→qc→Own→Prop)(h1:WC P n X L V G x (.lp (Cut n X I)::K))(h2:∀L2 V2 G2,I L2 V2 G2→WC P n X L2 V2 G2 y K):WC P n X L V G x (.code y::K) :=
 fun a w ha hw=>Code.wp_mono (fun e a w q=>qe6 I h2 e a w q) (h1 a w ha hw)
theorem qtW{x y:Code}{id:Nat}(I:Lo→qc→Own→Prop)(h1:WC P n X L V G x (.blk id::.lp (Cut n X I)::K))(h2:∀L2 V2 G2,I L2 V2 G2→WC P n X L2 V2 G2 y K):WC P n X L V G x (.blk id::.code y::K) :=
 fun a w ha hw=>Code.wp_mono (fun e a w q=>by
  cases e with
  | normal=>exact qe6 I h2 .normal a w q
  | exit id'=>
   simp only[Qp]at q ⊢;split at q
   · rename_i he;rw[z6 he];exact qe6 I h2 .normal a w q
   · rename_i he;rw[zQ he];exact q
  | _=>exact q) (h1 a w ha hw)
theorem YK{I:Lo→qc→Own→Prop}{L2:Lo}{G2:Own}(hL:SubL L2 L)(hG:G2.Sublist G)(hI:I L2 V G2):WE P n X L V G .normal (.lp (Cut n X I)::K) :=
 qlq fun _ _ ha hw=>⟨L2,V,G2,hI,ha.sub hL,hw.sublist hG⟩
theorem qb2{c:Operand}{x y:Code}{p:Prop}[Decidable p](hc:ev L c=some (.bool (decide p)))(hp:p)(h:WC P n X L V G x K):WC P n X L V G (.cond c x y) K:=qE (by rw[hc,zh hp]) h
theorem Yg{c:Operand}{x y:Code}{p:Prop}[Decidable p](hc:ev L c=some (.bool (decide p)))(hp : ¬p)(h:WC P n X L V G y K):WC P n X L V G (.cond c x y) K:=qz (by rw[hc,zq hp]) h
end
end Fly
end
section
namespace Fly
open Go Go.Proofs Su
set_option maxRecDepth 10000
attribute [local irreducible] WC WE WR Opr St Go.Calls Qy Qf ji Rel jk Qe yR Owe One Qg Go.CallsD
section
variable {P:Program} {n:Nat} {X:Cx} {L:Lo} {V:qc} {G:Own} {Q:Value→qc→Own→Prop} {ty:TypeId} {pos:String} {af:Array Edge} {gd:Option (Nat×Bool)} {ds:Option Tmp} {t u:TypeId} {x y:Operand}
theorem qdM{κ:IntKind}{p q:Int}(hx:ev L x=some (.int κ p))(hy:ev L y=some (.int κ q))(h:q≤p)(k:Q (.bool true) V G):Opr P n X L V G ⟨ds,.binOp .geq t x y u,ty,pos,af,gd⟩ Q:=qke hx hy (by rw[zh h];exact k)
theorem qhT{κ:IntKind}{p q:Int}(hx:ev L x=some (.int κ p))(hy:ev L y=some (.int κ q))(h : ¬q≤p)(k:Q (.bool false) V G):Opr P n X L V G ⟨ds,.binOp .geq t x y u,ty,pos,af,gd⟩ Q:=qke hx hy (by rw[zq h];exact k)
theorem qmg{κ:IntKind}{p q:Int}(hx:ev L x=some (.int κ p))(hy:ev L y=some (.int κ q))(h:p≤q)(k:Q (.bool true) V G):Opr P n X L V G ⟨ds,.binOp .leq t x y u,ty,pos,af,gd⟩ Q:=JA hx hy (by rw[zh h];exact k)
theorem qmh{κ:IntKind}{p q:Int}(hx:ev L x=some (.int κ p))(hy:ev L y=some (.int κ q))(h : ¬p≤q)(k:Q (.bool false) V G):Opr P n X L V G ⟨ds,.binOp .leq t x y u,ty,pos,af,gd⟩ Q:=JA hx hy (by rw[zq h];exact k)
theorem qdN{κ:IntKind}{p q:Int}(hx:ev L x=some (.int κ p))(hy:ev L y=some (.int κ q))(h:p=q)(k:Q (.bool true) V G):Opr P n X L V G ⟨ds,.binOp .eql t x y u,ty,pos,af,gd⟩ Q:=jI hx hy (by rw[zh h];exact k)
theorem jH{p q:List UInt8}(hx:ev L x=some (.string (bs p)))(hy:ev L y=some (.string (bs q)))(h:p.length+q.length≤9223372036854775807)(k:Q (.string (bs (p++q))) V G):Opr P n X L V G ⟨ds,.binOp .add t x y u,ty,pos,af,gd⟩ Q :=
 qhw hx hy (by rw[jB,jB];exact h) (by rw[QY];exact k)
end
def PrV(l:qV)(F:List Int)(V:qc)(sf st:Value):Prop:=Sl 1 V sf (F.map fun f=>Value.int .u64 f)∧Sl 1 V st (F.map fun f=>Value.string (bs (l.flt f)))
theorem PrV.mono{l:qV}{F:List Int}{V V':qc}{sf st:Value}(h:PrV l F V sf st)(hs:Sub V V'):PrV l F V' sf st:=⟨h.1.mono hs,h.2.mono hs⟩
def DgV(l:qV)(V:qc):Prop:=∀n:Int,inR .i64 n=true→ji Tryz.prog 90 [.int .i64 n] V (.string (bs (l.itoa n)))
theorem cFlo{l:qV}{F:List Int}{V:qc}{sf st:Value}(hP:PrV l F V sf st){f:Int}(hf:f∈F):ji Tryz.prog 91 [.agg [sf,st].toArray,.int .u64 f] V (.string (bs (l.flt f))):=by
 obtain⟨h1,h2⟩:=hP;obtain⟨m,hmm⟩:∃m,m=F.length:=⟨_,rfl⟩
 refine qT Tryz.func91 rfl Tryz.ntmps91 rfl ?_;intro X w hM hw hV0 hR;dsimp only[qZ,Nat.zero_add,Nat.reduceAdd]
 (repeat'(first|refine qq ?_|refine qa ?_|refine qo ?_|refine qe ?_|refine qt ?_|(refine qn rfl ?_;first|refine qd rfl ?_|(refine qJ rfl ?_;intro b))))
 refine jC (fun L' V' G' μ=>∃i:Nat,i≤m∧μ=m-i∧V'=V∧(∀j,j<i→F[j]?≠some f)∧G'=[(b,.cells [sf,st].toArray 72 (0,0))]∧L'=[(5,.int .i64 i),(4,.string (bs [])),(2,.pointer (some ⟨b,0,none⟩)),(1,.int .u64 f)]) (m0:=m) (by repeat(first|exact .nil|refine .cons rfl ?_)) (zJ _) ⟨0,by omega,by omega,rfl,(fun j hj=>by omega),rfl,rfl⟩ ?_
 rintro L' V' G' μ ⟨i,hi,hμ,hVe,hno,hGe,hLe⟩
 subst hVe hGe hLe
 by_cases hlt:i<m
 · obtain⟨g,hg⟩:∃g,F[i]?=some g:=⟨F[i]'(by omega),zA (by omega)⟩
   obtain⟨a1,l1,q1,rfl,b1,b2,b3,b4⟩:=h1;obtain⟨a2,l2,q2,rfl,d1,d2,d3,d4⟩:=h2;simp only[zV,KK]at b3 d3;obtain⟨x1,o1,rfl,r1⟩:=b4.resolve_left (by omega)
   obtain⟨x2,o2,rfl,r2⟩:=d4.resolve_left (by omega)
   have e1:=r1 i (.int .u64 g) (by simp[hg])
   have e2:=r2 i (.string (bs (l.flt g))) (by simp[hg])
   rw[← KK i]at e1 e2;have hbig:m≤9223372036854775807:=by unfold maxLen at b2;omega
   by_cases he:g=f
   · subst he
     (repeat'(first|refine qq ?_|refine qa ?_|refine qo ?_|refine qe ?_|refine qt ?_|refine qF ?_|refine qO ?_|((first|refine qn rfl ?_|refine Qa rfl rfl rfl ?_);(first|refine Qr rfl rfl (by omega) ?_|refine qdN rfl rfl rfl ?_|refine qB tb rfl rfl rfl (by omega) (by omega) ?_|refine ym tb rfl rfl e1 ?_|refine ym tb rfl rfl e2 ?_|refine qh rfl ?_|refine qd rfl ?_|refine qY rfl rfl ?_|refine qb tb rfl rfl ?_|refine jP tb rfl rfl rfl ?_|(apply qp tb rfl rfl;(·exact At.own .here);(·exact rfl))))|refine qE rfl ?_))
     (refine qR hM hw hV0 hR (jU rfl rfl) ?_)
     rfl
   · (repeat'(first|refine qq ?_|refine qa ?_|refine qo ?_|refine qe ?_|refine qt ?_|refine qF ?_|refine qS ?_|((first|refine qn rfl ?_|refine Qa rfl rfl rfl ?_);(first|refine Qr rfl rfl (by omega) ?_|refine qaq rfl rfl he ?_|refine qB tb rfl rfl rfl (by omega) (by omega) ?_|refine ym tb rfl rfl e1 ?_|refine qh rfl ?_|refine qd rfl ?_|refine qY rfl rfl ?_|refine jf rfl rfl (by omega) (by omega) ?_|refine qb tb rfl rfl ?_|refine jP tb rfl rfl rfl ?_|(apply qp tb rfl rfl;(·exact At.own .here);(·exact rfl))))|refine qE rfl ?_|refine qz rfl ?_))
     refine jb (by repeat(first|exact .nil|refine .cons rfl ?_)) (zJ _) ⟨i+1,by omega,rfl,rfl,fun j hj=>?_,rfl,rfl⟩ (by omega)
     by_cases hji:j=i
     · subst hji;rw[hg];intro h;exact he (KV h)
     · exact hno j (by omega)
 · exfalso
   obtain⟨j,hj,hj2⟩:=List.getElem_of_mem hf;exact hno j (by omega) (by rw[zA hj,hj2])
def T41(l:qV)(F:List Int)(V:qc)(sf st:Value)(x:Ex):Prop:=∀ {cx:List Value},Ex.Is V x cx→(∀f,f∈QP x→f∈F)→qe0 x→(jJ l x).length≤549755813888→ji Tryz.prog 41 [.agg [sf,st].toArray,.agg cx.toArray] V (.string (bs (jJ l x)))
section
variable {l:qV} {F:List Int} {V:qc} {sf st:Value} {op p:Int} {bo:Bool} {i f:Int} {nm:ByteArray} {es:Exs} {cx:List Value}
set_option maxHeartbeats 2000000 in
theorem qwS(hk:∀x∈es.list,T41 l F V sf st x)(hfl:∀f,f∈floEs es→f∈F)(hrg:RngEs es)(hE:Ex.Is V (.mk op p bo i f nm es) cx)(j:Nat)(hj:j≤1)(hl:(Jh (textEs l es) j).length≤549755813888) :
 ji Tryz.prog 92 [.agg [sf,st].toArray,.agg cx.toArray,.int .i64 j] V (.string (bs (Jh (textEs l es) j))):=by
 simp only[Ex.Is]at hE;obtain⟨sx,ex,rfl,hsx,has⟩:=hE;have hp:=Exs.parts has;cases hx1:es.list[j]? with
 | none=>
  have hlen:es.list.length≤j:=VS.1 hx1
  rw[JT hx1];refine qT Tryz.func92 rfl Tryz.ntmps92 rfl ?_;intro X w hM hw hV0 hR;dsimp only[qZ,Nat.zero_add,Nat.reduceAdd]
  (repeat'(first|refine qq ?_|refine qa ?_|refine qo ?_|refine qe ?_|refine qO ?_|(refine qn rfl ?_;first|refine qX tb rfl hsx rfl rfl hp.1 (by decide) ?_|refine qdM rfl rfl (by omega) ?_|refine qh rfl ?_|refine qd rfl ?_|refine qb tb rfl rfl ?_|(apply qp tb rfl rfl;(·exact At.own .here);(·exact rfl))|(refine qJ rfl ?_;intro b))|refine qE rfl ?_))
  (refine qR hM hw hV0 hR (jU rfl rfl) ?_)
  rfl
 | some x=>
  have hlen:j<es.list.length:=(zu.1 hx1).1
  rw[QL hx1]at hl ⊢;obtain⟨ax,lx,qx,rfl,hq1,hq2,hlx,hpx⟩:=hsx;have hxl:=hp.1;have hlx':lx=es.list.length:=by omega
  have hbig:lx≤9223372036854775807:=by unfold maxLen at hq2;omega
  obtain⟨bx,ox,rfl,hrx⟩:=hpx.resolve_left (by omega)
  obtain⟨c,hc1,⟨y,hy1,hc2⟩,hc3⟩:=hp.rd hrx (i:=j) (by omega)
  obtain rfl:y=x:=KV (hy1.symm.trans hx1)
  have hm:=zO hx1
  have k:=hk y hm hc2 (fun f h=>hfl f (qe3 hm h)) (qe1 hm hrg) hl
  refine qT Tryz.func92 rfl Tryz.ntmps92 rfl ?_;intro X w hM hw hV0 hR;dsimp only[qZ,Nat.zero_add,Nat.reduceAdd]
  (repeat'(first|refine qq ?_|refine qa ?_|refine qo ?_|refine qe ?_|refine qF ?_|(refine qn rfl ?_;first|refine qhT rfl rfl (by omega) ?_|refine qh rfl ?_|refine qd rfl ?_|refine qb tb rfl rfl ?_|refine jP tb rfl rfl rfl ?_|(apply qp tb rfl rfl;(·exact At.own .here);(·exact rfl))|(refine qJ rfl ?_;intro b))|refine qz rfl ?_))
  refine jo (ms:=[0,0,2,0,14,30,63,127]) 7 mo (by kernel_rfl) (by kernel_rfl) rfl ?_
  repeat (apply Prog.step (Q9 _) (jg _) rfl rfl;(·(intro V1 F1 hs1;(repeat(first|refine jt ?_|refine js ?_));refine qW ?_;(first|refine jw tb rfl rfl hc1 (by decide) hc3 (by assumption) ?_|(apply qp tb rfl rfl;(·exact At.own (.app .here));(·exact rfl))|(apply qK tb rfl rfl;(·(refine At.own (Has.app ?_);repeat(first|exact .here|refine .there ?_)));(·exact rfl))|refine qb tb rfl rfl ?_|refine qh rfl ?_|refine qB tb rfl rfl rfl (by omega) (by omega) ?_|refine qA tb rfl rfl (k.mono (by assumption)) ?_);exact Qc));simp only[zy,zD])
  refine Prog.done ?_;intro V1 hs1;repeat(first|refine jp ?_|refine jr ?_)
  (repeat'(first|refine qo ?_|refine qe ?_|refine qO ?_|((refine qn rfl ?_);(refine qd rfl ?_))))
  (refine qR hM hw hV0 hR (jU rfl rfl) ?_)
  rfl
set_option maxHeartbeats 2000000 in
theorem qyB(hk:∀x∈es.list,T41 l F V sf st x)(hfl:∀f,f∈floEs es→f∈F)(hrg:RngEs es)(hE:Ex.Is V (.mk op p bo i f nm es) cx)(j:Nat)(hj:j≤1)(hl:(j0 (textEs l es) j).length≤549755813888) :
 ji Tryz.prog 89 [.agg [sf,st].toArray,.agg cx.toArray,.int .i64 j] V (.string (bs (j0 (textEs l es) j))):=by
 have hE0:=hE;simp only[Ex.Is]at hE;obtain⟨sx,ex,rfl,hsx,has⟩:=hE;have hp:=Exs.parts has;cases hx1:es.list[j]? with
 | none=>
  have hlen:es.list.length≤j:=VS.1 hx1
  rw[qbg hx1];have ka:=qwS hk hfl hrg hE0 j hj (by rw[JT hx1];exact Wv _)
  rw[JT hx1]at ka;refine qT Tryz.func89 rfl Tryz.ntmps89 rfl ?_;intro X w hM hw hV0 hR;dsimp only[qZ,Nat.zero_add,Nat.reduceAdd]
  (repeat'(first|refine qq ?_|refine qa ?_|refine qo ?_|refine qe ?_|refine qF ?_|refine qO ?_|(refine qn rfl ?_;first|refine qX tb rfl hsx rfl rfl hp.1 (by decide) ?_|refine QD rfl rfl (by omega) ?_|refine qA tb rfl rfl ka ?_|refine qh rfl ?_|refine qd rfl ?_|refine ja rfl rfl ?_|refine qb tb rfl rfl ?_|(apply qp tb rfl rfl;(·exact At.own .here);(·exact rfl))|(apply qK tb rfl rfl;(·(refine At.own (?_);repeat(first|exact .here|refine .there ?_)));(·exact rfl))|(refine qJ rfl ?_;intro b))|refine JI rfl rfl rfl rfl ?_|refine qz rfl ?_))
  (refine qR hM hw hV0 hR (jU rfl rfl) ?_)
  rfl
 | some x=>
  have hlen:j<es.list.length:=(zu.1 hx1).1
  rw[qbf hx1]at hl ⊢;have ka:=qwS hk hfl hrg hE0 j hj (by
   rw[QL hx1];revert hl;split
   · simp only[zb];omega
   · exact id)
  rw[QL hx1]at ka;obtain⟨ax,lx,qx,rfl,hq1,hq2,hlx,hpx⟩:=hsx;have hxl:=hp.1;have hlx':lx=es.list.length:=by omega
  have hbig:lx≤9223372036854775807:=by unfold maxLen at hq2;omega
  obtain⟨bx,ox,rfl,hrx⟩:=hpx.resolve_left (by omega)
  obtain⟨c,hc1,⟨y,hy1,hc2⟩,hc3⟩:=hp.rd hrx (i:=j) (by omega)
  obtain rfl:y=x:=KV (hy1.symm.trans hx1)
  obtain⟨yo,yp,yb,yi,yf,yn,ya⟩:=y;simp only[Ex.Is]at hc2;obtain⟨s1,c1,rfl,g1,h1⟩:=hc2;have r0:=hc3 0 _ rfl
  have eo:opE (.mk yo yp yb yi yf yn ya)=yo:=rfl
  rw[eo]at hl ⊢;have H:(yU yo=true∧5≤yo∧yo≤16)∨(yU yo=false∧¬5≤yo)∨(yU yo=false∧¬yo≤16):=by
   unfold yU;by_cases a:5≤yo <;> by_cases b:yo≤16 <;> simp[a,b]
  rcases H with⟨e,t1⟩|⟨e,t1⟩|⟨e,t1⟩ <;>
   simp only[e,VG,Vs,Vv]at hl ⊢ <;>
   (try simp only[zb,zf,zk]at hl) <;>
   (refine qT Tryz.func89 rfl Tryz.ntmps89 rfl ?_;intro X w hM hw hV0 hR;dsimp only[qZ,Nat.zero_add,Nat.reduceAdd];(repeat'(first|refine qq ?_|refine qa ?_|refine qo ?_|refine qe ?_|refine qF ?_|refine qO ?_|((first|refine qn rfl ?_|refine Qa rfl rfl rfl ?_);(first|refine Qr rfl rfl (by omega) ?_|refine qA tb rfl rfl ka ?_|refine qB tb rfl rfl rfl (by omega) (by omega) ?_|refine ym tb rfl rfl r0 ?_|refine qdM rfl rfl (by omega) ?_|refine qhT rfl rfl (by omega) ?_|refine qmg rfl rfl (by omega) ?_|refine qmh rfl rfl (by omega) ?_|refine jH rfl rfl (by simp only[zb,zf,zk];omega) ?_|refine qh rfl ?_|refine qd rfl ?_|refine qY rfl rfl ?_|refine ja rfl rfl ?_|refine qb tb rfl rfl ?_|refine jP tb rfl rfl rfl ?_|(apply qp tb rfl rfl;(·exact At.own .here);(·exact rfl))|(apply qK tb rfl rfl;(·(refine At.own (?_);repeat(first|exact .here|refine .there ?_)));(·exact rfl))|(refine qJ rfl ?_;intro b)))|refine JI rfl rfl rfl rfl ?_|refine qE rfl ?_|refine qz rfl ?_));(refine qR hM hw hV0 hR (jU rfl rfl) ?_);rfl)
end
end Fly
end
section
namespace Fly
open Go Go.Proofs Su
set_option maxRecDepth 10000
attribute [local irreducible] WC WE WR Opr St Go.Calls Qy Qf ji Rel jk Qe yR Owe One Qg Go.CallsD
def qqo:List Value:=[.string ⟨#[43]⟩,.string ⟨#[45]⟩,.string ⟨#[42]⟩,.string ⟨#[47]⟩,.string ⟨#[60]⟩,.string ⟨#[60,61]⟩,.string ⟨#[61,61]⟩,.string ⟨#[33,61]⟩,.string ⟨#[62]⟩,.string ⟨#[62,61]⟩,.string ⟨#[38,38]⟩,.string ⟨#[124,124]⟩]
theorem qnZ{o:Int}(h1:5≤o)(h2:o≤16):qqo[0+(o-5).toNat*1]?=some (.string (bs (ZC o))):=by
 have:o=5∨o=6∨o=7∨o=8∨o=9∨o=10∨o=11∨o=12∨o=13∨o=14∨o=15∨o=16:=by omega
 rcases this with rfl|rfl|rfl|rfl|rfl|rfl|rfl|rfl|rfl|rfl|rfl|rfl <;> rfl
section
variable {l:qV} {F:List Int} {V:qc} {sf st:Value} {op p:Int} {bo:Bool} {i f:Int} {nm:ByteArray} {es:Exs} {cx:List Value}
set_option maxHeartbeats 4000000 in
theorem c41b(hP:PrV l F V sf st)(hD:DgV l V)(hk:∀x∈es.list,T41 l F V sf st x):T41 l F V sf st (.mk op p bo i f nm es):=by
 intro cx hE hfl hrg hl;have hE0:=hE;simp only[Ex.Is]at hE;obtain⟨sx,ex,rfl,hsx,has⟩:=hE;have hp:=Exs.parts has;simp only[qe0]at hrg;obtain⟨⟨ri,rf⟩,hrg⟩:=hrg;have hfl2:∀f,f∈floEs es→f∈F:=fun f h=>hfl f (by simp only[QP,zS];exact .inr h)
 have kS:=fun j hj hl=>qyB (nm:=nm) hk hfl2 hrg hE0 j hj hl
 have kA:=fun j hj hl=>qwS (nm:=nm) hk hfl2 hrg hE0 j hj hl
 by_cases h2:yU op=true
 · have ht:jJ l (.mk op p bo i f nm es)=j0 (textEs l es) 0++([32]++ZC op++[32])++j0 (textEs l es) 1:=by simp only[jJ,h2,VG]
   rw[ht]at hl ⊢;simp only[zb,zf,zk]at hl;obtain⟨h5,h16⟩:5≤op∧op≤16:=by simpa[yU]using h2
   have k0:=kS 0 (by omega) (by omega)
   have k1:=kS 1 (by omega) (by omega)
   have hsg:=qnZ h5 h16;have hsl:=qjp op;refine qT Tryz.func41 rfl Tryz.ntmps41 rfl ?_;intro X w hM hw hV0 hR;dsimp only[qZ,Nat.zero_add,Nat.reduceAdd]
   (repeat'(first|refine qq ?_|refine qa ?_|refine qo ?_|refine qe ?_|((first|refine qn rfl ?_|refine Qa rfl rfl rfl ?_);(first|refine qdM rfl rfl h5 ?_|refine qmg rfl rfl h16 ?_|refine qh rfl ?_|refine qd rfl ?_|refine qY rfl rfl ?_|refine qb tb rfl rfl ?_|(apply qp tb rfl rfl;(·(refine At.own (?_);repeat(first|exact .here|refine .there ?_)));(·exact rfl))|(refine qJ rfl ?_;intro b)|(apply yh tb;(·exact rfl);(·exact rfl);(·exact rfl);(·decide);(·(repeat(first|exact .nil|(apply Cat.cons;(·exact rfl);(·exact rfl);(·exact rfl))|exact .nil|apply App.cons)));intro b)))|refine qE rfl ?_))
   refine jo (ms:=[0,0,3,7,0,0,32,96,240,496,1023,2047,0,0,12295,32767,65535]) 16 mo (by kernel_rfl) (by kernel_rfl) rfl ?_
   repeat (apply Prog.step (Q9 _) (jg _) rfl rfl;(·(intro V1 F1 hs1;(repeat(first|refine jt ?_|refine js ?_));refine qW ?_;(first|(apply qp (l:=qqo) tb rfl rfl;(·(refine At.own (Has.app ?_);repeat(first|exact .here|refine .there ?_)));(·exact hsg))|(apply qp tb rfl rfl;(·(refine At.own (Has.app ?_);repeat(first|exact .here|refine .there ?_)));(·exact rfl))|(apply qK tb rfl rfl;(·(refine At.own (Has.app ?_);repeat(first|exact .here|refine .there ?_)));(·exact rfl))|refine qA tb rfl rfl (k0.mono (by assumption)) ?_|refine qA tb rfl rfl (k1.mono (by assumption)) ?_|refine jH rfl rfl (by(try simp only[zb,zf,zk]);omega) ?_|refine qh rfl ?_|refine qb tb rfl rfl ?_|refine qiO rfl rfl (by omega) (by omega) ?_|refine qB tb rfl rfl rfl (by omega) (by omega) ?_);exact Qc));simp only[zy,zD])
   refine Prog.done ?_;intro V1 hs1;repeat(first|refine jp ?_|refine jr ?_)
   (repeat'(first|refine qo ?_|refine qe ?_|refine qO ?_|((refine qn rfl ?_);(refine qd rfl ?_))))
   (refine qR hM hw hV0 hR (jU rfl rfl) ?_)
   simp only[zw]
 have h2':yU op=false:=by cases h:yU op with|true=>exact absurd h h2|false=>rfl
 have ht:jJ l (.mk op p bo i f nm es)=if op=1 then(if bo then[116,114,117,101]else[102,97,108,115,101])
  else if op=2 then l.itoa i
  else if op=3 then l.flt f
  else if op=4 then qgr nm.data.toList (textEs l es)
  else if op=17 then[45]++j0 (textEs l es) 0
  else if op=18 then[33]++j0 (textEs l es) 0
  else if op=19 then[105,110,116,40]++Jh (textEs l es) 0++[41]
  else if op=20 then[102,108,111,97,116,40]++Jh (textEs l es) 0++[41]
  else if op=21 then[97,98,115,40]++Jh (textEs l es) 0++[41]
  else[]:=by simp only[jJ,h2',Vs,Vv]
 rw[ht]at hl ⊢;clear ht;obtain⟨nl,rfl⟩:∃nl,nm=bs nl:=⟨lb nm,(qdd nm).symm⟩
 have en:(bs nl).data.toList=nl:=rfl
 unfold qgr at hl ⊢
 rw[Ji,en]at hl ⊢;have kF:=fun(o:op=3)=>cFlo hP (f:=f) (hfl f (by simp[QP,o]))
 have kD:=hD i (qgy ri)
 obtain⟨q1,q2⟩:=r32 ri;have H:(op=1∧bo=true)∨(op=1∧bo=false)∨op=2∨op=3∨(op=4∧es.list.length=0)∨(op=4∧¬es.list.length=0)∨op=17∨op=18∨op=19∨op=20∨op=21∨(op≠1∧op≠2∧op≠3∧op≠4∧op≠17∧op≠18∧op≠19∧op≠20∧op≠21):=by
  cases bo <;> simp only[eq_self,reduceCtorEq,and_true,and_false,false_or] <;> omega
 have h5 : ¬5≤op∨¬op≤16:=by
  by_cases h:5≤op
  · right;exact fun h3=>h2 (by simp[yU,h,h3])
  · exact .inl h
 clear h2 h2';rcases H with⟨rfl,rfl⟩|⟨rfl,rfl⟩|rfl|rfl|⟨rfl,h0⟩|⟨rfl,h0⟩|rfl|rfl|rfl|rfl|rfl|⟨o1,o2,o3,o4,o17,o18,o19,o20,o21⟩ <;> rcases h5 with h5|h5 <;>
  (first|(exfalso;omega)|rw[zQ o1,zQ o2,zQ o3,zQ o4,zQ o17,zQ o18,zQ o19,zQ o20,zQ o21]at hl ⊢|simp only[Int.reduceEq,Vs,eq_self,VG,Vv,h0]at hl ⊢|simp only[Int.reduceEq,Vs,eq_self,VG,Vv]at hl ⊢)
 all_goals (try simp only[zb,zf,zk]at hl)
 all_goals (refine qT Tryz.func41 rfl Tryz.ntmps41 rfl ?_;intro X w hM hw hV0 hR;dsimp only[qZ,Nat.zero_add,Nat.reduceAdd];(repeat'(first|refine qq ?_|refine qa ?_|refine qo ?_|refine qe ?_|refine qt ?_|refine qF ?_|refine qS ?_|refine qO ?_|((first|refine qn rfl ?_|refine Qa rfl rfl rfl ?_);(first|refine qdM rfl rfl (by omega) ?_|refine qhT rfl rfl (by omega) ?_|refine qmh rfl rfl (by omega) ?_|refine qdN rfl rfl (by omega) ?_|refine qaq rfl rfl (by omega) ?_|refine qar tb rfl rfl rfl (by omega) (by omega) ?_|refine qX tb rfl hsx rfl rfl hp.1 (by decide) ?_|refine qbE rfl rfl (by omega) ?_|refine qbD rfl rfl (by omega) ?_|refine qA tb rfl rfl kD ?_|refine qA tb rfl rfl (kF rfl) ?_|refine qA tb rfl rfl (kS 0 (by omega) (by omega)) ?_|refine qA tb rfl rfl (kA 0 (by omega) (by omega)) ?_|refine jH rfl rfl (by simp only[zb,zf,zk];omega) ?_|refine qh rfl ?_|refine qd rfl ?_|refine qY rfl rfl ?_|refine ja rfl rfl ?_|refine qb tb rfl rfl ?_|(apply qp tb rfl rfl;(·(refine At.own (?_);repeat(first|exact .here|refine .there ?_)));(·exact rfl))|(apply qK tb rfl rfl;(·(refine At.own (?_);repeat(first|exact .here|refine .there ?_)));(·exact rfl))|(refine qJ rfl ?_;intro b)|(apply yh tb;(·exact rfl);(·exact rfl);(·exact rfl);(·decide);(·(repeat(first|exact .nil|(apply Cat.cons;(·exact rfl);(·exact rfl);(·exact rfl))|exact .nil|apply App.cons)));intro b)))|refine JI rfl rfl rfl rfl ?_|refine qE rfl ?_|refine qz rfl ?_)))
 all_goals first
  | ((refine qR hM hw hV0 hR (jU rfl rfl) ?_);rfl)
  | skip
 have k0:=kA 0 (by omega) (by omega)
 refine jo (ms:=[0,1,3,0,0,24,63,127,255]) 8 mo (by kernel_rfl) (by kernel_rfl) rfl ?_
 repeat (apply Prog.step (Q9 _) (jg _) rfl rfl;(·(intro V1 F1 hs1;(repeat(first|refine jt ?_|refine js ?_));refine qW ?_;(first|refine qb tb rfl rfl ?_|(apply qp tb rfl rfl;(·(refine At.own (Has.app ?_);repeat(first|exact .here|refine .there ?_)));(·exact rfl))|(apply qK tb rfl rfl;(·(refine At.own (Has.app ?_);repeat(first|exact .here|refine .there ?_)));(·exact rfl))|refine jH rfl rfl (by(try simp only[zb,zf,zk]);omega) ?_|refine qA tb rfl rfl (k0.mono (by assumption)) ?_);exact Qc));simp only[zy,zD])
 refine Prog.done ?_;intro V1 hs1;repeat(first|refine jp ?_|refine jr ?_)
 (repeat'(first|refine qo ?_|refine qe ?_|refine qO ?_|((refine qn rfl ?_);(refine qd rfl ?_))))
 (refine qR hM hw hV0 hR (jU rfl rfl) ?_)
 simp only[zw]
end
mutual
theorem c41{l:qV}{F:List Int}{V:qc}{sf st:Value}(hP:PrV l F V sf st)(hD:DgV l V):∀x:Ex,T41 l F V sf st x
 | .mk _ _ _ _ _ _ es=>c41b hP hD (c41l hP hD es)
 termination_by structural x=>x
theorem c41l{l:qV}{F:List Int}{V:qc}{sf st:Value}(hP:PrV l F V sf st)(hD:DgV l V):∀(es:Exs),∀x∈es.list,T41 l F V sf st x
 | .nil,x,hm=>by simp[Exs.list]at hm
 | .cons e r,x,hm=>by
  rcases zK.1 hm with h|h
  · rw[h];exact c41 hP hD e
  · exact c41l hP hD r x h
 termination_by structural es=>es
end
end Fly
end
section
namespace Fly
open Go Go.Proofs Su
set_option maxRecDepth 10000
attribute [local irreducible] WC WE WR Opr St Go.Calls Qy Qf ji Rel jk Qe yR Owe One Qg Go.CallsD
def txS(l:qV)(n:Nat)(es:Sts)(i:Nat):List UInt8:=((es.list.take i).map (yF l n)).flatten
theorem qjs{l:qV}{n:Nat}{es:Sts}{i:Nat}{x:St_}(h:es.list[i]?=some x):txS l n es (i+1)=txS l n es i++yF l n x:=by
 unfold txS;rw[VO,h];simp
theorem qwT(l:qV)(n:Nat)(es:Sts)(i:Nat):(txS l n es i).length≤(textSs l n es).length:=by
 have h:textSs l n es=txS l n es i++((es.list.drop i).map (yF l n)).flatten:=by
  unfold txS;rw[Yz,← Wy,← Kr,Kw]
 rw[h,zb];omega
theorem qtX(l:qV)(n:Nat)(es:Sts){i:Nat}(h:es.list.length≤i):txS l n es i=textSs l n es:=by
 unfold txS;rw[zP h,Yz]
theorem qwU(n:Nat):QO n++[9]=QO (n+1):=by unfold QO;rw[List.replicate_succ']
def T97(l:qV)(F:List Int)(V:qc)(sf st:Value)(es:Sts):Prop:=∀ {sx:Value} {cx:List Value} (n:Nat),n+wSs es≤100000→Sl 15 V sx cx→Sts.Is V es cx→(∀f,f∈floSs es→f∈F)→RngSs es→(textSs l n es).length≤549755813888 →
 ji Tryz.prog 97 [.agg [sf,st].toArray,sx,.string (bs (QO n))] V (.string (bs (textSs l n es)))
def K97(l:qV)(F:List Int)(V:qc)(sf st:Value):St_→Prop
 | .mk _ _ _ _ _ _ _ tn el=>T97 l F V sf st tn∧T97 l F V sf st el
theorem qdO:∀ {es:Sts} {x:St_},x∈es.list→wS x≤wSs es
 | .nil,x,hm=>by simp[Sts.list]at hm
 | .cons e r,x,hm=>by
  rcases zK.1 hm with h|h
  · rw[h];simp only[wSs];omega
  · have:=qdO h;simp only[wSs];omega
set_option maxHeartbeats 16000000 in
theorem qqp{l:qV}{F:List Int}{V:qc}{sf st:Value}{es:Sts}(hP:PrV l F V sf st)(hD:DgV l V)(hk:∀x∈es.list,K97 l F V sf st x):T97 l F V sf st es:=by
 intro sx cx n hn hsx has hfl hrg hl;have hp:=Sts.parts has;have htl:=Yc n;have hle:=qwT l n es;rw[← qtX l n es (zI _)];generalize hm:es.list.length=m at *
 refine qT Tryz.func97 rfl Tryz.ntmps97 rfl ?_;intro X w hM hw hV0 hR;dsimp only[qZ,Nat.zero_add,Nat.reduceAdd]
 (repeat'(first|refine qq ?_|refine qa ?_|refine qo ?_|refine qe ?_|refine qt ?_|(refine qn rfl ?_;first|refine qd rfl ?_|(refine qJ rfl ?_;intro b))))
 refine jC (fun L' V' G' μ=>∃(i:Nat) (T:List UInt8),i≤m∧μ=m-i∧Sub V V'∧T=txS l n es i∧G'=[(b,.cells [sf,st].toArray 72 (0,0))]∧L'=[(8,.int .i64 i),(7,.string (bs T)),(6,.string (bs [])),(3,.pointer (some ⟨b,0,none⟩)),(1,sx),(2,.string (bs (QO n)))]) (m0:=m) (by repeat(first|exact .nil|refine .cons rfl ?_)) (zJ _) ⟨0,[],by omega,by omega,Sub.refl _,rfl,rfl,rfl⟩ ?_
 rintro L' V' G' μ ⟨i,T,hi,hμ,hVs,hT,hGe,hLe⟩
 subst hGe hLe
 by_cases hlt:i<m
 · have hsx0:=hsx
   obtain⟨ax,lx,qx,rfl,hq1,hq2,hlx,hpx⟩:=hsx;have hxl:=hp.1;have hlx':lx=m:=by omega
   subst hlx';have hbig:lx≤9223372036854775807:=by unfold maxLen at hq2;omega
   obtain⟨bx,ox,rfl,hrx⟩:=hpx.resolve_left (by omega)
   obtain⟨c,hc1,⟨x,hx1,hc2⟩,hc3⟩:=hp.rd hrx (i:=i) (by omega)
   have hmem:=zO hx1
   have kids:=hk x hmem;have hrx:=qe2 hmem hrg;have hfx:∀f,f∈ZJ x→f∈F:=fun f h=>hfl f (qe4 hmem h)
   have hwx:=qdO hmem;have hle:=hle (i+1)
   rw[qjs hx1,← hT,zb]at hle;have hfin:∀T',T'=T++yF l n x→T'=txS l n es (i+1):=fun T' h=>by rw[qjs hx1,← hT,h]
   clear hT hk;obtain⟨kd,pt,nm,ix,ex,lo,hi_,tn,el⟩:=x;obtain⟨nl,rfl⟩:∃nl,nm=bs nl:=⟨lb nm,(qdd nm).symm⟩
   have en:(bs nl).data.toList=nl:=rfl
   simp only[wS]at hwx;simp only[qjr]at hrx;obtain⟨ri,re,rlo,rhi,rtn,rel⟩:=hrx;simp only[ZJ,zS]at hfx;obtain⟨lo1,lo2⟩:=r32 rlo;obtain⟨hi1,hi2⟩:=r32 rhi;have dlo:=hD lo (qgy rlo)
   have dhi:=hD hi_ (qgy rhi)
   simp only[St_.Is]at hc2;obtain⟨s1,c1,ce,s2,c2,s3,c3,rfl,g1,h1,he,g2,h2,g3,h3⟩:=hc2;have kE:=fun hl=>c41 hP hD ex he (fun f h=>hfx f (.inl (.inl (.inr h)))) re hl
   have kT:=fun hl=>kids.1 (n+1) (by omega) g2 h2 (fun f h=>hfx f (.inl (.inr h))) rtn hl
   have kL:=fun hl=>kids.2 (n+1) (by omega) g3 h3 (fun f h=>hfx f (.inr h)) rel hl
   rw[← qwU]at kT kL;have hix:=Exs.parts h1;have hel:=Sts.parts h3;obtain⟨a0,a1,a2,a3,a4,a5,a6,a7,a8,rfl⟩:=he.lits;simp only[zD,zy]at hc1 hc3;obtain⟨y1,y2,y3,rfl⟩:=g1.lit;obtain⟨z1,z2,z3,rfl⟩:=g2.lit;obtain⟨x1,x2,x3,rfl⟩:=g3.lit
   (repeat'(first|refine qq ?_|refine qa ?_|refine qo ?_|refine qe ?_|refine qt ?_|refine qF ?_|((first|refine qn rfl ?_|refine jE ?_);(first|refine Qr rfl rfl (by omega) ?_|refine qB tb rfl rfl rfl (by omega) (by omega) ?_|refine jw tb rfl rfl hc1 (by decide) hc3 hVs ?_|refine qh rfl ?_|refine qd rfl ?_|refine jI rfl rfl ?_|refine qb tb rfl rfl ?_|refine jP tb rfl rfl rfl ?_|(apply qp tb rfl rfl;(·exact At.own .here);(·exact rfl))|(apply yX tb rfl rfl rfl rfl rfl;(·exact .here);(·exact rfl))|(refine yA tb rfl ?_;intro b)))|refine qE rfl ?_))
   by_cases k1:kd=1
   · subst k1
     simp only[yF,VG,en,zb,zf,zk]at hle;have kE:=kE (by omega)
     have g1':=g1.mono hVs
     (repeat'(first|refine qq ?_|refine qa ?_|refine qo ?_|refine qe ?_|(refine qn rfl ?_;first|refine qX tb rfl g1' rfl rfl hix.1 (by decide) ?_|refine jH rfl rfl (by(try simp only[zb,zf,zk]);omega) ?_|refine qh rfl ?_|refine qd rfl ?_|refine qaT rfl rfl ?_|refine qb tb rfl rfl ?_|(apply qp tb rfl rfl;(·exact At.own .here);(·exact rfl)))|refine qE rfl ?_))
     by_cases h0:ix.list.length=0
     · have et:qjo (textEs l ix)=[]:=by unfold qjo;rw[Ji,z6 h0]
       rw[et]at hle
       (repeat'(first|refine Yg rfl (by omega) ?_|refine qa ?_|refine qo ?_|refine qe ?_|refine qF ?_|refine qS ?_|(refine qn rfl ?_;first|refine qA tb rfl rfl (kE.mono hVs) ?_|refine jH rfl rfl (by(try simp only[zb,zf,zk]);omega) ?_|refine qh rfl ?_|refine qd rfl ?_|refine jf rfl rfl (by omega) (by omega) ?_|refine qb tb rfl rfl ?_|(apply qK tb rfl rfl;(·(refine At.own (?_);repeat(first|exact .here|refine .there ?_)));(·exact rfl)))))
       refine jb (by repeat(first|exact .nil|refine .cons rfl ?_)) (by repeat(first|exact .slnil|apply List.Sublist.cons_cons|apply List.Sublist.cons)) ⟨i+1,_,by omega,rfl,hVs,hfin _ ?_,rfl,rfl⟩ (by omega)
       simp only[yF,VG,en,et,zw,zD,zy]
     · obtain⟨x0,hx0⟩:∃x0,ix.list[0]?=some x0:=⟨ix.list[0]'(by omega),zA (by omega)⟩
       have et:qjo (textEs l ix)=[91]++jJ l x0++[93]:=by unfold qjo;rw[Ji,zQ h0,QL hx0]
       rw[et]at hle;simp only[zb,zf,zk]at hle;obtain⟨ay,ly,qy,ey,u1,u2,u3,u4⟩:=g1;obtain⟨rfl,rfl,rfl⟩:y1=ay∧y2=ly∧y3=qy:=by injection ey with p1 p2 p3;exact⟨p1,p2,p3⟩
       have hyl:=hix.1;obtain⟨by_,oy,rfl,hry⟩:=u4.resolve_left (by omega)
       obtain⟨cc,hd1,⟨y,hy1,hd2⟩,hd3⟩:=hix.rd hry (i:=0) (by omega)
       obtain rfl:y=x0:=KV (hy1.symm.trans hx0)
       have hm0:=zO hx0
       have kI:=c41 hP hD y hd2 (fun f h=>hfx f (.inl (.inl (.inl (qe3 hm0 h))))) (qe1 hm0 ri) (by omega)
       (repeat' (refine qb2 rfl (by omega) ?_))
       refine jo (ms:=[0,1,0,0,8,24,56,124,255,511,1023]) 10 mo (by kernel_rfl) (by kernel_rfl) rfl ?_
       repeat (apply Prog.step (Q9 _) (jg _) rfl rfl;(·(intro V1 F1 hs1;(repeat(first|refine jt ?_|refine js ?_));refine qW ?_;(first|refine qh rfl ?_|refine jH rfl rfl (by(try simp only[zb,zf,zk]);omega) ?_|refine jw tb rfl rfl hd1 (by decide) hd3 (hVs.trans hs1) ?_|(apply qp tb rfl rfl;(·exact At.own (.app .here));(·exact rfl))|(apply qK tb rfl rfl;(·(refine At.own (Has.app ?_);repeat(first|exact .here|refine .there ?_)));(·exact rfl))|refine qb tb rfl rfl ?_|refine qB tb rfl rfl rfl (by omega) (by omega) ?_|refine qA tb rfl rfl (kI.mono (hVs.trans hs1)) ?_);exact Qc));simp only[zy,zD])
       refine Prog.done ?_;intro V1 hs1;repeat(first|refine jp ?_|refine jr ?_)
       have hV2:=hVs.trans hs1
       (repeat'(first|refine qa ?_|refine qo ?_|refine qe ?_|refine qS ?_|(refine qn rfl ?_;first|refine qA tb rfl rfl (kE.mono hV2) ?_|refine jH rfl rfl (by(try simp only[zb,zf,zk]);omega) ?_|refine qh rfl ?_|refine qd rfl ?_|refine jf rfl rfl (by omega) (by omega) ?_|refine qb tb rfl rfl ?_|(apply qK tb rfl rfl;(·(refine At.own (?_);repeat(first|exact .here|refine .there ?_)));(·exact rfl)))))
       refine jb (by repeat(first|exact .nil|refine .cons rfl ?_)) (by repeat(first|exact .slnil|apply List.Sublist.cons_cons|apply List.Sublist.cons)) ⟨i+1,_,by omega,rfl,hV2,hfin _ ?_,rfl,rfl⟩ (by omega)
       simp only[yF,VG,en,et,zw,zD,zy]
   by_cases k2:kd=2
   · subst k2
     have e21:((2:Int)=1)=False:=by simp
     simp only[yF,e21,Vv,VG,en,zb,zf,zk]at hle;have kE:=kE (by omega)
     have kT:=kT (by omega)
     (repeat'(first|refine Yg rfl (by omega) ?_|refine qq ?_|refine qa ?_|refine qo ?_|refine qe ?_|(refine qn rfl ?_;first|refine qd rfl ?_|refine jI rfl rfl ?_)|refine qE rfl ?_))
     refine jo (ms:=[0,0,3,7,0,0,32,112,255,511,0,0,2048,0,8192,31984,65535,0,262143,524287,1048575]) 20 mo (by kernel_rfl) (by kernel_rfl) rfl ?_
     repeat (apply Prog.step (Q9 _) (jg _) rfl rfl;(·(intro V1 F1 hs1;(repeat(first|refine jt ?_|refine js ?_));refine qW ?_;(first|refine qh rfl ?_|refine jH rfl rfl (by(try simp only[zb,zf,zk]);omega) ?_|(apply qp tb rfl rfl;(·exact At.own (.app .here));(·exact rfl))|(apply qK tb rfl rfl;(·(refine At.own (Has.app ?_);repeat(first|exact .here|refine .there ?_)));(·exact rfl))|refine qb tb rfl rfl ?_|refine qA tb rfl rfl (kE.mono (hVs.trans hs1)) ?_|refine qA tb rfl rfl (kT.mono (hVs.trans hs1)) ?_);exact Qc));simp only[zy,zD])
     refine Prog.done ?_;intro V1 hs1;repeat(first|refine jp ?_|refine jr ?_)
     have hV2:=hVs.trans hs1;have g3':=g3.mono hV2
     (repeat'(first|refine qq ?_|refine qa ?_|refine qo ?_|refine qe ?_|(refine qn rfl ?_;first|refine qX tb rfl g3' rfl rfl hel.1 (by decide) ?_|refine qd rfl ?_|refine qaT rfl rfl ?_|refine qb tb rfl rfl ?_|(apply qp tb rfl rfl;(·exact At.own .here);(·exact rfl)))))
     by_cases h0:el.list.length=0
     · rw[z6 h0]at hle
       (repeat'(first|refine Yg rfl (by omega) ?_|refine qa ?_|refine qo ?_|refine qe ?_|refine qF ?_|refine qS ?_|(refine qn rfl ?_;first|refine jH rfl rfl (by(try simp only[zb,zf,zk]);omega) ?_|refine qh rfl ?_|refine qd rfl ?_|refine jf rfl rfl (by omega) (by omega) ?_)))
       refine jb (by repeat(first|exact .nil|refine .cons rfl ?_)) (by repeat(first|exact .slnil|apply List.Sublist.cons_cons|apply List.Sublist.cons)) ⟨i+1,_,by omega,rfl,hV2,hfin _ ?_,rfl,rfl⟩ (by omega)
       simp only[yF,e21,Vv,VG,z6 h0,en,zw,zD,zy]
     · rw[zQ h0]at hle
       simp only[zb,zf,zk]at hle;have kL:=kL (by omega)
       (repeat'(first|refine qb2 rfl (by omega) ?_|refine qa ?_|refine qo ?_|refine qe ?_|refine qS ?_|(refine qn rfl ?_;first|refine qA tb rfl rfl (kL.mono hV2) ?_|refine jH rfl rfl (by(try simp only[zb,zf,zk]);omega) ?_|refine qh rfl ?_|refine qd rfl ?_|refine jf rfl rfl (by omega) (by omega) ?_|refine qb tb rfl rfl ?_|(apply qp tb rfl rfl;(·exact At.own .here);(·exact rfl))|(apply qK tb rfl rfl;(·(refine At.own (?_);repeat(first|exact .here|refine .there ?_)));(·exact rfl)))))
       refine jb (by repeat(first|exact .nil|refine .cons rfl ?_)) (by repeat(first|exact .slnil|apply List.Sublist.cons_cons|apply List.Sublist.cons)) ⟨i+1,_,by omega,rfl,hV2,hfin _ ?_,rfl,rfl⟩ (by omega)
       simp only[yF,e21,Vv,VG,zQ h0,en,zw,zD,zy]
   by_cases k3:kd=3
   · subst k3
     have e31:((3:Int)=1)=False:=by simp
     have e32:((3:Int)=2)=False:=by simp
     simp only[yF,e31,e32,Vv,VG,en,zb,zf,zk]at hle;have kT:=kT (by omega)
     (repeat'(first|refine Yg rfl (by omega) ?_|refine qq ?_|refine qa ?_|refine qo ?_|refine qe ?_|(refine qn rfl ?_;first|refine qd rfl ?_|refine jI rfl rfl ?_)|refine qE rfl ?_))
     refine jo (ms:=[0,0,3,7,0,16,63,127,0,256,768,1792,4095,8191,0,16384,49152,118528,262143,524287,0,0,2097152,0,8388608,32755456,67108863,0,268435455,536870911,1073741823]) 30 mo (by kernel_rfl) (by kernel_rfl) rfl ?_
     repeat (apply Prog.step (Q9 _) (jg _) rfl rfl;(·(intro V1 F1 hs1;(repeat(first|refine jt ?_|refine js ?_));refine qW ?_;(first|refine qh rfl ?_|refine jH rfl rfl (by(try simp only[zb,zf,zk]);omega) ?_|refine qb tb rfl rfl ?_|(apply qp tb rfl rfl;(·exact At.own (.app .here));(·exact rfl))|(apply qK tb rfl rfl;(·(refine At.own (Has.app ?_);repeat(first|exact .here|refine .there ?_)));(·exact rfl))|refine qar tb rfl rfl rfl (by omega) (by omega) ?_|refine qA tb rfl rfl (dlo.mono (hVs.trans hs1)) ?_|refine qA tb rfl rfl (dhi.mono (hVs.trans hs1)) ?_|refine qA tb rfl rfl (kT.mono (hVs.trans hs1)) ?_);exact Qc));simp only[zy,zD])
     refine Prog.done ?_;intro V1 hs1;repeat(first|refine jp ?_|refine jr ?_)
     have hV2:=hVs.trans hs1
     (repeat'(first|refine qa ?_|refine qo ?_|refine qe ?_|refine qS ?_|(refine qn rfl ?_;first|refine qh rfl ?_|refine qd rfl ?_|refine jf rfl rfl (by omega) (by omega) ?_)))
     refine jb (by repeat(first|exact .nil|refine .cons rfl ?_)) (by repeat(first|exact .slnil|apply List.Sublist.cons_cons|apply List.Sublist.cons)) ⟨i+1,_,by omega,rfl,hV2,hfin _ ?_,rfl,rfl⟩ (by omega)
     simp only[yF,e31,e32,Vv,VG,en,zw,zD,zy]
   · (repeat'(first|refine Yg rfl (by omega) ?_|refine qq ?_|refine qa ?_|refine qo ?_|refine qe ?_|refine qF ?_|refine qS ?_|(refine qn rfl ?_;first|refine qh rfl ?_|refine qd rfl ?_|refine jI rfl rfl ?_|refine jf rfl rfl (by omega) (by omega) ?_)))
     refine jb (by repeat(first|exact .nil|refine .cons rfl ?_)) (by repeat(first|exact .slnil|apply List.Sublist.cons_cons|apply List.Sublist.cons)) ⟨i+1,_,by omega,rfl,hVs,hfin _ ?_,rfl,rfl⟩ (by omega)
     simp only[yF,zQ k1,zQ k2,zQ k3,z7]
 · obtain rfl:i=m:=by omega
   have hs':=hsx.mono hVs
   (repeat'(first|refine qq ?_|refine qa ?_|refine qo ?_|refine qe ?_|refine jh ?_|refine qG ?_|refine qD ?_|refine qI ?_|refine qO ?_|(refine qn rfl ?_;first|refine qX tb rfl hs' rfl rfl hp.1 (by decide) ?_|refine QD rfl rfl (by omega) ?_|refine qh rfl ?_|refine qd rfl ?_)|refine qz rfl ?_))
   (refine qR hM hw hV0 hR (jU rfl rfl) ?_)
   rw[hT]
mutual
theorem qyC{l:qV}{F:List Int}{V:qc}{sf st:Value}(hP:PrV l F V sf st)(hD:DgV l V):∀x:St_,K97 l F V sf st x
 | .mk _ _ _ _ _ _ _ tn el=>⟨qqp hP hD (cStmL hP hD tn),qqp hP hD (cStmL hP hD el)⟩
 termination_by structural x=>x
theorem cStmL{l:qV}{F:List Int}{V:qc}{sf st:Value}(hP:PrV l F V sf st)(hD:DgV l V):∀(es:Sts),∀x∈es.list,K97 l F V sf st x
 | .nil,x,hm=>by simp[Sts.list]at hm
 | .cons e r,x,hm=>by
  rcases zK.1 hm with h|h
  · rw[h];exact qyC hP hD e
  · exact cStmL hP hD r x h
 termination_by structural es=>es
end
theorem cStm{l:qV}{F:List Int}{V:qc}{sf st:Value}(hP:PrV l F V sf st)(hD:DgV l V)(es:Sts):T97 l F V sf st es:=qqp hP hD (cStmL hP hD es)
end Fly
end
section
namespace Fly
open Go
theorem qde{l:qV}{ds:List Dc}{i:Nat}{d:Dc}(h:ds[i]?=some d):yg l (ds.take (i+1))=yg l (ds.take i)++qaP l d:=by
 unfold yg;rw[VO,h];simp
theorem Z4(l:qV)(ds:List Dc)(i:Nat):(yg l (ds.take i)).length≤(yg l ds).length:=by
 have h:yg l ds=yg l (ds.take i)++yg l (ds.drop i):=by
  unfold yg;rw[← Wy,← Kr,Kw]
 rw[h,zb];omega
end Fly
end
