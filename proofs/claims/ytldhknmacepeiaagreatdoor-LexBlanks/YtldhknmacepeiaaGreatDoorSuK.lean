/-
  An evaluator of the program's functions over trees of values, proved sound. No condition.
-/
import Derived.Test.YtldhknmacepeiaaGreatDoorSuG
set_option linter.unusedVariables false
set_option linter.unusedSimpArgs false
section
namespace Su
open Go Fly
theorem qe7{V:qc}:∀ {l:List T} {vs:List Value} {c:List T} {us:List Value} {r:List T},RepA V l vs→RepA V c us→jE l c=some r→∃rs,yc vs us=some rs∧RepA V r rs
 | l,vs,[],_,r,h,.nil,e=>by
  have:r=l:=by cases l <;> simp[jE]at e <;> first | exact e.symm | exact e
  subst this;exact⟨vs,by cases vs <;> simp[yc],h⟩
 | [],_,x::c,_,r,.nil,.cons k k',e=>by simp[jE]at e
 | y::l,_,x::c,_,r,.cons h h',.cons (v:=v) k k',e=>by
  simp only[jE]at e;replace e:=qb e;obtain⟨r',hr,e⟩:=e
  simp at e;subst e;obtain⟨rs,h1,h2⟩:=qe7 h' k' hr;exact⟨v::rs,by simp[yc,h1],.cons k h2⟩
theorem qdJ{V:qc}:∀ {l:List T} {vs:List Value} {o:Nat} {c:List T} {us:List Value} {r:List T},RepA V l vs→RepA V c us→yq l o c=some r→∃rs,yO vs o us=some rs∧RepA V r rs
 | l,vs,0,c,us,r,h,hc,e=>by
  have e':jE l c=some r:=by cases l <;> simpa[yq]using e
  obtain⟨rs,h1,h2⟩:=qe7 h hc e';exact⟨rs,by cases vs <;> simpa[yO]using h1,h2⟩
 | [],_,o+1,c,us,r,.nil,hc,e=>by simp[yq]at e
 | y::l,_,o+1,c,us,r,.cons (v:=v) h h',hc,e=>by
  simp only[yq]at e;replace e:=qb e;obtain⟨r',hr,e⟩:=e
  simp at e;subst e;obtain⟨rs,h1,h2⟩:=qdJ h' hc hr;exact⟨v::rs,by simp[yO,h1],.cons h h2⟩
theorem qe8{α:Type}:∀ {l c r:List α},jE l c=some r→r.length=l.length
 | l,[],r,e=>by
  have:r=l:=by cases l <;> simp[jE]at e <;> first | exact e.symm | exact e
  rw[this]
 | [],x::c,r,e=>by simp[jE]at e
 | y::l,x::c,r,e=>by
  simp only[jE]at e;replace e:=qb e;obtain⟨r',hr,e⟩:=e
  simp at e;subst e;simp[qe8 hr]
theorem Zg{α:Type}:∀ {l:List α} {o:Nat} {c r:List α},yq l o c=some r→r.length=l.length
 | l,0,c,r,e=>by
  have e':jE l c=some r:=by cases l <;> simpa[yq]using e
  exact qe8 e'
 | [],o+1,c,r,e=>by simp[yq]at e
 | y::l,o+1,c,r,e=>by
  simp only[yq]at e;replace e:=qb e;obtain⟨r',hr,e⟩:=e
  simp at e;subst e;simp[Zg hr]
theorem qn9:∀(l r:List Value),App l r (l++r)
 | [],_=>.nil
 | _::l,r=>.cons (qn9 l r)
theorem qa3{V:qc}{I:List IE}:∀ {l:List Value} {hs:List (Option (Nat×Nat))} {nn:Nat},l.all qbP=true→(∀j,j<(zeroCells nn l hs).2.length→I[nn+j]?=some .vrow) →
 RepSs V I (zeroCells nn l hs).1 l∧(∀s∈(zeroCells nn l hs).1,jz s=true)∧GRel V I (List.replicate (zeroCells nn l hs).2.length .vrow) (zeroCells nn l hs).2 []:=by
 intro l;induction l with
 | nil=>intro hs nn _ _;exact⟨by simp[zeroCells];exact .nil,by simp[zeroCells],by simp[zeroCells];exact .nil⟩
 | cons v l ih=>
  intro hs nn h hI;simp only[WP,zn]at h;have hz:=qgq (V:=V) h.1
  simp only[zeroCells]at hI ⊢;cases hq:ZD v hs with
  | some p=>
   have:=qa2 hq;subst this
   rw[hq]at hI;simp only[]at hI ⊢;have h0:=hI 0 (by simp)
   obtain⟨i1,i2,i3⟩:=ih (hs:=hs.tail) (nn:=nn+1) h.2 (fun j hj=>by have:=hI (j+1) (by simpa using hj);rwa [show nn+1+j=nn+(j+1) by omega])
   exact⟨.cons (.oslv (by simpa using h0)) i1,by simpa[jz]using i2,by
    simp only[zu,V6];exact .cons (g:=[]) (G:=[]) .vrow i3⟩
  | none=>
   rw[hq]at hI;simp only[]at hI ⊢;obtain⟨i1,i2,i3⟩:=ih (hs:=hs.tail) (nn:=nn) h.2 hI
   exact⟨.cons (.t hz.1) i1,by simpa[jz,hz.2]using i2,i3⟩
section
variable {fr:Bool} {P:Program} {E:Env} {n:Nat} {X:Cx} {L:Lo} {V:qc} {I:List IE} {G:Own} {st:St} {O:Type} {r:O} {k:SV→St→Option O} {xs:List Operand}
variable {ty:TypeId} {pos:String} {af:Array Edge} {gd:Option (Nat×Bool)} {ds:Option Tmp}
theorem qoa(S:Sound P E.T){e:TypeId}(h:Pre fr E V I st L G xs)(he:qgk E fr st e k=some r):Opr P n X L V G ⟨ds,.alloc e,ty,pos,af,gd⟩ (jp fr r k V I st L G):=by
 unfold qgk at he;cases fr with
 | false=>simp at he
 | true=>
  simp only[zg]at he;replace he:=qb he;obtain⟨z,hz,he⟩:=he
  have hS:=h.full rfl;refine jP (qS S.tb (S.ze _ _ hz) fun b hf=>?_)
  have hc:=S.zc _ _ hz;have hlen:=hS.len;obtain⟨j1,j2,j3⟩:=qa3 (V:=V) (I:=I++(List.replicate (zeroCells st.H.length z (E.T.zs e)).2.length .vrow++[.blk b])) (l:=z) (hs:=E.T.zs e) (nn:=st.H.length) hc (fun j hj=>by
   rw[z8 (by omega),Kl (by simp;omega),Vj,zA (by omega)])
  have h3:=hS.new (Is:=List.replicate (zeroCells st.H.length z (E.T.zs e)).2.length .vrow++[.blk b]) (Hs:=(zeroCells st.H.length z (E.T.zs e)).2++[.cells (zeroCells st.H.length z (E.T.zs e)).1]) (g:=[(b,.cells z.toArray e (0,0))])
   (j3.append (G:=[]) (.cons (g:=[(b,.cells z.toArray e (0,0))]) (G:=[]) (.cells j1 j2) .nil))
  refine⟨V,_,Gh.refl hf,Sub.refl _,I++(List.replicate (zeroCells st.H.length z (E.T.zs e)).2.length .vrow++[.blk b]),_,_,he,?_,.ref ?_,?_⟩
  · have:(St.mk st.K st.Tm (st.H++((zeroCells st.H.length z (E.T.zs e)).2++[.cells (zeroCells st.H.length z (E.T.zs e)).1]))) = { st with H:=st.H++(zeroCells st.H.length z (E.T.zs e)).2++[.cells (zeroCells st.H.length z (E.T.zs e)).1] }:=by rw[zR]
    rw[← this];exact h3
  · rw[z8 (by omega),z8 (by simp;omega)]
    simp[hlen]
  · have:=IPf.app (H:=st.H) (Hs:=(zeroCells st.H.length z (E.T.zs e)).2++[.cells (zeroCells st.H.length z (E.T.zs e)).1]) (I:=I) (Is:=List.replicate (zeroCells st.H.length z (E.T.zs e)).2.length .vrow++[.blk b]) hlen
    rw[← zR]at this;exact this
theorem qhC{g:Bool}{w:Nat}{sv:SV}{v:Value}{c:List SV}(hr:RepS V I sv v)(e:qkn g w sv=some c):∃us:List Value,v.cells=us.toArray∧RepSs V I c us∧us.length=w:=by
 unfold qkn at e;cases g with
 | true=>
  simp only[zg]at e;split at e
  · rename_i l
    cases hb:Nat.beq l.length w with
    | false=>rw[hb]at e;simp at e
    | true=>
     rw[hb]at e;simp only[zg,za]at e;subst e;cases hr with | t hr=>cases hr with | agg h1 h2=>
     exact⟨_,rfl,RepSs.ofT h1,by rw[← h1.length];exact zf hb⟩
  · rename_i l
    cases hb:(Nat.beq l.length w&&Jd l)with
    | false=>rw[hb]at e;simp at e
    | true=>
     rw[hb]at e;simp only[zg,za]at e;subst e;simp only[zn]at hb;cases hr with | st h1=>
     exact⟨_,rfl,h1,by rw[← h1.length];exact zf hb.1⟩
  · simp at e
 | false=>
  simp only[zm]at e;cases ho:(Ya sv&&Nat.beq w 1)with
  | false=>rw[ho]at e;simp at e
  | true=>
   rw[ho]at e;simp only[zg,za]at e;subst e;simp only[zn]at ho;obtain⟨h1,h2,h3⟩:=Zd hr ho.1;exact⟨[v],h2,.cons hr .nil,(zf ho.2).symm⟩
theorem qe9:∀ {l:List SV} {vs:List Value} {c:List SV} {us:List Value} {r:List SV},RepSs V I l vs→RepSs V I c us→jE l c=some r→∃rs,yc vs us=some rs∧RepSs V I r rs
 | l,vs,[],_,r,h,.nil,e=>by
  have:r=l:=by cases l <;> simp[jE]at e <;> first | exact e.symm | exact e
  subst this;exact⟨vs,by cases vs <;> simp[yc],h⟩
 | [],_,x::c,_,r,.nil,.cons k k',e=>by simp[jE]at e
 | y::l,_,x::c,_,r,.cons h h',.cons (v:=v) k k',e=>by
  simp only[jE]at e;replace e:=qb e;obtain⟨r',hr,e⟩:=e
  simp at e;subst e;obtain⟨rs,h1,h2⟩:=qe9 h' k' hr;exact⟨v::rs,by simp[yc,h1],.cons k h2⟩
theorem qdK:∀ {l:List SV} {vs:List Value} {o:Nat} {c:List SV} {us:List Value} {r:List SV},RepSs V I l vs→RepSs V I c us→yq l o c=some r→∃rs,yO vs o us=some rs∧RepSs V I r rs
 | l,vs,0,c,us,r,h,hc,e=>by
  have e':jE l c=some r:=by cases l <;> simpa[yq]using e
  obtain⟨rs,h1,h2⟩:=qe9 h hc e';exact⟨rs,by cases vs <;> simpa[yO]using h1,h2⟩
 | [],_,o+1,c,us,r,.nil,hc,e=>by simp[yq]at e
 | y::l,_,o+1,c,us,r,.cons (v:=v) h h',hc,e=>by
  simp only[yq]at e;replace e:=qb e;obtain⟨r',hr,e⟩:=e
  simp at e;subst e;obtain⟨rs,h1,h2⟩:=qdK h' hc hr;exact⟨v::rs,by simp[yO,h1],.cons h h2⟩
theorem qfa(S:Sound P E.T){I':List IE}(hI:Ile I I'){t:Nat}:∀(parts:List (Nat×Operand)) (z r:List SV) (zv:List Value),(∀x∈xs,je E st V I L x)→(∀p∈parts,p.2∈xs)→RepSs V I' z zv →
 qbR E t st z parts=some r→∃rv,Fill S.tb L t zv parts rv∧RepSs V I' r rv:=by
 intro parts;induction parts with
 | nil=>
  intro z r zv _ _ hz e;simp only[qbR,za]at e;subst e;exact⟨zv,.nil,hz⟩
 | cons p parts ih=>
  intro z r zv h hm hz e;obtain⟨i,x⟩:=p;simp only[qbR]at e;replace e:=qb e;obtain⟨q,hq,e⟩:=e
  replace e:=qb e;obtain⟨sv,hsv,e⟩:=e
  replace e:=qb e;obtain⟨c,hcT,e⟩:=e
  replace e:=qb e;obtain⟨z',hz',e⟩:=e
  obtain⟨v,hv,hr⟩:=h x (hm _ (zE ..)) sv hsv
  obtain⟨us,u1,u2,hul⟩:=qhC (hr.mono (Sub.refl _) hI) hcT
  obtain⟨rs,p1,p2⟩:=qdK hz u2 hz';obtain⟨rv,f2,r2⟩:=ih z' r rs h (fun p hp=>hm p (zB _ hp)) p2 e
  exact⟨rv,.cons (S.fo _ _ _ (show E.T.fo t i=some (q.1,q.2.1,q.2.2) from hq)) hv u1 hul p1 f2,r2⟩
theorem qfb{V:qc}{I:List IE}{ns:List Nat}:∀ {Hs:List OB} {nn:Nat} {Is:List IE},GRel V I Is Hs []→GRel V I Is (qkq ns nn Hs) []
 | [],_,_,.nil=>.nil
 | b::Hs,nn,_,h=>by
  generalize hg:([]:Own)=g at h
  cases h with
  | cons h h'=>
   rename_i ie g1 Is g2;have h3:=List.append_eq_nil_iff.1 hg.symm;obtain⟨rfl,rfl⟩:=h3;have:=qfb (ns:=ns) (nn:=nn+1) h'
   show GRel V I _ ((bif JO ns nn then b else .dead)::qkq ns (nn+1) Hs) []
   cases JO ns nn with
   | true=>exact .cons (g:=[]) (G:=[]) h this
   | false=>exact .cons (g:=[]) (G:=[]) .dead this
theorem qmt{m w:Nat}{g:Bool}:∀(parts:List (Nat×Operand)) (z r:List SV) (zv:List Value),(∀x∈xs,je E st V I L x)→(∀p∈parts,p.2∈xs)→RepSs V I z zv →
 qdv E m g w st z parts=some r→∃rv,FillA w L zv parts rv∧RepSs V I r rv:=by
 intro parts;induction parts with
 | nil=>
  intro z r zv _ _ hz e;simp only[qdv,za]at e;subst e;exact⟨zv,.nil,hz⟩
 | cons p parts ih=>
  intro z r zv h hm hz e;obtain⟨i,x⟩:=p;simp only[qdv]at e;cases hb:Nat.blt i m with
  | false=>rw[hb]at e;simp at e
  | true=>
  rw[hb]at e;simp only[zg]at e;replace e:=qb e;obtain⟨sv,hsv,e⟩:=e
  replace e:=qb e;obtain⟨c,hcT,e⟩:=e
  replace e:=qb e;obtain⟨z',hz',e⟩:=e
  obtain⟨v,hv,hr⟩:=h x (hm _ (zE ..)) sv hsv
  obtain⟨us,u1,u2,hul⟩:=qhC hr hcT;obtain⟨rs,p1,p2⟩:=qdK hz u2 hz';obtain⟨rv,f2,r2⟩:=ih z' r rs h (fun p hp=>hm p (zB _ hp)) p2 e
  exact⟨rv,.cons hv u1 hul p1 f2,r2⟩
theorem qmu(S:Sound P E.T){t:Nat}{parts:Array (Nat×Operand)}(h:Pre fr E V I st L G xs)(hm:∀p∈parts.toList,p.2∈xs)(he:qdz E fr st t parts k=some r):Opr P n X L V G ⟨ds,.build t parts,ty,pos,af,gd⟩ (jp fr r k V I st L G):=by
 obtain⟨pl,rfl⟩:∃l:List (Nat×Operand),parts=l.toArray:=⟨parts.toList,by simp⟩
 unfold qdz at he;replace he:=qb he;obtain⟨z,hz,he⟩:=he
 replace he:=qb he;obtain⟨f0,hf0,he⟩:=he
 cases hb:(fr&&E.T.bz E.f)with
 | false=>
  rw[hb]at he;simp only[zm]at he;replace he:=qb he;obtain⟨p,hp,he⟩:=he
  have z1:RepA V (bif E.T.bz E.f then z.map T.s else zCs z (E.T.zs t)) z:=by
   cases E.T.bz E.f with
   | true=>exact qku (S.zc _ _ hz)
   | false=>exact(ZI (V:=V) (hs:=E.T.zs t) (S.zc _ _ hz)).1
  obtain⟨rv,f1,r1⟩:=qfa S (Ile.refl I) pl _ p z h.opd hm (RepSs.ofT z1) (by simpa using hp)
  obtain⟨sv,hk,hr⟩:=Yc r1 he;exact qT S.tb (S.al _ _ _ hf0) (S.ze _ _ hz) (S.fo _ _ _ hf0) f1 (h.post hk hr)
 | true=>
  rw[hb]at he;simp only[zn]at hb;obtain⟨rfl,-⟩:=hb
  simp only[zg]at he;replace he:=qb he;obtain⟨p,hp,he⟩:=he
  have hS:=h.full rfl;have hlen:=hS.len;obtain⟨j1,j2,j3⟩:=qa3 (V:=V) (I:=I++(List.replicate (zeroCells st.H.length z (E.T.zs t)).2.length .vrow)) (l:=z) (hs:=E.T.zs t) (nn:=st.H.length) (S.zc _ _ hz) (fun j hj=>by
   rw[z8 (by omega),Vj,zA (by omega)])
  obtain⟨rv,f1,r1⟩:=qfa S (Ile.app I _) pl _ p z h.opd hm j1 (by simpa using hp)
  obtain⟨sv,hk,hr⟩:=Yc r1 he;have h3:=hS.new (g:=[]) (qfb (ns:=qan.go p) (nn:=st.H.length) j3)
  refine qT S.tb (S.al _ _ _ hf0) (S.ze _ _ hz) (S.fo _ _ _ hf0) f1 ⟨V,G,Gh.refl h.free,Sub.refl _,_,_,_,hk,h3,hr,IPf.app hlen⟩
theorem qob(S:Sound P E.T){t:Nat}{parts:Array (Nat×Operand)}(h:Pre fr E V I st L G xs)(hm:∀p∈parts.toList,p.2∈xs)(he:qcQ E fr st t parts k=some r):Opr P n X L V G ⟨ds,.build t parts,ty,pos,af,gd⟩ (jp fr r k V I st L G):=by
 unfold qcQ at he;split at he
 · rename_i m g w hk
   replace he:=qb he;obtain⟨z,hz,he⟩:=he
   replace he:=qb he;obtain⟨p,hp,he⟩:=he
   obtain⟨e,hu,hty⟩:=S.arr _ _ _ _ hk;have z1:RepA V (zCs z (E.T.zs t)) z:=(ZI (V:=V) (hs:=E.T.zs t) (S.zc _ _ hz)).1
   obtain⟨rv,f1,r1⟩:=qmt parts.toList _ p z h.opd hm (RepSs.ofT z1) hp
   obtain⟨sv,hk2,hr⟩:=Yc r1 he;have:=qmm (ty:=ty) (pos:=pos) (af:=af) (gd:=gd) (ds:=ds) (n:=n) (X:=X) (G:=G) S.tb hu hty (S.ze _ _ hz) f1 (h.post hk2 hr)
   simpa using this
 · exact qmu S h hm he
theorem qsZ(g:Bool)(w:Nat):∀(parts:List (Nat×Operand)) (i:Nat) (st:St) (l:List T) (st':St) (V:qc) (G:Own),Pre fr E V I st L G xs→(∀p∈parts,p.2∈xs)→qdw E fr g w st i parts=some (l,st') →
 ∃V' G' rv,GhF fr I L V G st V' G' st'∧Cat L w i parts rv∧RepA V' (l.flatMap T.cells) rv∧(∀x∈l.flatMap T.cells,x.isAgg=false)∧(∀x∈l,x.cells.length=w)∧l.length=parts.length:=by
 intro parts;induction parts with
 | nil=>
  intro i st l st' V G h _ e;simp only[qdw,za,Kk]at e;obtain⟨rfl,rfl⟩:=e;exact⟨V,G,[],h.ghrefl,.nil,.nil,by simp,by simp,rfl⟩
 | cons p parts ih=>
  intro i st l st' V G h hm e;obtain⟨j,x⟩:=p;simp only[qdw]at e;cases hij:Nat.beq i j with
  | false=>rw[hij]at e;simp at e
  | true=>
   rw[hij]at e;simp only[zg]at e;have:=zf hij;subst this
   replace e:=qb e;obtain⟨sv,hsv,e⟩:=e
   replace e:=qb e;obtain⟨c,hcT,e⟩:=e
   obtain⟨v,hv,hr⟩:=h.opd x (hm _ (zE ..)) sv hsv
   cases hck:(Nat.beq c.1.cells.length w&&(bif g then c.1.isAgg else !c.1.isAgg))with
   | false=>rw[hck]at e;simp at e
   | true=>
    rw[hck]at e;simp only[zg]at e;simp only[zn]at hck;have hlen:=zf hck.1;replace e:=qb e;obtain⟨q,hq,e⟩:=e
    simp only[za,Kk]at e;obtain⟨rfl,rfl⟩:=e;obtain⟨V1,G1,g1,r1⟩:=qcY h hr (x:=c.1) (st':=c.2) (by rw[hcT])
    obtain⟨us,u1,u2,u3⟩:=r1.cells;have hul:us.length=w:=by rw[← u2.length];exact hlen
    obtain⟨V2,G2,rv,g2,f2,r2,c2,w2,l2⟩:=ih (i+1) c.2 q.1 q.2 V1 G1 (h.step g1) (fun p hp=>hm p (zB _ hp)) (by rw[hq])
    refine⟨V2,G2,us++rv,g1.trans g2,.cons hv u1 hul f2 (qn9 _ _),by rw[Kx];exact(u2.mono g2.gh.sub).append r2,?_,?_,by simp[l2]⟩
    · intro y hy
      rw[Kx,Kf]at hy;exact hy.elim (u3 y) (c2 y)
    · intro y hy
      rcases zS.1 hy with rfl | hy
      · exact hlen
      · exact w2 y hy
theorem qwD(T:Tabs P){Q:Value→qc→Own→Prop}{t e k m:Nat}{z r:List Value}{parts:List (Nat×Operand)}(hE:T.el t=some (e,k))(hz:T.ze e=some z)(hm:parts.length=m)(hs:m*k≤16777216)(hc:Cat L k 0 parts r)
 (k':∀b,V b=none→Q (.slice (some ⟨b,0,none⟩) m m) (addV V b (.cells r.toArray e (0,0))) G):Opr P n X L V G ⟨ds,.buildSlice t m parts.toArray,ty,pos,af,gd⟩ Q:=fun a ha w hw=>by
 refine .inl ⟨_,_,addV V w.heap.size (.cells r.toArray e (0,0)),G,.inl ?_,k' w.heap.size ?_,(hw.alloc (.cells r.toArray e (0,0))).freeze⟩
 · exact qnA T hE hz hm hs hc ha w
 · cases h:V w.heap.size with
   | none=>rfl
   | some o=>exact absurd (hw.vlt (r:=w.heap.size) (by simp[h])) (by omega)
theorem qhD:∀(parts:List (Nat×Operand)) (i:Nat) (svs:List SV),(∀x∈xs,je E st V I L x)→(∀p∈parts,p.2∈xs)→qhw E st i parts=some svs →
 ∃rv,Cat L 1 i parts rv∧RepSs V I svs rv∧∀s∈svs,jz s=true
 | [],i,svs,_,_,e=>by
  simp only[qhw,za]at e;subst e;exact⟨[],.nil,.nil,by simp⟩
 | (j,x)::parts,i,svs,h,hm,e=>by
  simp only[qhw]at e;cases hij:Nat.beq i j with
  | false=>rw[hij]at e;simp at e
  | true=>
   rw[hij]at e;simp only[zg]at e;have:=zf hij;subst this
   replace e:=qb e;obtain⟨sv,hsv,e⟩:=e
   obtain⟨v,hv,hr⟩:=h x (hm _ (zE ..)) sv hsv
   split at e
   · replace e:=qb e;obtain⟨l,hl,e⟩:=e
     simp only[za]at e;subst e;obtain⟨rv,f1,r1,c1⟩:=qhD parts (i+1) l h (fun p hp=>hm p (zB _ hp)) hl
     cases hr with | ref hI=>
     exact⟨_::rv,.cons hv rfl rfl f1 (.cons .nil),.cons (.ref hI) r1,fun s hs=>by
      rcases zS.1 hs with rfl | hs
      · rfl
      · exact c1 s hs⟩
   · simp at e
theorem qmv(S:Sound P E.T){t m:Nat}{parts:Array (Nat×Operand)}(h:Pre fr E V I st L G xs)(hm:∀p∈parts.toList,p.2∈xs)(he:qdA E fr st t m parts k=some r):Opr P n X L V G ⟨ds,.buildSlice t m parts,ty,pos,af,gd⟩ (jp fr r k V I st L G):=by
 obtain⟨pl,rfl⟩:∃l:List (Nat×Operand),parts=l.toArray:=⟨parts.toList,by simp⟩
 unfold qdA at he;cases hir:(fr&&qnP E st pl.toArray.toList)with
 | true=>
  rw[hir]at he;simp only[zn]at hir;obtain⟨rfl,-⟩:=hir
  simp only[zg]at he;cases hb:Nat.beq pl.toArray.size m with
  | false=>rw[hb]at he;simp at he
  | true=>
  rw[hb]at he;simp only[zg]at he;have hpl:pl.length=m:=by simpa using zf hb
  replace he:=qb he;obtain⟨p,hp,he⟩:=he
  replace he:=qb he;obtain⟨z,hz,he⟩:=he
  cases hck:(Nat.beq p.2 1&&Nat.ble m 16777216)with
  | false=>rw[hck]at he;simp at he
  | true=>
  rw[hck]at he;simp only[zg]at he;simp only[zn]at hck;have hw1:=zf hck.1;have hml:=zo hck.2;replace he:=qb he;obtain⟨svs,hsv,he⟩:=he
  obtain⟨rv,f1,r1,c1⟩:=qhD pl 0 svs h.opd hm (by simpa using hsv)
  rw[← hw1]at f1;have hS:=h.full rfl;have hE:=S.el t (p.1,p.2) hp
  refine jP (ym S.tb hE (S.ze _ _ hz) hpl (by rw[hw1];omega) f1 fun b hf=>?_)
  have h3:=hS.new (Is:=[.blk b]) (Hs:=[.cells svs]) (g:=[(b,.cells rv.toArray p.1 (0,0))])
   (.cons (g:=[(b,.cells rv.toArray p.1 (0,0))]) (G:=[]) (.cells (r1.mono (Sub.refl _) (Ile.app _ _)) c1) .nil)
  refine⟨V,_,Gh.refl hf,Sub.refl _,_,_,_,he,h3,?_,IPf.app hS.len⟩
  exact .oslp (by rw[← hS.len];simp) (by simp[maxLen];omega)
 | false=>
 rw[hir,zm]at he;cases hb:Nat.beq pl.toArray.size m with
 | false=>rw[hb]at he;simp at he
 | true=>
  rw[hb]at he;simp only[zg]at he;have hpl:pl.length=m:=by simpa using zf hb
  replace he:=qb he;obtain⟨p,hp,he⟩:=he
  replace he:=qb he;obtain⟨q,hq,he⟩:=he
  replace he:=qb he;obtain⟨z,hz,he⟩:=he
  cases hck:(Nat.ble (m*p.2) 16777216&&Nat.ble m maxLen)with
  | false=>rw[hck]at he;simp at he
  | true=>
   rw[hck]at he;simp only[zg]at he;simp only[zn]at hck;have hs:=zo hck.1;have hml:=zo hck.2;replace he:=qe1 _ _ _ _ _ _ _ _ he
   replace he:=qb he;obtain⟨l,hl,he⟩:=he
   obtain⟨V1,G1,rv,g1,f1,r1,c1,w1,l1⟩:=qsZ q.1 p.2 pl 0 st l.1 l.2 V G h hm (by simpa using hl)
   refine Jz g1 ?_
   have h1:=h.step g1;have hE:=S.el t (p.1,p.2) hp
   have hll:l.1.length=m:=by rw[l1,hpl]
   cases fr with
   | true=>
    simp only[zg]at he;have hS:=h1.full rfl;refine jP (ym S.tb hE (S.ze _ _ hz) hpl hs f1 fun b hf=>?_)
    have hrl:rv.length=m*p.2:=by rw[← r1.length,Qz w1,hll]
    have h3:=hS.new (Is:=[.row b p.2 m]) (Hs:=[.row false p.1 p.2 l.1]) (g:=[(b,.cells rv.toArray p.1 (0,0))])
     (.cons (g:=[(b,.cells rv.toArray p.1 (0,0))]) (G:=[]) (.row (by simpa using hrl) hml (by omega) (by rw[hll];simpa[← hrl]using r1) c1 w1) .nil)
    refine⟨V1,_,Gh.refl hf,Sub.refl _,_,_,_,he,h3,?_,IPf.app hS.len⟩
    have:=RepS.osl (V:=V1) (I:=I++[.row b p.2 m]) (n:=l.2.H.length) (off:=0) (len:=l.1.length) (b:=b) (k:=p.2) (ct:=m) (cap:=m) (by rw[← hS.len];simp) (by omega) hml ⟨by omega,by omega⟩
    rw[KY]at this;rw[hll]at this ⊢;exact this
   | false=>
    simp only[zm]at he;refine qwD S.tb hE (S.ze _ _ hz) hpl hs f1 fun b hb=>?_
    obtain⟨rfl,rfl,hst⟩:=g1.no rfl;refine⟨Sub.addV hb,rfl,_,he,?_⟩
    have:=Rep.sl (V:=addV V1 b (.cells rv.toArray p.1 (0,0))) (k:=p.2) (l:=l.1) (vs:=rv) (a:=some ⟨b,0,none⟩) (cap:=m) (r1.mono (Sub.addV hb)) c1 w1 (by omega) hml
     (.inr ⟨b,0,rfl,fun j c hj=>⟨_,_,_,addV_same _ _ _,by simpa using hj⟩⟩)
    rw[hll]at this;exact .t this
end
end Su
end
section
namespace Su
open Go Fly
section
variable {fr:Bool} {P:Program} {E:Env} {n:Nat} {X:Cx} {L:Lo} {V:qc} {I:List IE} {G:Own} {st:St} {O:Type} {r:O} {k:SV→St→Option O} {xs:List Operand} {Q:Value→qc→Own→Prop}
variable {ty:TypeId} {pos:String} {af:Array Edge} {gd:Option (Nat×Bool)} {ds:Option Tmp}
theorem qs0(S:Sound P E.T){t:Nat}{x:Operand}(h:Pre fr E V I st L G xs)(hx:je E st V I L x)(he:qjb E fr st t x k=some r):Opr P n X L V G ⟨ds,.load t x,ty,pos,af,gd⟩ (jp fr r k V I st L G):=by
 unfold qjb at he;replace he:=qb he;obtain⟨sv,hsv,he⟩:=he
 obtain⟨v,hv,hr⟩:=hx sv hsv;unfold ldO at he;replace he:=qb he;obtain⟨p,hp,he⟩:=he
 obtain⟨g,kk⟩:=p;split at he
 · replace he:=qge he;obtain⟨y,hy,he⟩:=he
   exact qzo S hv hr hp hy fun u hu=>h.post he (.t hu)
 · rename_i m off
   split at he
   · rename_i l hn
     cases g with
     | true=>
      simp only[zg]at he;replace he:=qb he;obtain⟨c,hc,he⟩:=he
      refine qsU S h.mr hv hr hp hn hc fun us hus=>?_
      obtain⟨sv',hk,hr'⟩:=Yc hus he;exact h.post hk hr'
     | false=>
      simp only[zm,qcP]at he;replace he:=qb he;obtain⟨y,hy,he⟩:=he
      exact qsT S h.mr hv hr hp hn hy fun u hu=>h.post he hu
   · simp at he
 · rename_i m i off
   split at he
   · rename_i fx e w l hn
     replace he:=qb he;obtain⟨z,hz,he⟩:=he
     replace he:=qge he;obtain⟨y,hy,he⟩:=he
     exact qzp S h.mr hv hr hp hn hz hy fun u hu=>h.post he (.t hu)
   · simp at he
 · simp at he
theorem qoc{fn:Fn}{a b:Array Operand}(h:Pre fr E V I st L G xs)(ha:∀x∈a.toList,je E st V I L x)(hb:∀x∈b.toList,je E st V I L x)(he:qcR E st fn a b k=some r):Opr P n X L V G ⟨ds,.makeFunc fn a b,ty,pos,af,gd⟩ (jp fr r k V I st L G):=by
 have opds_ok:∀(l:List Operand) (svs:List SV),(∀x∈l,je E st V I L x)→qeG E st l=some svs→∃vs,evs L l=some vs∧RepSs V I svs vs:=by
  intro l;induction l with
  | nil=>intro svs _ e;simp[qeG]at e;subst e;exact⟨[],rfl,.nil⟩
  | cons x l ih=>
   intro svs hm e;simp only[qeG]at e;replace e:=qb e;obtain⟨s,hs,e⟩:=e
   replace e:=qb e;obtain⟨q,hq,e⟩:=e
   simp at e;subst e;obtain⟨v,hv,hr⟩:=hm x (zE ..) s hs
   obtain⟨vs,hvs,hrs⟩:=ih q (fun y hy=>hm y (zB _ hy)) hq
   exact⟨v::vs,by simp[evs,hv,hvs],.cons hr hrs⟩
 obtain⟨al,rfl⟩:∃l:List Operand,a=l.toArray:=⟨a.toList,by simp⟩
 obtain⟨bl,rfl⟩:∃l:List Operand,b=l.toArray:=⟨b.toList,by simp⟩
 unfold qcR at he;split at he
 · replace he:=qb he;obtain⟨sa,hsa,he⟩:=he
   replace he:=qb he;obtain⟨sb,hsb,he⟩:=he
   obtain⟨va,hva,hra⟩:=opds_ok al sa (by simpa using ha) (by simpa using hsa)
   obtain⟨vb,hvb,hrb⟩:=opds_ok bl sb (by simpa using hb) (by simpa using hsb)
   exact qhx hva hvb (h.post he (.clo hra hrb))
 · simp at he
theorem qfc(T:Tabs P){s f:Nat}{x:Operand}{l:List Value}{o kk:Nat}(hx:ev L x=some (.agg l.toArray))(hf:T.fo s f=some (o,true,kk))
 (k':Q (.agg ((l.drop o).take kk).toArray) V G):Opr P n X L V G ⟨ds,.field s x f,ty,pos,af,gd⟩ Q:=by
 obtain⟨fs,y,hu,hy,ho,hT⟩:=qi0 (T.fo_ok _ _ _ hf)
 refine qD (fun a w ha=>?_) k'
 simp at ho hT;have e:(l.toArray.extract o (o+kk))=((l.drop o).take kk).toArray:=by simp
 simp[execOp,ha.ev hx,Instr.field,Fly.run_underlying hu,hy,Go.asAgg,part,(jT hT w).1,(jT hT w).2.1,ho,e]
theorem qod(S:Sound P E.T){s f:Nat}{x:Operand}(h:Pre fr E V I st L G xs)(hx:je E st V I L x)(he:evF E st s x f k=some r):Opr P n X L V G ⟨ds,.field s x f,ty,pos,af,gd⟩ (jp fr r k V I st L G):=by
 unfold evF at he;replace he:=qb he;obtain⟨sv,hsv,he⟩:=he
 obtain⟨v,hv,hr⟩:=hx sv hsv;replace he:=qb he;obtain⟨q,hq,he⟩:=he
 obtain⟨o,g,kk⟩:=q;unfold fdO at he;split at he
 · rename_i l
   cases hr with | @st _ vs h1=>
   cases g with
   | true=>
    simp only[zg]at he;cases hk:Nat.blt 0 kk with
    | false=>rw[hk]at he;simp at he
    | true=>
     rw[hk]at he;simp only[zg]at he;replace he:=qb he;obtain⟨c,hc,he⟩:=he
     obtain⟨_,c2,_⟩:=Za hc;obtain⟨sv',hk',hr'⟩:=Yc (V:=V) (I:=I) (vs:=(vs.drop o).take kk) (by rw[c2];exact(h1.drop o).take kk) he
     exact qfc S.tb hv (S.fo _ _ _ hq) (h.post hk' hr')
   | false=>
    simp only[zm]at he;replace he:=qb he;obtain⟨y,hy,he⟩:=he
    replace he:=qb he;obtain⟨y',hy',he⟩:=he
    have:y=y':=by cases y <;> simp[nb]at hy' <;> exact hy'
    subst this;obtain⟨u,hu,hru⟩:=h1.get hy;exact QO S.tb hv (S.fo _ _ _ hq) hu (h.post he hru)
 replace he:=qb he;obtain⟨l,hl,he⟩:=he
 replace he:=qb he;obtain⟨y,hy,he⟩:=he
 have:=qaX hl;subst this
 cases hr with | t hr=>cases hr with | agg h1 h2=>
 cases g with
 | true=>
  unfold ldT at hy;simp only[zg,T.cells]at hy;cases hk:Nat.blt 0 kk with
  | false=>rw[hk]at hy;simp at hy
  | true=>
   rw[hk]at hy;simp only[zg]at hy;replace hy:=qb hy;obtain⟨c,hc,hy⟩:=hy
   simp at hy;subst hy;obtain⟨_,c2,_⟩:=Za hc;exact qfc S.tb hv (S.fo _ _ _ hq) (h.post he (.t (.agg (by rw[c2];exact(h1.drop o).take kk) fun z hz=>h2 z (qcW hc z hz))))
 | false=>
  obtain⟨_,hb⟩:=Zb (x:=.agg l) (by simpa[T.cells]using h1) (by simpa[T.cells]using h2) hy
  obtain⟨u,hu,hru,_⟩:=hb rfl;exact QO S.tb hv (S.fo _ _ _ hq) hu (h.post he (.t hru))
theorem qs1{V:qc}{kk i:Nat}{l:List T}{vs:List Value}{z:T}(h:RepA V (l.flatMap T.cells) vs)(hw:∀x∈l,x.cells.length=kk)(hi:l[i]?=some z) :
 RepA V z.cells ((vs.drop (i*kk)).take kk):=by
 have hlt:i<l.length:=(zr.1 hi).1
 have hz:=hw z (Kv hi)
 have h1:=(h.drop (i*kk)).take kk
 rw[← yF i hw]at h1;have hd:l.drop i=z::l.drop (i+1):=by
  rw[zY hlt];congr 1;exact(zr.1 hi).2
 rw[hd,Kx,List.take_append_of_le_length (by omega),zJ (by omega)]at h1;exact h1
theorem qjq{vs:List Value}{o m j:Nat}{c:Value}(h:((vs.drop o).take m)[j]?=some c):vs[o+j]?=some c:=by
 rw[Kh]at h;split at h
 · rwa [K6]at h
 · cases h
theorem YA{n:Nat}(h:n≤maxLen):inR .i64 (n:Int)=true:=by
 simp only[inR,IntKind.min,IntKind.max,IntKind.bits,IntKind.signed,zn,zO,maxLen]at h ⊢;simp at h ⊢;omega
theorem qoe(c:UInt8):inR .u8 (c.toNat:Int)=true:=by
 have:=c.toNat_lt
 simp only[inR,IntKind.min,IntKind.max,IntKind.bits,IntKind.signed,zn,zO];simp at this ⊢;omega
theorem qof{l:List T}{j:Int}{z:T}(h:idx l j=some z):0≤j∧l[j.toNat]?=some z:=by
 unfold idx at h;by_cases h0:0≤j
 · simp[h0]at h;exact⟨h0,h⟩
 · simp[h0]at h
theorem qzr(S:Sound P E.T){t:Nat}{x i:Operand}(h:Pre fr E V I st L G xs)(hx:je E st V I L x)(hi:je E st V I L i)(he:qsG E st t x i k=some r):Opr P n X L V G ⟨ds,.indexAddr t x i,ty,pos,af,gd⟩ (jp fr r k V I st L G):=by
 unfold qsG at he;replace he:=qb he;obtain⟨sv,hsv,he⟩:=he
 obtain⟨v,hv,hr⟩:=hx sv hsv;replace he:=qb he;obtain⟨si,hsi,he⟩:=he
 obtain⟨vi,hvi,hri⟩:=hi si hsi;unfold ixO at he;replace he:=qb he;obtain⟨p,hp,he⟩:=he
 replace he:=qb he;obtain⟨j,hj,he⟩:=he
 obtain⟨κ,rfl⟩:=J1 hj;have:=jO hri;subst this
 have hE:=S.el t (p.1,p.2) hp
 have tree:∀ {l:List T} {z:T},idx l j=some z→RepS V I (.t (.sl p.2 l)) v→k (.t (.pt z 0)) st=some r→Opr P n X L V G ⟨ds,.indexAddr t x i,ty,pos,af,gd⟩ (jp fr r k V I st L G):=by
  intro l z hz hr he;obtain⟨h0,hz⟩:=qof hz;have hlt:j.toNat<l.length:=(zr.1 hz).1
  cases hr with | t hr=>cases hr with | @sl _ _ vs a cap a1 a2 a3 a4 a5 a6=>
  rcases a6 with a6 | ⟨b,off,rfl,a6⟩
  · subst a6;simp at hz
  · refine Yv S.tb hv hvi hE h0 (by omega) (h.post he (.t ?_))
    have:=Rep.pt (V:=V) (x:=z) (off:=0) (b:=b) (o:=off+j.toNat*p.2) (qs1 a1 a3 hz) (fun y hy=>a2 y (KT.2 ⟨z,Kv hz,hy⟩)) (fun q c hq=>by
     have:=a6 _ _ (qjq hq)
     rwa [← Ky]at this)
    simpa using this
 split at he
 · rename_i m off len
   split at he
   · rename_i fx e w l hn
     cases hck:(Nat.beq w p.2&&decide (0≤j)&&decide (j<(len:Int)))with
     | false=>rw[hck]at he;simp at he
     | true=>
      rw[hck]at he;simp only[zg]at he;simp only[zn,zO]at hck;obtain⟨⟨hw,h0⟩,h1⟩:=hck;have:=zf hw;subst this
      cases hr with
      | @osl _ _ _ b k' ct cap hI h3 h4 h5=>
       rcases h.mr.row hn with⟨b',ct',cur,a1,a2,a3,a4,a5,a6,a7,a8⟩ | ⟨a1,rfl⟩
       · rw[hI]at a1
         simp only[za,IE.row.injEq]at a1;obtain⟨rfl,rfl,rfl⟩:=a1;refine Yv S.tb hv hvi hE h0 h1 (h.post he ?_)
         have:=RepS.ep (V:=V) (I:=I) (n:=m) (i:=off+j.toNat) (off:=0) hI
         rw[KA,zW]at this;exact this
       · rw[hI]at a1;cases a1
      | osl0 _ _=>omega
      | oslv _=>simp at h1;omega
      | oslp hI _=>
       rcases h.mr.row hn with⟨b',ct',cur,a1,_⟩ | ⟨a1,_⟩ <;> (rw[hI]at a1;cases a1)
   · rename_i l hn
     cases hck:(Nat.beq p.2 1&&(Nat.beq off 0&&(decide (0≤j)&&decide (j<(len:Int)))))with
     | false=>rw[hck]at he;simp at he
     | true=>
      rw[hck]at he;simp only[zg]at he;simp only[zn,zO]at hck;obtain⟨hw,ho,h0,h1⟩:=hck;have hw:=zf hw;have:=zf ho;subst this
      obtain⟨b',vs,e,k1,k2,k3,k4⟩:=h.mr.cells hn;cases hr with
      | osl hI _ _ _=>rw[hI]at k1;cases k1
      | osl0 h0 _=>exact absurd rfl h0
      | oslv hI=>rw[hI]at k1;cases k1
      | oslp hI _=>
       refine Yv S.tb hv hvi hE h0 h1 (h.post he ?_)
       rw[hw,Vn,zG];exact .ref hI
   · simp at he
 · rename_i u k' l
   cases hb:Nat.beq k' p.2 with
   | false=>rw[hb]at he;simp at he
   | true=>
    rw[hb]at he;simp only[zg]at he;replace he:=qb he;obtain⟨z,hz,he⟩:=he
    have hk:=zf hb;subst hk;cases hr with | t hr=>cases hr with | ql hr=>
    exact tree (qsM hz) (.t hr) he
 · replace he:=qb he;obtain⟨l,hl,he⟩:=he
   replace he:=qb he;obtain⟨z,hz,he⟩:=he
   exact tree hz (qaW hl hr) he
theorem qwE(S:Sound P E.T){x:Operand}{ts:Array TypeId}{t:Nat}{sv:SV}(h:Pre fr E V I st L G xs)(hx:je E st V I L x)(hs:opd E st x=some sv)(ht:ts[0]?=some t)(he:qsD E sv t (fun u=>k u st)=some r) :
 Opr P n X L V G ⟨ds,.call { callee:=.builtin .len,args:=#[x],argTypes:=ts },ty,pos,af,gd⟩ (jp fr r k V I st L G):=by
 obtain⟨v,hv,hr⟩:=hx sv hs;unfold qsD at he;split at he
 · rename_i hk
   replace he:=qb he;obtain⟨b,hb,he⟩:=he
   have:=qbW hb;subst this
   have hr0:=hr;have:=jO hr;subst this
   have hsz:=qkx hr0;exact qsK hv ht (S.str _ hk) (h.post he (Q9 (YA hsz)))
 · split at he
   · rename_i p hp
     have hE:=S.el t (p.1,p.2) hp
     split at he
     · cases hr with
       | osl h1 h2 h3 _=>exact Js S.tb hv ht hE (h.post he (Q9 (YA (by omega))))
       | osl0 h1 h2=>exact Js S.tb hv ht hE (h.post he (Q9 (YA (WJ _))))
       | oslv h1=>exact Js S.tb hv ht hE (h.post he (Q9 (YA (WJ _))))
       | oslp h1 h2=>exact Js S.tb hv ht hE (h.post he (Q9 (YA h2)))
     · rename_i u k' l
       cases hb:Nat.beq k' p.2 with
       | false=>rw[hb]at he;simp at he
       | true=>
        rw[hb]at he;simp only[zg]at he;have hk:=zf hb;subst hk;cases hr with | t hr=>cases hr with | ql hr=>cases hr with | sl a1 a2 a3 a4 a5 a6=>exact Js S.tb hv ht hE (h.post he (by rw[zK]at a4 ⊢;exact Q9 (YA (by omega))))
     · replace he:=qb he;obtain⟨l,hl,he⟩:=he
       have hr:=qaW hl hr;cases hr with | t hr=>cases hr with | sl a1 a2 a3 a4 a5 a6=>exact Js S.tb hv ht hE (h.post he (Q9 (YA (by omega))))
   · simp at he
theorem qvt(S:Sound P E.T){x y:Operand}{ts:Array TypeId}(b:Bool)(h:Pre fr E V I st L G xs)(hx:je E st V I L x)(hy:je E st V I L y)(he:mmO E st (bif b then max else min) x y ts k=some r) :
 Opr P n X L V G ⟨ds,.call { callee:=.builtin (bif b then .max else .min),args:=#[x,y],argTypes:=ts },ty,pos,af,gd⟩ (jp fr r k V I st L G):=by
 unfold mmO at he;replace he:=qb he;obtain⟨sx,hsx,he⟩:=he
 replace he:=qb he;obtain⟨sy,hsy,he⟩:=he
 replace he:=qb he;obtain⟨t,ht,he⟩:=he
 obtain⟨vx,hvx,hrx⟩:=hx sx hsx;obtain⟨vy,hvy,hry⟩:=hy sy hsy;split at he
 · replace he:=qb he;obtain⟨p,hp,he⟩:=he
   replace he:=qb he;obtain⟨q,hq,he⟩:=he
   have:=Jw hp;subst this
   have:=Jw hq;subst this
   have hpr:=qdF hrx;have hqr:=qdF hry;have:=jO hrx;subst this
   have:=jO hry;subst this
   cases b with
   | true=>exact qwm hvx hvy (h.post he (Q9 (by show inR _ (Max.max p q)=true;rw[Int.max_def];split <;> assumption)))
   | false=>exact qwn hvx hvy (h.post he (Q9 (by show inR _ (Min.min p q)=true;rw[Int.min_def];split <;> assumption)))
 · simp at he
theorem qs2(S:Sound P E.T){t:Nat}{x i:Operand}(h:Pre fr E V I st L G xs)(hx:je E st V I L x)(hi:je E st V I L i)(he:evI E st t x i k=some r):Opr P n X L V G ⟨ds,.index t x i,ty,pos,af,gd⟩ (jp fr r k V I st L G):=by
 unfold evI at he;split at he
 · rename_i hk
   replace he:=qb he;obtain⟨sx,hsx,he⟩:=he
   replace he:=qb he;obtain⟨si,hsi,he⟩:=he
   obtain⟨vx,hvx,hrx⟩:=hx sx hsx;obtain⟨vi,hvi,hri⟩:=hi si hsi;replace he:=qb he;obtain⟨s,hs,he⟩:=he
   replace he:=qb he;obtain⟨j,hj,he⟩:=he
   have:=qbW hs;subst this
   have:=jO hrx;subst this
   obtain⟨κ,rfl⟩:=J1 hj;have:=jO hri;subst this
   by_cases h0:0≤j
   · simp only[h0,WM,zg]at he
     replace he:=qb he;obtain⟨c,hc,he⟩:=he
     exact Qn hvx hvi (S.str _ hk) h0 hc (h.post he (Q9 (qoe c)))
   · simp[h0]at he
 · rename_i m hk
   replace he:=qb he;obtain⟨sx,hsx,he⟩:=he
   replace he:=qb he;obtain⟨si,hsi,he⟩:=he
   obtain⟨vx,hvx,hrx⟩:=hx sx hsx;obtain⟨vi,hvi,hri⟩:=hi si hsi;replace he:=qb he;obtain⟨l,hl,he⟩:=he
   replace he:=qb he;obtain⟨j,hj,he⟩:=he
   obtain⟨κ,rfl⟩:=J1 hj;have:=jO hri;subst this
   obtain⟨e,hu,hty⟩:=S.arr _ _ _ _ hk;cases hb:(decide (0≤j)&&decide (j<(m:Int)))with
   | false=>rw[hb]at he;simp at he
   | true=>
   rw[hb]at he;simp only[zg]at he;simp only[zn,zO]at hb;obtain⟨i0,c,hc,hj0,hg,he⟩:=qe3 he;have hc:l[j.toNat]?=some c:=by rw[hj0];simpa using hc
   have hl2:=qaX hl;subst hl2;cases hrx with | t hrx=>
   cases hrx with | agg ha hna=>
   obtain⟨u,hu2,hr2⟩:=ha.get hc;exact qmn hvx hvi hu hty rfl hb.1 hb.2 hu2 (h.post he (.t hr2))
 · simp at he
end
end Su
end
