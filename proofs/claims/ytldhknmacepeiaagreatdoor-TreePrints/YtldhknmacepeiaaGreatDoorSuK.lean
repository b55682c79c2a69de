/-
  An evaluator, proved sound. No condition.
-/
import Derived.Test.YtldhknmacepeiaaGreatDoorSuG
set_option linter.unusedVariables false
set_option linter.unusedSimpArgs false
section
namespace Su
open Go Fly
theorem qf7{V:qc}:∀ {l:List T} {vs:List Value} {c:List T} {us:List Value} {r:List T},RepA V l vs→RepA V c us→jL l c=some r→∃rs,yx vs us=some rs∧RepA V r rs
 | l,vs,[],_,r,h,.nil,e=>by
  have:r=l:=by cases l <;> simp[jL]at e <;> first|exact e.symm|exact e
  subst this;exact⟨vs,by cases vs <;> simp[yx],h⟩
 | [],_,x::c,_,r,.nil,.cons k k',e=>by simp[jL]at e
 | y::l,_,x::c,_,r,.cons h h',.cons (v:=v) k k',e=>by
  simp only[jL]at e;replace e:=qf e;obtain⟨r',hr,e⟩:=e
  simp at e;subst e;obtain⟨rs,h1,h2⟩:=qf7 h' k' hr;exact⟨v::rs,by simp[yx,h1],.cons k h2⟩
theorem qeA{V:qc}:∀ {l:List T} {vs:List Value} {o:Nat} {c:List T} {us:List Value} {r:List T},RepA V l vs→RepA V c us→yN l o c=some r→∃rs,Qh vs o us=some rs∧RepA V r rs
 | l,vs,0,c,us,r,h,hc,e=>by
  have e':jL l c=some r:=by cases l <;> simpa[yN]using e
  obtain⟨rs,h1,h2⟩:=qf7 h hc e';exact⟨rs,by cases vs <;> simpa[Qh]using h1,h2⟩
 | [],_,o+1,c,us,r,.nil,hc,e=>by simp[yN]at e
 | y::l,_,o+1,c,us,r,.cons (v:=v) h h',hc,e=>by
  simp only[yN]at e;replace e:=qf e;obtain⟨r',hr,e⟩:=e
  simp at e;subst e;obtain⟨rs,h1,h2⟩:=qeA h' hc hr;exact⟨v::rs,by simp[Qh,h1],.cons h h2⟩
theorem qf8{α:Type}:∀ {l c r:List α},jL l c=some r→r.length=l.length
 | l,[],r,e=>by
  have:r=l:=by cases l <;> simp[jL]at e <;> first|exact e.symm|exact e
  rw[this]
 | [],x::c,r,e=>by simp[jL]at e
 | y::l,x::c,r,e=>by
  simp only[jL]at e;replace e:=qf e;obtain⟨r',hr,e⟩:=e
  simp at e;subst e;simp[qf8 hr]
theorem ZX{α:Type}:∀ {l:List α} {o:Nat} {c r:List α},yN l o c=some r→r.length=l.length
 | l,0,c,r,e=>by
  have e':jL l c=some r:=by cases l <;> simpa[yN]using e
  exact qf8 e'
 | [],o+1,c,r,e=>by simp[yN]at e
 | y::l,o+1,c,r,e=>by
  simp only[yN]at e;replace e:=qf e;obtain⟨r',hr,e⟩:=e
  simp at e;subst e;simp[ZX hr]
theorem qpn:∀(l r:List Value),App l r (l++r)
 | [],_=>.nil
 | _::l,r=>.cons (qpn l r)
theorem qbM{V:qc}{I:List IE}:∀ {l:List Value} {hs:List (Option (Nat×Nat))} {nn:Nat},l.all qct=true→(∀j,j<(zeroCells nn l hs).2.length→I[nn+j]?=some .vrow) →
 RepSs V I (zeroCells nn l hs).1 l∧(∀s∈(zeroCells nn l hs).1,jG s=true)∧GRel V I (List.replicate (zeroCells nn l hs).2.length .vrow) (zeroCells nn l hs).2 []:=by
 intro l;induction l with
 | nil=>intro hs nn _ _;exact⟨by simp[zeroCells];exact .nil,by simp[zeroCells],by simp[zeroCells];exact .nil⟩
 | cons v l ih=>
  intro hs nn h hI;simp only[WH,zp]at h;have hz:=qhx (V:=V) h.1
  simp only[zeroCells]at hI ⊢;cases hq:qak v hs with
  | some p=>
   have:=qbL hq;subst this
   rw[hq]at hI;simp only[]at hI ⊢;have h0:=hI 0 (by simp)
   obtain⟨i1,i2,i3⟩:=ih (hs:=hs.tail) (nn:=nn+1) h.2 (fun j hj=>by have:=hI (j+1) (by simpa using hj);rwa [show nn+1+j=nn+(j+1) by omega])
   exact⟨.cons (.oslv (by simpa using h0)) i1,by simpa[jG]using i2,by
    simp only[zf,We];exact .cons (g:=[]) (G:=[]) .vrow i3⟩
  | none=>
   rw[hq]at hI;simp only[]at hI ⊢;obtain⟨i1,i2,i3⟩:=ih (hs:=hs.tail) (nn:=nn) h.2 hI
   exact⟨.cons (.t hz.1) i1,by simpa[jG,hz.2]using i2,i3⟩
section
variable {fr:Bool} {P:Program} {E:Env} {n:Nat} {X:Cx} {L:Lo} {V:qc} {I:List IE} {G:Own} {st:St} {O:Type} {r:O} {k:SV→St→Option O} {xs:List Operand}
variable {ty:TypeId} {pos:String} {af:Array Edge} {gd:Option (Nat×Bool)} {ds:Option Tmp}
theorem qpo(S:Sound P E.T){e:TypeId}(h:Pre fr E V I st L G xs)(he:qhn E fr st e k=some r):Opr P n X L V G ⟨ds,.alloc e,ty,pos,af,gd⟩ (jv fr r k V I st L G):=by
 unfold qhn at he;cases fr with
 | false=>simp at he
 | true=>
  simp only[zg]at he;replace he:=qf he;obtain⟨z,hz,he⟩:=he
  have hS:=h.full rfl;refine jZ (yA S.tb (S.ze _ _ hz) fun b hf=>?_)
  have hc:=S.zc _ _ hz;have hlen:=hS.len;obtain⟨j1,j2,j3⟩:=qbM (V:=V) (I:=I++(List.replicate (zeroCells st.H.length z (E.T.zs e)).2.length .vrow++[.blk b])) (l:=z) (hs:=E.T.zs e) (nn:=st.H.length) hc (fun j hj=>by
   rw[Kl (by omega),Ki (by simp;omega),K9,z6 (by omega)])
  have h3:=hS.new (Is:=List.replicate (zeroCells st.H.length z (E.T.zs e)).2.length .vrow++[.blk b]) (Hs:=(zeroCells st.H.length z (E.T.zs e)).2++[.cells (zeroCells st.H.length z (E.T.zs e)).1]) (g:=[(b,.cells z.toArray e (0,0))])
   (j3.append (G:=[]) (.cons (g:=[(b,.cells z.toArray e (0,0))]) (G:=[]) (.cells j1 j2) .nil))
  refine⟨V,_,Gh.refl hf,Sub.refl _,I++(List.replicate (zeroCells st.H.length z (E.T.zs e)).2.length .vrow++[.blk b]),_,_,he,?_,.ref ?_,?_⟩
  · have:(St.mk st.K st.Tm (st.H++((zeroCells st.H.length z (E.T.zs e)).2++[.cells (zeroCells st.H.length z (E.T.zs e)).1]))) = { st with H:=st.H++(zeroCells st.H.length z (E.T.zs e)).2++[.cells (zeroCells st.H.length z (E.T.zs e)).1] }:=by rw[zw]
    rw[← this];exact h3
  · rw[Kl (by omega),Kl (by simp;omega)]
    simp[hlen]
  · have:=IPf.app (H:=st.H) (Hs:=(zeroCells st.H.length z (E.T.zs e)).2++[.cells (zeroCells st.H.length z (E.T.zs e)).1]) (I:=I) (Is:=List.replicate (zeroCells st.H.length z (E.T.zs e)).2.length .vrow++[.blk b]) hlen
    rw[← zw]at this;exact this
theorem qiR{g:Bool}{w:Nat}{sv:SV}{v:Value}{c:List SV}(hr:RepS V I sv v)(e:qlG g w sv=some c):∃us:List Value,v.cells=us.toArray∧RepSs V I c us∧us.length=w:=by
 unfold qlG at e;cases g with
 | true=>
  simp only[zg]at e;split at e
  · rename_i l
    cases hb:Nat.beq l.length w with
    | false=>rw[hb]at e;simp at e
    | true=>
     rw[hb]at e;simp only[zg,za]at e;subst e;cases hr with|t hr=>cases hr with|agg h1 h2=>
     exact⟨_,rfl,RepSs.ofT h1,by rw[← h1.length];exact zd hb⟩
  · rename_i l
    cases hb:(Nat.beq l.length w&&JF l)with
    | false=>rw[hb]at e;simp at e
    | true=>
     rw[hb]at e;simp only[zg,za]at e;subst e;simp only[zp]at hb;cases hr with|st h1=>
     exact⟨_,rfl,h1,by rw[← h1.length];exact zd hb.1⟩
  · simp at e
 | false=>
  simp only[zo]at e;cases ho:(YR sv&&Nat.beq w 1)with
  | false=>rw[ho]at e;simp at e
  | true=>
   rw[ho]at e;simp only[zg,za]at e;subst e;simp only[zp]at ho;obtain⟨h1,h2,h3⟩:=ZV hr ho.1;exact⟨[v],h2,.cons hr .nil,(zd ho.2).symm⟩
theorem qf9:∀ {l:List SV} {vs:List Value} {c:List SV} {us:List Value} {r:List SV},RepSs V I l vs→RepSs V I c us→jL l c=some r→∃rs,yx vs us=some rs∧RepSs V I r rs
 | l,vs,[],_,r,h,.nil,e=>by
  have:r=l:=by cases l <;> simp[jL]at e <;> first|exact e.symm|exact e
  subst this;exact⟨vs,by cases vs <;> simp[yx],h⟩
 | [],_,x::c,_,r,.nil,.cons k k',e=>by simp[jL]at e
 | y::l,_,x::c,_,r,.cons h h',.cons (v:=v) k k',e=>by
  simp only[jL]at e;replace e:=qf e;obtain⟨r',hr,e⟩:=e
  simp at e;subst e;obtain⟨rs,h1,h2⟩:=qf9 h' k' hr;exact⟨v::rs,by simp[yx,h1],.cons k h2⟩
theorem qeB:∀ {l:List SV} {vs:List Value} {o:Nat} {c:List SV} {us:List Value} {r:List SV},RepSs V I l vs→RepSs V I c us→yN l o c=some r→∃rs,Qh vs o us=some rs∧RepSs V I r rs
 | l,vs,0,c,us,r,h,hc,e=>by
  have e':jL l c=some r:=by cases l <;> simpa[yN]using e
  obtain⟨rs,h1,h2⟩:=qf9 h hc e';exact⟨rs,by cases vs <;> simpa[Qh]using h1,h2⟩
 | [],_,o+1,c,us,r,.nil,hc,e=>by simp[yN]at e
 | y::l,_,o+1,c,us,r,.cons (v:=v) h h',hc,e=>by
  simp only[yN]at e;replace e:=qf e;obtain⟨r',hr,e⟩:=e
  simp at e;subst e;obtain⟨rs,h1,h2⟩:=qeB h' hc hr;exact⟨v::rs,by simp[Qh,h1],.cons h h2⟩
theorem qga(S:Sound P E.T){I':List IE}(hI:Ile I I'){t:Nat}:∀(parts:List (Nat×Operand)) (z r:List SV) (zv:List Value),(∀x∈xs,jm E st V I L x)→(∀p∈parts,p.2∈xs)→RepSs V I' z zv →
 qcv E t st z parts=some r→∃rv,Fill S.tb L t zv parts rv∧RepSs V I' r rv:=by
 intro parts;induction parts with
 | nil=>
  intro z r zv _ _ hz e;simp only[qcv,za]at e;subst e;exact⟨zv,.nil,hz⟩
 | cons p parts ih=>
  intro z r zv h hm hz e;obtain⟨i,x⟩:=p;simp only[qcv]at e;replace e:=qf e;obtain⟨q,hq,e⟩:=e
  replace e:=qf e;obtain⟨sv,hsv,e⟩:=e
  replace e:=qf e;obtain⟨c,hcT,e⟩:=e
  replace e:=qf e;obtain⟨z',hz',e⟩:=e
  obtain⟨v,hv,hr⟩:=h x (hm _ (zM ..)) sv hsv
  obtain⟨us,u1,u2,hul⟩:=qiR (hr.mono (Sub.refl _) hI) hcT
  obtain⟨rs,p1,p2⟩:=qeB hz u2 hz';obtain⟨rv,f2,r2⟩:=ih z' r rs h (fun p hp=>hm p (zE _ hp)) p2 e
  exact⟨rv,.cons (S.fo _ _ _ (show E.T.fo t i=some (q.1,q.2.1,q.2.2) from hq)) hv u1 hul p1 f2,r2⟩
theorem qgb{V:qc}{I:List IE}{ns:List Nat}:∀ {Hs:List OB} {nn:Nat} {Is:List IE},GRel V I Is Hs []→GRel V I Is (qlJ ns nn Hs) []
 | [],_,_,.nil=>.nil
 | b::Hs,nn,_,h=>by
  generalize hg:([]:Own)=g at h
  cases h with
  | cons h h'=>
   rename_i ie g1 Is g2;have h3:=List.append_eq_nil_iff.1 hg.symm;obtain⟨rfl,rfl⟩:=h3;have:=qgb (ns:=ns) (nn:=nn+1) h'
   show GRel V I _ ((bif Yo ns nn then b else .dead)::qlJ ns (nn+1) Hs) []
   cases Yo ns nn with
   | true=>exact .cons (g:=[]) (G:=[]) h this
   | false=>exact .cons (g:=[]) (G:=[]) .dead this
theorem qnH{m w:Nat}{g:Bool}:∀(parts:List (Nat×Operand)) (z r:List SV) (zv:List Value),(∀x∈xs,jm E st V I L x)→(∀p∈parts,p.2∈xs)→RepSs V I z zv →
 qef E m g w st z parts=some r→∃rv,FillA w L zv parts rv∧RepSs V I r rv:=by
 intro parts;induction parts with
 | nil=>
  intro z r zv _ _ hz e;simp only[qef,za]at e;subst e;exact⟨zv,.nil,hz⟩
 | cons p parts ih=>
  intro z r zv h hm hz e;obtain⟨i,x⟩:=p;simp only[qef]at e;cases hb:Nat.blt i m with
  | false=>rw[hb]at e;simp at e
  | true=>
  rw[hb]at e;simp only[zg]at e;replace e:=qf e;obtain⟨sv,hsv,e⟩:=e
  replace e:=qf e;obtain⟨c,hcT,e⟩:=e
  replace e:=qf e;obtain⟨z',hz',e⟩:=e
  obtain⟨v,hv,hr⟩:=h x (hm _ (zM ..)) sv hsv
  obtain⟨us,u1,u2,hul⟩:=qiR hr hcT;obtain⟨rs,p1,p2⟩:=qeB hz u2 hz';obtain⟨rv,f2,r2⟩:=ih z' r rs h (fun p hp=>hm p (zE _ hp)) p2 e
  exact⟨rv,.cons hv u1 hul p1 f2,r2⟩
theorem qnI(S:Sound P E.T){t:Nat}{parts:Array (Nat×Operand)}(h:Pre fr E V I st L G xs)(hm:∀p∈parts.toList,p.2∈xs)(he:qej E fr st t parts k=some r):Opr P n X L V G ⟨ds,.build t parts,ty,pos,af,gd⟩ (jv fr r k V I st L G):=by
 obtain⟨pl,rfl⟩:∃l:List (Nat×Operand),parts=l.toArray:=⟨parts.toList,by simp⟩
 unfold qej at he;replace he:=qf he;obtain⟨z,hz,he⟩:=he
 replace he:=qf he;obtain⟨f0,hf0,he⟩:=he
 cases hb:(fr&&E.T.bz E.f)with
 | false=>
  rw[hb]at he;simp only[zo]at he;replace he:=qf he;obtain⟨p,hp,he⟩:=he
  have z1:RepA V (bif E.T.bz E.f then z.map T.s else zCs z (E.T.zs t)) z:=by
   cases E.T.bz E.f with
   | true=>exact qlQ (S.zc _ _ hz)
   | false=>exact(qas (V:=V) (hs:=E.T.zs t) (S.zc _ _ hz)).1
  obtain⟨rv,f1,r1⟩:=qga S (Ile.refl I) pl _ p z h.opd hm (RepSs.ofT z1) (by simpa using hp)
  obtain⟨sv,hk,hr⟩:=YV r1 he;exact Jo S.tb (S.al _ _ _ hf0) (S.ze _ _ hz) (S.fo _ _ _ hf0) f1 (h.post hk hr)
 | true=>
  rw[hb]at he;simp only[zp]at hb;obtain⟨rfl,-⟩:=hb
  simp only[zg]at he;replace he:=qf he;obtain⟨p,hp,he⟩:=he
  have hS:=h.full rfl;have hlen:=hS.len;obtain⟨j1,j2,j3⟩:=qbM (V:=V) (I:=I++(List.replicate (zeroCells st.H.length z (E.T.zs t)).2.length .vrow)) (l:=z) (hs:=E.T.zs t) (nn:=st.H.length) (S.zc _ _ hz) (fun j hj=>by
   rw[Kl (by omega),K9,z6 (by omega)])
  obtain⟨rv,f1,r1⟩:=qga S (Ile.app I _) pl _ p z h.opd hm j1 (by simpa using hp)
  obtain⟨sv,hk,hr⟩:=YV r1 he;have h3:=hS.new (g:=[]) (qgb (ns:=qaZ.go p) (nn:=st.H.length) j3)
  refine Jo S.tb (S.al _ _ _ hf0) (S.ze _ _ hz) (S.fo _ _ _ hf0) f1 ⟨V,G,Gh.refl h.free,Sub.refl _,_,_,_,hk,h3,hr,IPf.app hlen⟩
theorem qpp(S:Sound P E.T){t:Nat}{parts:Array (Nat×Operand)}(h:Pre fr E V I st L G xs)(hm:∀p∈parts.toList,p.2∈xs)(he:qdu E fr st t parts k=some r):Opr P n X L V G ⟨ds,.build t parts,ty,pos,af,gd⟩ (jv fr r k V I st L G):=by
 unfold qdu at he;split at he
 · rename_i m g w hk
   replace he:=qf he;obtain⟨z,hz,he⟩:=he
   replace he:=qf he;obtain⟨p,hp,he⟩:=he
   obtain⟨e,hu,hty⟩:=S.arr _ _ _ _ hk;have z1:RepA V (zCs z (E.T.zs t)) z:=(qas (V:=V) (hs:=E.T.zs t) (S.zc _ _ hz)).1
   obtain⟨rv,f1,r1⟩:=qnH parts.toList _ p z h.opd hm (RepSs.ofT z1) hp
   obtain⟨sv,hk2,hr⟩:=YV r1 he;have:=qnA (ty:=ty) (pos:=pos) (af:=af) (gd:=gd) (ds:=ds) (n:=n) (X:=X) (G:=G) S.tb hu hty (S.ze _ _ hz) f1 (h.post hk2 hr)
   simpa using this
 · exact qnI S h hm he
theorem qtk(g:Bool)(w:Nat):∀(parts:List (Nat×Operand)) (i:Nat) (st:St) (l:List T) (st':St) (V:qc) (G:Own),Pre fr E V I st L G xs→(∀p∈parts,p.2∈xs)→qeg E fr g w st i parts=some (l,st') →
 ∃V' G' rv,GhF fr I L V G st V' G' st'∧Cat L w i parts rv∧RepA V' (l.flatMap T.cells) rv∧(∀x∈l.flatMap T.cells,x.isAgg=false)∧(∀x∈l,x.cells.length=w)∧l.length=parts.length:=by
 intro parts;induction parts with
 | nil=>
  intro i st l st' V G h _ e;simp only[qeg,za,Km]at e;obtain⟨rfl,rfl⟩:=e;exact⟨V,G,[],h.ghrefl,.nil,.nil,by simp,by simp,rfl⟩
 | cons p parts ih=>
  intro i st l st' V G h hm e;obtain⟨j,x⟩:=p;simp only[qeg]at e;cases hij:Nat.beq i j with
  | false=>rw[hij]at e;simp at e
  | true=>
   rw[hij]at e;simp only[zg]at e;have:=zd hij;subst this
   replace e:=qf e;obtain⟨sv,hsv,e⟩:=e
   replace e:=qf e;obtain⟨c,hcT,e⟩:=e
   obtain⟨v,hv,hr⟩:=h.opd x (hm _ (zM ..)) sv hsv
   cases hck:(Nat.beq c.1.cells.length w&&(bif g then c.1.isAgg else !c.1.isAgg))with
   | false=>rw[hck]at e;simp at e
   | true=>
    rw[hck]at e;simp only[zg]at e;simp only[zp]at hck;have hlen:=zd hck.1;replace e:=qf e;obtain⟨q,hq,e⟩:=e
    simp only[za,Km]at e;obtain⟨rfl,rfl⟩:=e;obtain⟨V1,G1,g1,r1⟩:=qdC h hr (x:=c.1) (st':=c.2) (by rw[hcT])
    obtain⟨us,u1,u2,u3⟩:=r1.cells;have hul:us.length=w:=by rw[← u2.length];exact hlen
    obtain⟨V2,G2,rv,g2,f2,r2,c2,w2,l2⟩:=ih (i+1) c.2 q.1 q.2 V1 G1 (h.step g1) (fun p hp=>hm p (zE _ hp)) (by rw[hq])
    refine⟨V2,G2,us++rv,g1.trans g2,.cons hv u1 hul f2 (qpn _ _),by rw[Kx];exact(u2.mono g2.gh.sub).append r2,?_,?_,by simp[l2]⟩
    · intro y hy
      rw[Kx,zS]at hy;exact hy.elim (u3 y) (c2 y)
    · intro y hy
      rcases zK.1 hy with rfl|hy
      · exact hlen
      · exact w2 y hy
theorem qwp(T:Tabs P){Q:Value→qc→Own→Prop}{t e k m:Nat}{z r:List Value}{parts:List (Nat×Operand)}(hE:T.el t=some (e,k))(hz:T.ze e=some z)(hm:parts.length=m)(hs:m*k≤16777216)(hc:Cat L k 0 parts r)
 (k':∀b,V b=none→Q (.slice (some ⟨b,0,none⟩) m m) (addV V b (.cells r.toArray e (0,0))) G):Opr P n X L V G ⟨ds,.buildSlice t m parts.toArray,ty,pos,af,gd⟩ Q:=fun a ha w hw=>by
 refine .inl ⟨_,_,addV V w.heap.size (.cells r.toArray e (0,0)),G,.inl ?_,k' w.heap.size ?_,(hw.alloc (.cells r.toArray e (0,0))).freeze⟩
 · exact qha T hE hz hm hs hc ha w
 · cases h:V w.heap.size with
   | none=>rfl
   | some o=>exact absurd (hw.vlt (r:=w.heap.size) (by simp[h])) (by omega)
theorem qiS:∀(parts:List (Nat×Operand)) (i:Nat) (svs:List SV),(∀x∈xs,jm E st V I L x)→(∀p∈parts,p.2∈xs)→qiD E st i parts=some svs →
 ∃rv,Cat L 1 i parts rv∧RepSs V I svs rv∧∀s∈svs,jG s=true
 | [],i,svs,_,_,e=>by
  simp only[qiD,za]at e;subst e;exact⟨[],.nil,.nil,by simp⟩
 | (j,x)::parts,i,svs,h,hm,e=>by
  simp only[qiD]at e;cases hij:Nat.beq i j with
  | false=>rw[hij]at e;simp at e
  | true=>
   rw[hij]at e;simp only[zg]at e;have:=zd hij;subst this
   replace e:=qf e;obtain⟨sv,hsv,e⟩:=e
   obtain⟨v,hv,hr⟩:=h x (hm _ (zM ..)) sv hsv
   split at e
   · replace e:=qf e;obtain⟨l,hl,e⟩:=e
     simp only[za]at e;subst e;obtain⟨rv,f1,r1,c1⟩:=qiS parts (i+1) l h (fun p hp=>hm p (zE _ hp)) hl
     cases hr with|ref hI=>
     exact⟨_::rv,.cons hv rfl rfl f1 (.cons .nil),.cons (.ref hI) r1,fun s hs=>by
      rcases zK.1 hs with rfl|hs
      · rfl
      · exact c1 s hs⟩
   · simp at e
theorem qnJ(S:Sound P E.T){t m:Nat}{parts:Array (Nat×Operand)}(h:Pre fr E V I st L G xs)(hm:∀p∈parts.toList,p.2∈xs)(he:qek E fr st t m parts k=some r):Opr P n X L V G ⟨ds,.buildSlice t m parts,ty,pos,af,gd⟩ (jv fr r k V I st L G):=by
 obtain⟨pl,rfl⟩:∃l:List (Nat×Operand),parts=l.toArray:=⟨parts.toList,by simp⟩
 unfold qek at he;cases hir:(fr&&qo1 E st pl.toArray.toList)with
 | true=>
  rw[hir]at he;simp only[zp]at hir;obtain⟨rfl,-⟩:=hir
  simp only[zg]at he;cases hb:Nat.beq pl.toArray.size m with
  | false=>rw[hb]at he;simp at he
  | true=>
  rw[hb]at he;simp only[zg]at he;have hpl:pl.length=m:=by simpa using zd hb
  replace he:=qf he;obtain⟨p,hp,he⟩:=he
  replace he:=qf he;obtain⟨z,hz,he⟩:=he
  cases hck:(Nat.beq p.2 1&&Nat.ble m 16777216)with
  | false=>rw[hck]at he;simp at he
  | true=>
  rw[hck]at he;simp only[zg]at he;simp only[zp]at hck;have hw1:=zd hck.1;have hml:=zx hck.2;replace he:=qf he;obtain⟨svs,hsv,he⟩:=he
  obtain⟨rv,f1,r1,c1⟩:=qiS pl 0 svs h.opd hm (by simpa using hsv)
  rw[← hw1]at f1;have hS:=h.full rfl;have hE:=S.el t (p.1,p.2) hp
  refine jZ (yh S.tb hE (S.ze _ _ hz) hpl (by rw[hw1];omega) f1 fun b hf=>?_)
  have h3:=hS.new (Is:=[.blk b]) (Hs:=[.cells svs]) (g:=[(b,.cells rv.toArray p.1 (0,0))])
   (.cons (g:=[(b,.cells rv.toArray p.1 (0,0))]) (G:=[]) (.cells (r1.mono (Sub.refl _) (Ile.app _ _)) c1) .nil)
  refine⟨V,_,Gh.refl hf,Sub.refl _,_,_,_,he,h3,?_,IPf.app hS.len⟩
  exact .oslp (by rw[← hS.len];simp) (by simp[maxLen];omega)
 | false=>
 rw[hir,zo]at he;cases hb:Nat.beq pl.toArray.size m with
 | false=>rw[hb]at he;simp at he
 | true=>
  rw[hb]at he;simp only[zg]at he;have hpl:pl.length=m:=by simpa using zd hb
  replace he:=qf he;obtain⟨p,hp,he⟩:=he
  replace he:=qf he;obtain⟨q,hq,he⟩:=he
  replace he:=qf he;obtain⟨z,hz,he⟩:=he
  cases hck:(Nat.ble (m*p.2) 16777216&&Nat.ble m maxLen)with
  | false=>rw[hck]at he;simp at he
  | true=>
   rw[hck]at he;simp only[zg]at he;simp only[zp]at hck;have hs:=zx hck.1;have hml:=zx hck.2;replace he:=qfV _ _ _ _ _ _ _ _ he
   replace he:=qf he;obtain⟨l,hl,he⟩:=he
   obtain⟨V1,G1,rv,g1,f1,r1,c1,w1,l1⟩:=qtk q.1 p.2 pl 0 st l.1 l.2 V G h hm (by simpa using hl)
   refine J4 g1 ?_
   have h1:=h.step g1;have hE:=S.el t (p.1,p.2) hp
   have hll:l.1.length=m:=by rw[l1,hpl]
   cases fr with
   | true=>
    simp only[zg]at he;have hS:=h1.full rfl;refine jZ (yh S.tb hE (S.ze _ _ hz) hpl hs f1 fun b hf=>?_)
    have hrl:rv.length=m*p.2:=by rw[← r1.length,QT w1,hll]
    have h3:=hS.new (Is:=[.row b p.2 m]) (Hs:=[.row false p.1 p.2 l.1]) (g:=[(b,.cells rv.toArray p.1 (0,0))])
     (.cons (g:=[(b,.cells rv.toArray p.1 (0,0))]) (G:=[]) (.row (by simpa using hrl) hml (by omega) (by rw[hll];simpa[← hrl]using r1) c1 w1) .nil)
    refine⟨V1,_,Gh.refl hf,Sub.refl _,_,_,_,he,h3,?_,IPf.app hS.len⟩
    have:=RepS.osl (V:=V1) (I:=I++[.row b p.2 m]) (n:=l.2.H.length) (off:=0) (len:=l.1.length) (b:=b) (k:=p.2) (ct:=m) (cap:=m) (by rw[← hS.len];simp) (by omega) hml ⟨by omega,by omega⟩
    rw[Ve]at this;rw[hll]at this ⊢;exact this
   | false=>
    simp only[zo]at he;refine qwp S.tb hE (S.ze _ _ hz) hpl hs f1 fun b hb=>?_
    obtain⟨rfl,rfl,hst⟩:=g1.no rfl;refine⟨Sub.addV hb,rfl,_,he,?_⟩
    have:=Rep.sl (V:=addV V1 b (.cells rv.toArray p.1 (0,0))) (k:=p.2) (l:=l.1) (vs:=rv) (a:=some ⟨b,0,none⟩) (cap:=m) (r1.mono (Sub.addV hb)) c1 w1 (by omega) hml
     (.inr ⟨b,0,rfl,fun j c hj=>⟨_,_,_,addV_same _ _ _,by simpa using hj⟩⟩)
    rw[hll]at this;exact .t this
end
end Su
end
section
namespace Su
open Go Fly
section
variable {fr:Bool} {P:Program} {E:Env} {n:Nat} {X:Cx} {L:Lo} {V:qc} {I:List IE} {G:Own} {st:St} {O:Type} {r:O} {k:SV→St→Option O} {xs:List Operand} {Q:Value→qc→Own→Prop}
variable {ty:TypeId} {pos:String} {af:Array Edge} {gd:Option (Nat×Bool)} {ds:Option Tmp}
theorem qtl(S:Sound P E.T){t:Nat}{x:Operand}(h:Pre fr E V I st L G xs)(hx:jm E st V I L x)(he:qku E fr st t x k=some r):Opr P n X L V G ⟨ds,.load t x,ty,pos,af,gd⟩ (jv fr r k V I st L G):=by
 unfold qku at he;replace he:=qf he;obtain⟨sv,hsv,he⟩:=he
 obtain⟨v,hv,hr⟩:=hx sv hsv;unfold ldO at he;replace he:=qf he;obtain⟨p,hp,he⟩:=he
 obtain⟨g,kk⟩:=p;split at he
 · replace he:=qhh he;obtain⟨y,hy,he⟩:=he
   exact qyh S hv hr hp hy fun u hu=>h.post he (.t hu)
 · rename_i m off
   split at he
   · rename_i l hn
     cases g with
     | true=>
      simp only[zg]at he;replace he:=qf he;obtain⟨c,hc,he⟩:=he
      refine qtf S h.mr hv hr hp hn hc fun us hus=>?_
      obtain⟨sv',hk,hr'⟩:=YV hus he;exact h.post hk hr'
     | false=>
      simp only[zo,qdt]at he;replace he:=qf he;obtain⟨y,hy,he⟩:=he
      exact qte S h.mr hv hr hp hn hy fun u hu=>h.post he hu
   · simp at he
 · rename_i m i off
   split at he
   · rename_i fx e w l hn
     replace he:=qf he;obtain⟨z,hz,he⟩:=he
     replace he:=qhh he;obtain⟨y,hy,he⟩:=he
     exact qyi S h.mr hv hr hp hn hz hy fun u hu=>h.post he (.t hu)
   · simp at he
 · simp at he
theorem qpq{fn:Fn}{a b:Array Operand}(h:Pre fr E V I st L G xs)(ha:∀x∈a.toList,jm E st V I L x)(hb:∀x∈b.toList,jm E st V I L x)(he:qdv E st fn a b k=some r):Opr P n X L V G ⟨ds,.makeFunc fn a b,ty,pos,af,gd⟩ (jv fr r k V I st L G):=by
 have opds_ok:∀(l:List Operand) (svs:List SV),(∀x∈l,jm E st V I L x)→qfC E st l=some svs→∃vs,evs L l=some vs∧RepSs V I svs vs:=by
  intro l;induction l with
  | nil=>intro svs _ e;simp[qfC]at e;subst e;exact⟨[],rfl,.nil⟩
  | cons x l ih=>
   intro svs hm e;simp only[qfC]at e;replace e:=qf e;obtain⟨s,hs,e⟩:=e
   replace e:=qf e;obtain⟨q,hq,e⟩:=e
   simp at e;subst e;obtain⟨v,hv,hr⟩:=hm x (zM ..) s hs
   obtain⟨vs,hvs,hrs⟩:=ih q (fun y hy=>hm y (zE _ hy)) hq
   exact⟨v::vs,by simp[evs,hv,hvs],.cons hr hrs⟩
 obtain⟨al,rfl⟩:∃l:List Operand,a=l.toArray:=⟨a.toList,by simp⟩
 obtain⟨bl,rfl⟩:∃l:List Operand,b=l.toArray:=⟨b.toList,by simp⟩
 unfold qdv at he;split at he
 · replace he:=qf he;obtain⟨sa,hsa,he⟩:=he
   replace he:=qf he;obtain⟨sb,hsb,he⟩:=he
   obtain⟨va,hva,hra⟩:=opds_ok al sa (by simpa using ha) (by simpa using hsa)
   obtain⟨vb,hvb,hrb⟩:=opds_ok bl sb (by simpa using hb) (by simpa using hsb)
   exact qc1 hva hvb (h.post he (.clo hra hrb))
 · simp at he
theorem qgc(T:Tabs P){s f:Nat}{x:Operand}{l:List Value}{o kk:Nat}(hx:ev L x=some (.agg l.toArray))(hf:T.fo s f=some (o,true,kk))
 (k':Q (.agg ((l.drop o).take kk).toArray) V G):Opr P n X L V G ⟨ds,.field s x f,ty,pos,af,gd⟩ Q:=by
 obtain⟨fs,y,hu,hy,ho,hT⟩:=qki (T.fo_ok _ _ _ hf)
 refine qP (fun a w ha=>?_) k'
 simp at ho hT;have e:(l.toArray.extract o (o+kk))=((l.drop o).take kk).toArray:=by simp
 simp[execOp,ha.ev hx,Instr.field,Fly.run_underlying hu,hy,Go.asAgg,part,(jK hT w).1,(jK hT w).2.1,ho,e]
theorem qpr(S:Sound P E.T){s f:Nat}{x:Operand}(h:Pre fr E V I st L G xs)(hx:jm E st V I L x)(he:evF E st s x f k=some r):Opr P n X L V G ⟨ds,.field s x f,ty,pos,af,gd⟩ (jv fr r k V I st L G):=by
 unfold evF at he;replace he:=qf he;obtain⟨sv,hsv,he⟩:=he
 obtain⟨v,hv,hr⟩:=hx sv hsv;replace he:=qf he;obtain⟨q,hq,he⟩:=he
 obtain⟨o,g,kk⟩:=q;unfold fdO at he;split at he
 · rename_i l
   cases hr with|@st _ vs h1=>
   cases g with
   | true=>
    simp only[zg]at he;cases hk:Nat.blt 0 kk with
    | false=>rw[hk]at he;simp at he
    | true=>
     rw[hk]at he;simp only[zg]at he;replace he:=qf he;obtain⟨c,hc,he⟩:=he
     obtain⟨_,c2,_⟩:=ZS hc;obtain⟨sv',hk',hr'⟩:=YV (V:=V) (I:=I) (vs:=(vs.drop o).take kk) (by rw[c2];exact(h1.drop o).take kk) he
     exact qgc S.tb hv (S.fo _ _ _ hq) (h.post hk' hr')
   | false=>
    simp only[zo]at he;replace he:=qf he;obtain⟨y,hy,he⟩:=he
    replace he:=qf he;obtain⟨y',hy',he⟩:=he
    have:y=y':=by cases y <;> simp[nb]at hy' <;> exact hy'
    subst this;obtain⟨u,hu,hru⟩:=h1.get hy;exact qfN S.tb hv (S.fo _ _ _ hq) hu (h.post he hru)
 replace he:=qf he;obtain⟨l,hl,he⟩:=he
 replace he:=qf he;obtain⟨y,hy,he⟩:=he
 have:=qbG hl;subst this
 cases hr with|t hr=>cases hr with|agg h1 h2=>
 cases g with
 | true=>
  unfold ldT at hy;simp only[zg,T.cells]at hy;cases hk:Nat.blt 0 kk with
  | false=>rw[hk]at hy;simp at hy
  | true=>
   rw[hk]at hy;simp only[zg]at hy;replace hy:=qf hy;obtain⟨c,hc,hy⟩:=hy
   simp at hy;subst hy;obtain⟨_,c2,_⟩:=ZS hc;exact qgc S.tb hv (S.fo _ _ _ hq) (h.post he (.t (.agg (by rw[c2];exact(h1.drop o).take kk) fun z hz=>h2 z (qdA hc z hz))))
 | false=>
  obtain⟨_,hb⟩:=ZT (x:=.agg l) (by simpa[T.cells]using h1) (by simpa[T.cells]using h2) hy
  obtain⟨u,hu,hru,_⟩:=hb rfl;exact qfN S.tb hv (S.fo _ _ _ hq) hu (h.post he (.t hru))
theorem qtm{V:qc}{kk i:Nat}{l:List T}{vs:List Value}{z:T}(h:RepA V (l.flatMap T.cells) vs)(hw:∀x∈l,x.cells.length=kk)(hi:l[i]?=some z) :
 RepA V z.cells ((vs.drop (i*kk)).take kk):=by
 have hlt:i<l.length:=(zu.1 hi).1
 have hz:=hw z (zO hi)
 have h1:=(h.drop (i*kk)).take kk
 rw[← yY i hw]at h1;have hd:l.drop i=z::l.drop (i+1):=by
  rw[Kj hlt];congr 1;exact(zu.1 hi).2
 rw[hd,Kx,List.take_append_of_le_length (by omega),zP (by omega)]at h1;exact h1
theorem qkP{vs:List Value}{o m j:Nat}{c:Value}(h:((vs.drop o).take m)[j]?=some c):vs[o+j]?=some c:=by
 rw[zZ]at h;split at h
 · rwa [KZ]at h
 · cases h
theorem Zk{n:Nat}(h:n≤maxLen):inR .i64 (n:Int)=true:=by
 simp only[inR,IntKind.min,IntKind.max,IntKind.bits,IntKind.signed,zp,zY,maxLen]at h ⊢;simp at h ⊢;omega
theorem qps(c:UInt8):inR .u8 (c.toNat:Int)=true:=by
 have:=c.toNat_lt
 simp only[inR,IntKind.min,IntKind.max,IntKind.bits,IntKind.signed,zp,zY];simp at this ⊢;omega
theorem qpt{l:List T}{j:Int}{z:T}(h:idx l j=some z):0≤j∧l[j.toNat]?=some z:=by
 unfold idx at h;by_cases h0:0≤j
 · simp[h0]at h;exact⟨h0,h⟩
 · simp[h0]at h
theorem qyk(S:Sound P E.T){t:Nat}{x i:Operand}(h:Pre fr E V I st L G xs)(hx:jm E st V I L x)(hi:jm E st V I L i)(he:qsZ E st t x i k=some r):Opr P n X L V G ⟨ds,.indexAddr t x i,ty,pos,af,gd⟩ (jv fr r k V I st L G):=by
 unfold qsZ at he;replace he:=qf he;obtain⟨sv,hsv,he⟩:=he
 obtain⟨v,hv,hr⟩:=hx sv hsv;replace he:=qf he;obtain⟨si,hsi,he⟩:=he
 obtain⟨vi,hvi,hri⟩:=hi si hsi;unfold ixO at he;replace he:=qf he;obtain⟨p,hp,he⟩:=he
 replace he:=qf he;obtain⟨j,hj,he⟩:=he
 obtain⟨κ,rfl⟩:=YI hj;have:=jY hri;subst this
 have hE:=S.el t (p.1,p.2) hp
 have tree:∀ {l:List T} {z:T},idx l j=some z→RepS V I (.t (.sl p.2 l)) v→k (.t (.pt z 0)) st=some r→Opr P n X L V G ⟨ds,.indexAddr t x i,ty,pos,af,gd⟩ (jv fr r k V I st L G):=by
  intro l z hz hr he;obtain⟨h0,hz⟩:=qpt hz;have hlt:j.toNat<l.length:=(zu.1 hz).1
  cases hr with|t hr=>cases hr with|@sl _ _ vs a cap a1 a2 a3 a4 a5 a6=>
  rcases a6 with a6|⟨b,off,rfl,a6⟩
  · subst a6;simp at hz
  · refine qB S.tb hv hvi hE h0 (by omega) (h.post he (.t ?_))
    have:=Rep.pt (V:=V) (x:=z) (off:=0) (b:=b) (o:=off+j.toNat*p.2) (qtm a1 a3 hz) (fun y hy=>a2 y (KU.2 ⟨z,zO hz,hy⟩)) (fun q c hq=>by
     have:=a6 _ _ (qkP hq)
     rwa [← Kp]at this)
    simpa using this
 split at he
 · rename_i m off len
   split at he
   · rename_i fx e w l hn
     cases hck:(Nat.beq w p.2&&decide (0≤j)&&decide (j<(len:Int)))with
     | false=>rw[hck]at he;simp at he
     | true=>
      rw[hck]at he;simp only[zg]at he;simp only[zp,zY]at hck;obtain⟨⟨hw,h0⟩,h1⟩:=hck;have:=zd hw;subst this
      cases hr with
      | @osl _ _ _ b k' ct cap hI h3 h4 h5=>
       rcases h.mr.row hn with⟨b',ct',cur,a1,a2,a3,a4,a5,a6,a7,a8⟩|⟨a1,rfl⟩
       · rw[hI]at a1
         simp only[za,IE.row.injEq]at a1;obtain⟨rfl,rfl,rfl⟩:=a1;refine qB S.tb hv hvi hE h0 h1 (h.post he ?_)
         have:=RepS.ep (V:=V) (I:=I) (n:=m) (i:=off+j.toNat) (off:=0) hI
         rw[KQ,zR]at this;exact this
       · rw[hI]at a1;cases a1
      | osl0 _ _=>omega
      | oslv _=>simp at h1;omega
      | oslp hI _=>
       rcases h.mr.row hn with⟨b',ct',cur,a1,_⟩|⟨a1,_⟩ <;> (rw[hI]at a1;cases a1)
   · rename_i l hn
     cases hck:(Nat.beq p.2 1&&(Nat.beq off 0&&(decide (0≤j)&&decide (j<(len:Int)))))with
     | false=>rw[hck]at he;simp at he
     | true=>
      rw[hck]at he;simp only[zg]at he;simp only[zp,zY]at hck;obtain⟨hw,ho,h0,h1⟩:=hck;have hw:=zd hw;have:=zd ho;subst this
      obtain⟨b',vs,e,k1,k2,k3,k4⟩:=h.mr.cells hn;cases hr with
      | osl hI _ _ _=>rw[hI]at k1;cases k1
      | osl0 h0 _=>exact absurd rfl h0
      | oslv hI=>rw[hI]at k1;cases k1
      | oslp hI _=>
       refine qB S.tb hv hvi hE h0 h1 (h.post he ?_)
       rw[hw,KK,zt];exact .ref hI
   · simp at he
 · rename_i u k' l
   cases hb:Nat.beq k' p.2 with
   | false=>rw[hb]at he;simp at he
   | true=>
    rw[hb]at he;simp only[zg]at he;replace he:=qf he;obtain⟨z,hz,he⟩:=he
    have hk:=zd hb;subst hk;cases hr with|t hr=>cases hr with|ql hr=>
    exact tree (qs7 hz) (.t hr) he
 · replace he:=qf he;obtain⟨l,hl,he⟩:=he
   replace he:=qf he;obtain⟨z,hz,he⟩:=he
   exact tree hz (qbF hl hr) he
theorem qwq(S:Sound P E.T){x:Operand}{ts:Array TypeId}{t:Nat}{sv:SV}(h:Pre fr E V I st L G xs)(hx:jm E st V I L x)(hs:opd E st x=some sv)(ht:ts[0]?=some t)(he:qsW E sv t (fun u=>k u st)=some r) :
 Opr P n X L V G ⟨ds,.call { callee:=.builtin .len,args:=#[x],argTypes:=ts },ty,pos,af,gd⟩ (jv fr r k V I st L G):=by
 obtain⟨v,hv,hr⟩:=hx sv hs;unfold qsW at he;split at he
 · rename_i hk
   replace he:=qf he;obtain⟨b,hb,he⟩:=he
   have:=qcD hb;subst this
   have hr0:=hr;have:=jY hr;subst this
   have hsz:=qlT hr0;exact Zh hv ht (S.str _ hk) (h.post he (JB (Zk hsz)))
 · split at he
   · rename_i p hp
     have hE:=S.el t (p.1,p.2) hp
     split at he
     · cases hr with
       | osl h1 h2 h3 _=>exact jP S.tb hv ht hE (h.post he (JB (Zk (by omega))))
       | osl0 h1 h2=>exact jP S.tb hv ht hE (h.post he (JB (Zk (Wv _))))
       | oslv h1=>exact jP S.tb hv ht hE (h.post he (JB (Zk (Wv _))))
       | oslp h1 h2=>exact jP S.tb hv ht hE (h.post he (JB (Zk h2)))
     · rename_i u k' l
       cases hb:Nat.beq k' p.2 with
       | false=>rw[hb]at he;simp at he
       | true=>
        rw[hb]at he;simp only[zg]at he;have hk:=zd hb;subst hk;cases hr with|t hr=>cases hr with|ql hr=>cases hr with|sl a1 a2 a3 a4 a5 a6=>exact jP S.tb hv ht hE (h.post he (by rw[zV]at a4 ⊢;exact JB (Zk (by omega))))
     · replace he:=qf he;obtain⟨l,hl,he⟩:=he
       have hr:=qbF hl hr;cases hr with|t hr=>cases hr with|sl a1 a2 a3 a4 a5 a6=>exact jP S.tb hv ht hE (h.post he (JB (Zk (by omega))))
   · simp at he
theorem qvj(S:Sound P E.T){x y:Operand}{ts:Array TypeId}(b:Bool)(h:Pre fr E V I st L G xs)(hx:jm E st V I L x)(hy:jm E st V I L y)(he:mmO E st (bif b then max else min) x y ts k=some r) :
 Opr P n X L V G ⟨ds,.call { callee:=.builtin (bif b then .max else .min),args:=#[x,y],argTypes:=ts },ty,pos,af,gd⟩ (jv fr r k V I st L G):=by
 unfold mmO at he;replace he:=qf he;obtain⟨sx,hsx,he⟩:=he
 replace he:=qf he;obtain⟨sy,hsy,he⟩:=he
 replace he:=qf he;obtain⟨t,ht,he⟩:=he
 obtain⟨vx,hvx,hrx⟩:=hx sx hsx;obtain⟨vy,hvy,hry⟩:=hy sy hsy;split at he
 · replace he:=qf he;obtain⟨p,hp,he⟩:=he
   replace he:=qf he;obtain⟨q,hq,he⟩:=he
   have:=J2 hp;subst this
   have:=J2 hq;subst this
   have hpr:=qew hrx;have hqr:=qew hry;have:=jY hrx;subst this
   have:=jY hry;subst this
   cases b with
   | true=>exact qv6 hvx hvy (h.post he (JB (by show inR _ (Max.max p q)=true;rw[Int.max_def];split <;> assumption)))
   | false=>exact qhb hvx hvy (h.post he (JB (by show inR _ (Min.min p q)=true;rw[Int.min_def];split <;> assumption)))
 · simp at he
theorem qtn(S:Sound P E.T){t:Nat}{x i:Operand}(h:Pre fr E V I st L G xs)(hx:jm E st V I L x)(hi:jm E st V I L i)(he:evI E st t x i k=some r):Opr P n X L V G ⟨ds,.index t x i,ty,pos,af,gd⟩ (jv fr r k V I st L G):=by
 unfold evI at he;split at he
 · rename_i hk
   replace he:=qf he;obtain⟨sx,hsx,he⟩:=he
   replace he:=qf he;obtain⟨si,hsi,he⟩:=he
   obtain⟨vx,hvx,hrx⟩:=hx sx hsx;obtain⟨vi,hvi,hri⟩:=hi si hsi;replace he:=qf he;obtain⟨s,hs,he⟩:=he
   replace he:=qf he;obtain⟨j,hj,he⟩:=he
   have:=qcD hs;subst this
   have:=jY hrx;subst this
   obtain⟨κ,rfl⟩:=YI hj;have:=jY hri;subst this
   by_cases h0:0≤j
   · simp only[h0,WX,zg]at he
     replace he:=qf he;obtain⟨c,hc,he⟩:=he
     exact qnq hvx hvi (S.str _ hk) h0 hc (h.post he (JB (qps c)))
   · simp[h0]at he
 · rename_i m hk
   replace he:=qf he;obtain⟨sx,hsx,he⟩:=he
   replace he:=qf he;obtain⟨si,hsi,he⟩:=he
   obtain⟨vx,hvx,hrx⟩:=hx sx hsx;obtain⟨vi,hvi,hri⟩:=hi si hsi;replace he:=qf he;obtain⟨l,hl,he⟩:=he
   replace he:=qf he;obtain⟨j,hj,he⟩:=he
   obtain⟨κ,rfl⟩:=YI hj;have:=jY hri;subst this
   obtain⟨e,hu,hty⟩:=S.arr _ _ _ _ hk;cases hb:(decide (0≤j)&&decide (j<(m:Int)))with
   | false=>rw[hb]at he;simp at he
   | true=>
   rw[hb]at he;simp only[zg]at he;simp only[zp,zY]at hb;obtain⟨i0,c,hc,hj0,hg,he⟩:=qfX he;have hc:l[j.toNat]?=some c:=by rw[hj0];simpa using hc
   have hl2:=qbG hl;subst hl2;cases hrx with|t hrx=>
   cases hrx with|agg ha hna=>
   obtain⟨u,hu2,hr2⟩:=ha.get hc;exact qnB hvx hvi hu hty rfl hb.1 hb.2 hu2 (h.post he (.t hr2))
 · simp at he
end
end Su
end
