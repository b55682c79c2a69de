/-
  An evaluator of the program's functions over trees of values, proved sound. No condition.
-/
import Derived.Test.YtnegfdebjikfiaaGreatSuG
set_option linter.unusedVariables false
set_option linter.unusedSimpArgs false
section
namespace Su
open Go Fly
theorem qgf{V:qb}:∀ {l:List T} {vs:List Value} {c:List T} {us:List Value} {r:List T},RepA V l vs→RepA V c us→qV l c=some r→∃rs,js vs us=some rs∧RepA V r rs
 | l,vs,[],_,r,h,.nil,e=>by
  have:r=l:=by cases l <;> simp[qV]at e <;> first | exact e.symm | exact e
  subst this;exact⟨vs,by cases vs <;> simp[js],h⟩
 | [],_,x::c,_,r,.nil,.cons k k',e=>by simp[qV]at e
 | y::l,_,x::c,_,r,.cons h h',.cons (v:=v) k k',e=>by
  simp only[qV]at e;replace e:=qa e;obtain⟨r',hr,e⟩:=e
  simp at e;subst e;obtain⟨rs,h1,h2⟩:=qgf h' k' hr;exact⟨v::rs,by simp[js,h1],.cons k h2⟩
theorem qeF{V:qb}:∀ {l:List T} {vs:List Value} {o:Nat} {c:List T} {us:List Value} {r:List T},RepA V l vs→RepA V c us→jG l o c=some r→∃rs,yd vs o us=some rs∧RepA V r rs
 | l,vs,0,c,us,r,h,hc,e=>by
  have e':qV l c=some r:=by cases l <;> simpa[jG]using e
  obtain⟨rs,h1,h2⟩:=qgf h hc e';exact⟨rs,by cases vs <;> simpa[yd]using h1,h2⟩
 | [],_,o+1,c,us,r,.nil,hc,e=>by simp[jG]at e
 | y::l,_,o+1,c,us,r,.cons (v:=v) h h',hc,e=>by
  simp only[jG]at e;replace e:=qa e;obtain⟨r',hr,e⟩:=e
  simp at e;subst e;obtain⟨rs,h1,h2⟩:=qeF h' hc hr;exact⟨v::rs,by simp[yd,h1],.cons h h2⟩
theorem qgg{α:Type}:∀ {l c r:List α},qV l c=some r→r.length=l.length
 | l,[],r,e=>by
  have:r=l:=by cases l <;> simp[qV]at e <;> first | exact e.symm | exact e
  rw[this]
 | [],x::c,r,e=>by simp[qV]at e
 | y::l,x::c,r,e=>by
  simp only[qV]at e;replace e:=qa e;obtain⟨r',hr,e⟩:=e
  simp at e;subst e;simp[qgg hr]
theorem Zr{α:Type}:∀ {l:List α} {o:Nat} {c r:List α},jG l o c=some r→r.length=l.length
 | l,0,c,r,e=>by
  have e':qV l c=some r:=by cases l <;> simpa[jG]using e
  exact qgg e'
 | [],o+1,c,r,e=>by simp[jG]at e
 | y::l,o+1,c,r,e=>by
  simp only[jG]at e;replace e:=qa e;obtain⟨r',hr,e⟩:=e
  simp at e;subst e;simp[Zr hr]
theorem qqJ:∀(l r:List Value),App l r (l++r)
 | [],_=>.nil
 | _::l,r=>.cons (qqJ l r)
theorem qbl{V:qb}{I:List IE}:∀ {l:List Value} {hs:List (Option (Nat×Nat))} {nn:Nat},l.all qcy=true→(∀j,j<(zeroCells nn l hs).2.length→I[nn+j]?=some .vrow) →
 RepSs V I (zeroCells nn l hs).1 l∧(∀s∈(zeroCells nn l hs).1,qS s=true)∧GRel V I (List.replicate (zeroCells nn l hs).2.length .vrow) (zeroCells nn l hs).2 []:=by
 intro l;induction l with
 | nil=>intro hs nn _ _;exact⟨by simp[zeroCells];exact .nil,by simp[zeroCells],by simp[zeroCells];exact .nil⟩
 | cons v l ih=>
  intro hs nn h hI;simp only[VZ,zl]at h;have hz:=qhV (V:=V) h.1
  simp only[zeroCells]at hI ⊢;cases hq:ZS v hs with
  | some p=>
   have:=qbj hq;subst this
   rw[hq]at hI;simp only[]at hI ⊢;have h0:=hI 0 (by simp)
   obtain⟨i1,i2,i3⟩:=ih (hs:=hs.tail) (nn:=nn+1) h.2 (fun j hj=>by have:=hI (j+1) (by simpa using hj);rwa [show nn+1+j=nn+(j+1) by omega])
   exact⟨.cons (.oslv (by simpa using h0)) i1,by simpa[qS]using i2,by
    simp only[zw,Wg];exact .cons (g:=[]) (G:=[]) .vrow i3⟩
  | none=>
   rw[hq]at hI;simp only[]at hI ⊢;obtain⟨i1,i2,i3⟩:=ih (hs:=hs.tail) (nn:=nn) h.2 hI
   exact⟨.cons (.t hz.1) i1,by simpa[qS,hz.2]using i2,i3⟩
section
variable {fr:Bool} {P:Program} {E:Env} {n:Nat} {X:Cx} {L:Lo} {V:qb} {I:List IE} {G:Own} {st:St} {O:Type} {r:O} {k:SV→St→Option O} {xs:List Operand}
variable {ty:TypeId} {pos:String} {af:Array Edge} {gd:Option (Nat×Bool)} {ds:Option Tmp}
theorem qqK(S:Sound P E.T){e:TypeId}(h:Pre fr E V I st L G xs)(he:qhO E fr st e k=some r):Opr P n X L V G ⟨ds,.alloc e,ty,pos,af,gd⟩ (qR fr r k V I st L G):=by
 unfold qhO at he;cases fr with
 | false=>simp at he
 | true=>
  simp only[zf]at he;replace he:=qa he;obtain⟨z,hz,he⟩:=he
  have hS:=h.full rfl;refine jf (Ja S.tb (S.ze _ _ hz) fun b hf=>?_)
  have hc:=S.zc _ _ hz;have hlen:=hS.len;obtain⟨j1,j2,j3⟩:=qbl (V:=V) (I:=I++(List.replicate (zeroCells st.H.length z (E.T.zs e)).2.length .vrow++[.blk b])) (l:=z) (hs:=E.T.zs e) (nn:=st.H.length) hc (fun j hj=>by
   rw[zO (by omega),Ki (by simp;omega),VX,zR (by omega)])
  have h3:=hS.new (Is:=List.replicate (zeroCells st.H.length z (E.T.zs e)).2.length .vrow++[.blk b]) (Hs:=(zeroCells st.H.length z (E.T.zs e)).2++[.cells (zeroCells st.H.length z (E.T.zs e)).1]) (g:=[(b,.cells z.toArray e (0,0))])
   (j3.append (G:=[]) (.cons (g:=[(b,.cells z.toArray e (0,0))]) (G:=[]) (.cells j1 j2) .nil))
  refine⟨V,_,Gh.refl hf,Sub.refl _,I++(List.replicate (zeroCells st.H.length z (E.T.zs e)).2.length .vrow++[.blk b]),_,_,he,?_,.ref ?_,?_⟩
  · have:(St.mk st.K st.Tm (st.H++((zeroCells st.H.length z (E.T.zs e)).2++[.cells (zeroCells st.H.length z (E.T.zs e)).1]))) = { st with H:=st.H++(zeroCells st.H.length z (E.T.zs e)).2++[.cells (zeroCells st.H.length z (E.T.zs e)).1] }:=by rw[zM]
    rw[← this];exact h3
  · rw[zO (by omega),zO (by simp;omega)]
    simp[hlen]
  · have:=IPf.app (H:=st.H) (Hs:=(zeroCells st.H.length z (E.T.zs e)).2++[.cells (zeroCells st.H.length z (E.T.zs e)).1]) (I:=I) (Is:=List.replicate (zeroCells st.H.length z (E.T.zs e)).2.length .vrow++[.blk b]) hlen
    rw[← zM]at this;exact this
theorem qqL{g:Bool}{w:Nat}{sv:SV}{v:Value}{c:List SV}(hr:RepS V I sv v)(e:qqm g w sv=some c):∃us:List Value,v.cells=us.toArray∧RepSs V I c us∧us.length=w:=by
 unfold qqm at e;cases g with
 | true=>
  simp only[zf]at e;split at e
  · rename_i l
    cases hb:Nat.beq l.length w with
    | false=>rw[hb]at e;simp at e
    | true=>
     rw[hb]at e;simp only[zf,zg]at e;subst e;cases hr with | t hr=>cases hr with | agg h1 h2=>
     exact⟨_,rfl,RepSs.ofT h1,by rw[← h1.length];exact zk hb⟩
  · rename_i l
    cases hb:(Nat.beq l.length w&&QK l)with
    | false=>rw[hb]at e;simp at e
    | true=>
     rw[hb]at e;simp only[zf,zg]at e;subst e;simp only[zl]at hb;cases hr with | st h1=>
     exact⟨_,rfl,h1,by rw[← h1.length];exact zk hb.1⟩
  · simp at e
 | false=>
  simp only[zi]at e;cases ho:(J2 sv&&Nat.beq w 1)with
  | false=>rw[ho]at e;simp at e
  | true=>
   rw[ho]at e;simp only[zf,zg]at e;subst e;simp only[zl]at ho;obtain⟨h1,h2,h3⟩:=Zo hr ho.1;exact⟨[v],h2,.cons hr .nil,(zk ho.2).symm⟩
theorem qgh:∀ {l:List SV} {vs:List Value} {c:List SV} {us:List Value} {r:List SV},RepSs V I l vs→RepSs V I c us→qV l c=some r→∃rs,js vs us=some rs∧RepSs V I r rs
 | l,vs,[],_,r,h,.nil,e=>by
  have:r=l:=by cases l <;> simp[qV]at e <;> first | exact e.symm | exact e
  subst this;exact⟨vs,by cases vs <;> simp[js],h⟩
 | [],_,x::c,_,r,.nil,.cons k k',e=>by simp[qV]at e
 | y::l,_,x::c,_,r,.cons h h',.cons (v:=v) k k',e=>by
  simp only[qV]at e;replace e:=qa e;obtain⟨r',hr,e⟩:=e
  simp at e;subst e;obtain⟨rs,h1,h2⟩:=qgh h' k' hr;exact⟨v::rs,by simp[js,h1],.cons k h2⟩
theorem qjp:∀ {l:List SV} {vs:List Value} {o:Nat} {c:List SV} {us:List Value} {r:List SV},RepSs V I l vs→RepSs V I c us→jG l o c=some r→∃rs,yd vs o us=some rs∧RepSs V I r rs
 | l,vs,0,c,us,r,h,hc,e=>by
  have e':qV l c=some r:=by cases l <;> simpa[jG]using e
  obtain⟨rs,h1,h2⟩:=qgh h hc e';exact⟨rs,by cases vs <;> simpa[yd]using h1,h2⟩
 | [],_,o+1,c,us,r,.nil,hc,e=>by simp[jG]at e
 | y::l,_,o+1,c,us,r,.cons (v:=v) h h',hc,e=>by
  simp only[jG]at e;replace e:=qa e;obtain⟨r',hr,e⟩:=e
  simp at e;subst e;obtain⟨rs,h1,h2⟩:=qjp h' hc hr;exact⟨v::rs,by simp[yd,h1],.cons h h2⟩
theorem qgi(S:Sound P E.T){I':List IE}(hI:Ile I I'){t:Nat}:∀(parts:List (Nat×Operand)) (z r:List SV) (zv:List Value),(∀x∈xs,qM E st V I L x)→(∀p∈parts,p.2∈xs)→RepSs V I' z zv →
 qcA E t st z parts=some r→∃rv,Fill S.tb L t zv parts rv∧RepSs V I' r rv:=by
 intro parts;induction parts with
 | nil=>
  intro z r zv _ _ hz e;simp only[qcA,zg]at e;subst e;exact⟨zv,.nil,hz⟩
 | cons p parts ih=>
  intro z r zv h hm hz e;obtain⟨i,x⟩:=p;simp only[qcA]at e;replace e:=qa e;obtain⟨q,hq,e⟩:=e
  replace e:=qa e;obtain⟨sv,hsv,e⟩:=e
  replace e:=qa e;obtain⟨c,hcT,e⟩:=e
  replace e:=qa e;obtain⟨z',hz',e⟩:=e
  obtain⟨v,hv,hr⟩:=h x (hm _ (zq ..)) sv hsv
  obtain⟨us,u1,u2,hul⟩:=qqL (hr.mono (Sub.refl _) hI) hcT
  obtain⟨rs,p1,p2⟩:=qjp hz u2 hz';obtain⟨rv,f2,r2⟩:=ih z' r rs h (fun p hp=>hm p (zo _ hp)) p2 e
  exact⟨rv,.cons (S.fo _ _ _ (show E.T.fo t i=some (q.1,q.2.1,q.2.2) from hq)) hv u1 hul p1 f2,r2⟩
theorem qgj{V:qb}{I:List IE}{ns:List Nat}:∀ {Hs:List OB} {nn:Nat} {Is:List IE},GRel V I Is Hs []→GRel V I Is (qmY ns nn Hs) []
 | [],_,_,.nil=>.nil
 | b::Hs,nn,_,h=>by
  generalize hg:([]:Own)=g at h
  cases h with
  | cons h h'=>
   rename_i ie g1 Is g2;have h3:=List.append_eq_nil_iff.1 hg.symm;obtain⟨rfl,rfl⟩:=h3;have:=qgj (ns:=ns) (nn:=nn+1) h'
   show GRel V I _ ((bif Ju ns nn then b else .dead)::qmY ns (nn+1) Hs) []
   cases Ju ns nn with
   | true=>exact .cons (g:=[]) (G:=[]) h this
   | false=>exact .cons (g:=[]) (G:=[]) .dead this
theorem qqM(S:Sound P E.T){t:Nat}{parts:Array (Nat×Operand)}(h:Pre fr E V I st L G xs)(hm:∀p∈parts.toList,p.2∈xs)(he:qhP E fr st t parts k=some r):Opr P n X L V G ⟨ds,.build t parts,ty,pos,af,gd⟩ (qR fr r k V I st L G):=by
 obtain⟨pl,rfl⟩:∃l:List (Nat×Operand),parts=l.toArray:=⟨parts.toList,by simp⟩
 unfold qhP at he;replace he:=qa he;obtain⟨z,hz,he⟩:=he
 replace he:=qa he;obtain⟨f0,hf0,he⟩:=he
 cases hb:(fr&&E.T.bz E.f)with
 | false=>
  rw[hb]at he;simp only[zi]at he;replace he:=qa he;obtain⟨p,hp,he⟩:=he
  have z1:RepA V (bif E.T.bz E.f then z.map T.s else zCs z (E.T.zs t)) z:=by
   cases E.T.bz E.f with
   | true=>exact qm1 (S.zc _ _ hz)
   | false=>exact(qbk (V:=V) (hs:=E.T.zs t) (S.zc _ _ hz)).1
  obtain⟨rv,f1,r1⟩:=qgi S (Ile.refl I) pl _ p z h.opd hm (RepSs.ofT z1) (by simpa using hp)
  obtain⟨sv,hk,hr⟩:=Zp r1 he;exact Jb S.tb (S.al _ _ _ hf0) (S.ze _ _ hz) (S.fo _ _ _ hf0) f1 (h.post hk hr)
 | true=>
  rw[hb]at he;simp only[zl]at hb;obtain⟨rfl,-⟩:=hb
  simp only[zf]at he;replace he:=qa he;obtain⟨p,hp,he⟩:=he
  have hS:=h.full rfl;have hlen:=hS.len;obtain⟨j1,j2,j3⟩:=qbl (V:=V) (I:=I++(List.replicate (zeroCells st.H.length z (E.T.zs t)).2.length .vrow)) (l:=z) (hs:=E.T.zs t) (nn:=st.H.length) (S.zc _ _ hz) (fun j hj=>by
   rw[zO (by omega),VX,zR (by omega)])
  obtain⟨rv,f1,r1⟩:=qgi S (Ile.app I _) pl _ p z h.opd hm j1 (by simpa using hp)
  obtain⟨sv,hk,hr⟩:=Zp r1 he;have h3:=hS.new (g:=[]) (qgj (ns:=qaH.go p) (nn:=st.H.length) j3)
  refine Jb S.tb (S.al _ _ _ hf0) (S.ze _ _ hz) (S.fo _ _ _ hf0) f1 ⟨V,G,Gh.refl h.free,Sub.refl _,_,_,_,hk,h3,hr,IPf.app hlen⟩
theorem qwG(g:Bool)(w:Nat):∀(parts:List (Nat×Operand)) (i:Nat) (st:St) (l:List T) (st':St) (V:qb) (G:Own),Pre fr E V I st L G xs→(∀p∈parts,p.2∈xs)→qer E fr g w st i parts=some (l,st') →
 ∃V' G' rv,GhF fr I L V G st V' G' st'∧Cat L w i parts rv∧RepA V' (l.flatMap T.cells) rv∧(∀x∈l.flatMap T.cells,x.isAgg=false)∧(∀x∈l,x.cells.length=w)∧l.length=parts.length:=by
 intro parts;induction parts with
 | nil=>
  intro i st l st' V G h _ e;simp only[qer,zg,Kc]at e;obtain⟨rfl,rfl⟩:=e;exact⟨V,G,[],h.ghrefl,.nil,.nil,by simp,by simp,rfl⟩
 | cons p parts ih=>
  intro i st l st' V G h hm e;obtain⟨j,x⟩:=p;simp only[qer]at e;cases hij:Nat.beq i j with
  | false=>rw[hij]at e;simp at e
  | true=>
   rw[hij]at e;simp only[zf]at e;have:=zk hij;subst this
   replace e:=qa e;obtain⟨sv,hsv,e⟩:=e
   replace e:=qa e;obtain⟨c,hcT,e⟩:=e
   obtain⟨v,hv,hr⟩:=h.opd x (hm _ (zq ..)) sv hsv
   cases hck:(Nat.beq c.1.cells.length w&&(bif g then c.1.isAgg else !c.1.isAgg))with
   | false=>rw[hck]at e;simp at e
   | true=>
    rw[hck]at e;simp only[zf]at e;simp only[zl]at hck;have hlen:=zk hck.1;replace e:=qa e;obtain⟨q,hq,e⟩:=e
    simp only[zg,Kc]at e;obtain⟨rfl,rfl⟩:=e;obtain⟨V1,G1,g1,r1⟩:=qhZ h hr (x:=c.1) (st':=c.2) (by rw[hcT])
    obtain⟨us,u1,u2,u3⟩:=r1.cells;have hul:us.length=w:=by rw[← u2.length];exact hlen
    obtain⟨V2,G2,rv,g2,f2,r2,c2,w2,l2⟩:=ih (i+1) c.2 q.1 q.2 V1 G1 (h.step g1) (fun p hp=>hm p (zo _ hp)) (by rw[hq])
    refine⟨V2,G2,us++rv,g1.trans g2,.cons hv u1 hul f2 (qqJ _ _),by rw[Kt];exact(u2.mono g2.gh.sub).append r2,?_,?_,by simp[l2]⟩
    · intro y hy
      rw[Kt,zF]at hy;exact hy.elim (u3 y) (c2 y)
    · intro y hy
      rcases zA.1 hy with rfl | hy
      · exact hlen
      · exact w2 y hy
theorem qAR(T:Tabs P){Q:Value→qb→Own→Prop}{t e k m:Nat}{z r:List Value}{parts:List (Nat×Operand)}(hE:T.el t=some (e,k))(hz:T.ze e=some z)(hm:parts.length=m)(hs:m*k≤16777216)(hc:Cat L k 0 parts r)
 (k':∀b,V b=none→Q (.slice (some ⟨b,0,none⟩) m m) (addV V b (.cells r.toArray e (0,0))) G):Opr P n X L V G ⟨ds,.buildSlice t m parts.toArray,ty,pos,af,gd⟩ Q:=fun a ha w hw=>by
 refine .inl ⟨_,_,addV V w.heap.size (.cells r.toArray e (0,0)),G,.inl ?_,k' w.heap.size ?_,(hw.alloc (.cells r.toArray e (0,0))).freeze⟩
 · exact bs_run T hE hz hm hs hc ha w
 · cases h:V w.heap.size with
   | none=>rfl
   | some o=>exact absurd (hw.vlt (r:=w.heap.size) (by simp[h])) (by omega)
theorem qjq:∀(parts:List (Nat×Operand)) (i:Nat) (svs:List SV),(∀x∈xs,qM E st V I L x)→(∀p∈parts,p.2∈xs)→qjk E st i parts=some svs →
 ∃rv,Cat L 1 i parts rv∧RepSs V I svs rv∧∀s∈svs,qS s=true
 | [],i,svs,_,_,e=>by
  simp only[qjk,zg]at e;subst e;exact⟨[],.nil,.nil,by simp⟩
 | (j,x)::parts,i,svs,h,hm,e=>by
  simp only[qjk]at e;cases hij:Nat.beq i j with
  | false=>rw[hij]at e;simp at e
  | true=>
   rw[hij]at e;simp only[zf]at e;have:=zk hij;subst this
   replace e:=qa e;obtain⟨sv,hsv,e⟩:=e
   obtain⟨v,hv,hr⟩:=h x (hm _ (zq ..)) sv hsv
   split at e
   · replace e:=qa e;obtain⟨l,hl,e⟩:=e
     simp only[zg]at e;subst e;obtain⟨rv,f1,r1,c1⟩:=qjq parts (i+1) l h (fun p hp=>hm p (zo _ hp)) hl
     cases hr with | ref hI=>
     exact⟨_::rv,.cons hv rfl rfl f1 (.cons .nil),.cons (.ref hI) r1,fun s hs=>by
      rcases zA.1 hs with rfl | hs
      · rfl
      · exact c1 s hs⟩
   · simp at e
theorem qo7(S:Sound P E.T){t m:Nat}{parts:Array (Nat×Operand)}(h:Pre fr E V I st L G xs)(hm:∀p∈parts.toList,p.2∈xs)(he:qeu E fr st t m parts k=some r):Opr P n X L V G ⟨ds,.buildSlice t m parts,ty,pos,af,gd⟩ (qR fr r k V I st L G):=by
 obtain⟨pl,rfl⟩:∃l:List (Nat×Operand),parts=l.toArray:=⟨parts.toList,by simp⟩
 unfold qeu at he;cases hir:(fr&&qqo E st pl.toArray.toList)with
 | true=>
  rw[hir]at he;simp only[zl]at hir;obtain⟨rfl,-⟩:=hir
  simp only[zf]at he;cases hb:Nat.beq pl.toArray.size m with
  | false=>rw[hb]at he;simp at he
  | true=>
  rw[hb]at he;simp only[zf]at he;have hpl:pl.length=m:=by simpa using zk hb
  replace he:=qa he;obtain⟨p,hp,he⟩:=he
  replace he:=qa he;obtain⟨z,hz,he⟩:=he
  cases hck:(Nat.beq p.2 1&&Nat.ble m 16777216)with
  | false=>rw[hck]at he;simp at he
  | true=>
  rw[hck]at he;simp only[zf]at he;simp only[zl]at hck;have hw1:=zk hck.1;have hml:=zr hck.2;replace he:=qa he;obtain⟨svs,hsv,he⟩:=he
  obtain⟨rv,f1,r1,c1⟩:=qjq pl 0 svs h.opd hm (by simpa using hsv)
  rw[← hw1]at f1;have hS:=h.full rfl;have hE:=S.el t (p.1,p.2) hp
  refine jf (jB S.tb hE (S.ze _ _ hz) hpl (by rw[hw1];omega) f1 fun b hf=>?_)
  have h3:=hS.new (Is:=[.blk b]) (Hs:=[.cells svs]) (g:=[(b,.cells rv.toArray p.1 (0,0))])
   (.cons (g:=[(b,.cells rv.toArray p.1 (0,0))]) (G:=[]) (.cells (r1.mono (Sub.refl _) (Ile.app _ _)) c1) .nil)
  refine⟨V,_,Gh.refl hf,Sub.refl _,_,_,_,he,h3,?_,IPf.app hS.len⟩
  exact .oslp (by rw[← hS.len];simp) (by simp[maxLen];omega)
 | false=>
 rw[hir,zi]at he;cases hb:Nat.beq pl.toArray.size m with
 | false=>rw[hb]at he;simp at he
 | true=>
  rw[hb]at he;simp only[zf]at he;have hpl:pl.length=m:=by simpa using zk hb
  replace he:=qa he;obtain⟨p,hp,he⟩:=he
  replace he:=qa he;obtain⟨q,hq,he⟩:=he
  replace he:=qa he;obtain⟨z,hz,he⟩:=he
  cases hck:(Nat.ble (m*p.2) 16777216&&Nat.ble m maxLen)with
  | false=>rw[hck]at he;simp at he
  | true=>
   rw[hck]at he;simp only[zf]at he;simp only[zl]at hck;have hs:=zr hck.1;have hml:=zr hck.2;replace he:=qga _ _ _ _ _ _ _ _ he
   replace he:=qa he;obtain⟨l,hl,he⟩:=he
   obtain⟨V1,G1,rv,g1,f1,r1,c1,w1,l1⟩:=qwG q.1 p.2 pl 0 st l.1 l.2 V G h hm (by simpa using hl)
   refine Jh g1 ?_
   have h1:=h.step g1;have hE:=S.el t (p.1,p.2) hp
   have hll:l.1.length=m:=by rw[l1,hpl]
   cases fr with
   | true=>
    simp only[zf]at he;have hS:=h1.full rfl;refine jf (jB S.tb hE (S.ze _ _ hz) hpl hs f1 fun b hf=>?_)
    have hrl:rv.length=m*p.2:=by rw[← r1.length,yM w1,hll]
    have h3:=hS.new (Is:=[.row b p.2 m]) (Hs:=[.row false p.1 p.2 l.1]) (g:=[(b,.cells rv.toArray p.1 (0,0))])
     (.cons (g:=[(b,.cells rv.toArray p.1 (0,0))]) (G:=[]) (.row (by simpa using hrl) hml (by omega) (by rw[hll];simpa[← hrl]using r1) c1 w1) .nil)
    refine⟨V1,_,Gh.refl hf,Sub.refl _,_,_,_,he,h3,?_,IPf.app hS.len⟩
    have:=RepS.osl (V:=V1) (I:=I++[.row b p.2 m]) (n:=l.2.H.length) (off:=0) (len:=l.1.length) (b:=b) (k:=p.2) (ct:=m) (cap:=m) (by rw[← hS.len];simp) (by omega) hml ⟨by omega,by omega⟩
    rw[Vg]at this;rw[hll]at this ⊢;exact this
   | false=>
    simp only[zi]at he;refine qAR S.tb hE (S.ze _ _ hz) hpl hs f1 fun b hb=>?_
    obtain⟨rfl,rfl,hst⟩:=g1.no rfl;refine⟨Sub.addV hb,rfl,_,he,?_⟩
    have:=Rep.sl (V:=addV V1 b (.cells rv.toArray p.1 (0,0))) (k:=p.2) (l:=l.1) (vs:=rv) (a:=some ⟨b,0,none⟩) (cap:=m) (r1.mono (Sub.addV hb)) c1 w1 (by omega) hml
     (.inr ⟨b,0,rfl,fun j c hj=>⟨_,_,_,addV_same _ _ _,by simpa using hj⟩⟩)
    rw[hll]at this;exact .t this
end
end Su
end
section
namespace Su
open Go Fly
section
variable {fr:Bool} {P:Program} {E:Env} {n:Nat} {X:Cx} {L:Lo} {V:qb} {I:List IE} {G:Own} {st:St} {O:Type} {r:O} {k:SV→St→Option O} {xs:List Operand} {Q:Value→qb→Own→Prop}
variable {ty:TypeId} {pos:String} {af:Array Edge} {gd:Option (Nat×Bool)} {ds:Option Tmp}
theorem qwH(S:Sound P E.T){t:Nat}{x:Operand}(h:Pre fr E V I st L G xs)(hx:qM E st V I L x)(he:qlx E fr st t x k=some r):Opr P n X L V G ⟨ds,.load t x,ty,pos,af,gd⟩ (qR fr r k V I st L G):=by
 unfold qlx at he;replace he:=qa he;obtain⟨sv,hsv,he⟩:=he
 obtain⟨v,hv,hr⟩:=hx sv hsv;unfold ldO at he;replace he:=qa he;obtain⟨p,hp,he⟩:=he
 obtain⟨g,kk⟩:=p;split at he
 · replace he:=qhL he;obtain⟨y,hy,he⟩:=he
   exact qDZ S hv hr hp hy fun u hu=>h.post he (.t hu)
 · rename_i m off
   split at he
   · rename_i l hn
     cases g with
     | true=>
      simp only[zf]at he;replace he:=qa he;obtain⟨c,hc,he⟩:=he
      refine qwC S h.mr hv hr hp hn hc fun us hus=>?_
      obtain⟨sv',hk,hr'⟩:=Zp hus he;exact h.post hk hr'
     | false=>
      simp only[zi,qdJ]at he;replace he:=qa he;obtain⟨y,hy,he⟩:=he
      exact qwB S h.mr hv hr hp hn hy fun u hu=>h.post he hu
   · simp at he
 · rename_i m i off
   split at he
   · rename_i fx e w l hn
     replace he:=qa he;obtain⟨z,hz,he⟩:=he
     replace he:=qhL he;obtain⟨y,hy,he⟩:=he
     exact qD0 S h.mr hv hr hp hn hz hy fun u hu=>h.post he (.t hu)
   · simp at he
 · simp at he
theorem qqN{fn:Fn}{a b:Array Operand}(h:Pre fr E V I st L G xs)(ha:∀x∈a.toList,qM E st V I L x)(hb:∀x∈b.toList,qM E st V I L x)(he:qdK E st fn a b k=some r):Opr P n X L V G ⟨ds,.makeFunc fn a b,ty,pos,af,gd⟩ (qR fr r k V I st L G):=by
 have opds_ok:∀(l:List Operand) (svs:List SV),(∀x∈l,qM E st V I L x)→qfN E st l=some svs→∃vs,evs L l=some vs∧RepSs V I svs vs:=by
  intro l;induction l with
  | nil=>intro svs _ e;simp[qfN]at e;subst e;exact⟨[],rfl,.nil⟩
  | cons x l ih=>
   intro svs hm e;simp only[qfN]at e;replace e:=qa e;obtain⟨s,hs,e⟩:=e
   replace e:=qa e;obtain⟨q,hq,e⟩:=e
   simp at e;subst e;obtain⟨v,hv,hr⟩:=hm x (zq ..) s hs
   obtain⟨vs,hvs,hrs⟩:=ih q (fun y hy=>hm y (zo _ hy)) hq
   exact⟨v::vs,by simp[evs,hv,hvs],.cons hr hrs⟩
 obtain⟨al,rfl⟩:∃l:List Operand,a=l.toArray:=⟨a.toList,by simp⟩
 obtain⟨bl,rfl⟩:∃l:List Operand,b=l.toArray:=⟨b.toList,by simp⟩
 unfold qdK at he;split at he
 · replace he:=qa he;obtain⟨sa,hsa,he⟩:=he
   replace he:=qa he;obtain⟨sb,hsb,he⟩:=he
   obtain⟨va,hva,hra⟩:=opds_ok al sa (by simpa using ha) (by simpa using hsa)
   obtain⟨vb,hvb,hrb⟩:=opds_ok bl sb (by simpa using hb) (by simpa using hsb)
   exact qjl hva hvb (h.post he (.clo hra hrb))
 · simp at he
theorem qgk(T:Tabs P){s f:Nat}{x:Operand}{l:List Value}{o kk:Nat}(hx:ev L x=some (.agg l.toArray))(hf:T.fo s f=some (o,true,kk))
 (k':Q (.agg ((l.drop o).take kk).toArray) V G):Opr P n X L V G ⟨ds,.field s x f,ty,pos,af,gd⟩ Q:=by
 obtain⟨fs,y,hu,hy,ho,hT⟩:=qln (T.fo_ok _ _ _ hf)
 refine qC (fun a w ha=>?_) k'
 simp at ho hT;have e:(l.toArray.extract o (o+kk))=((l.drop o).take kk).toArray:=by simp
 simp[execOp,ha.ev hx,Instr.field,Fly.run_underlying hu,hy,Go.asAgg,part,(ju hT w).1,(ju hT w).2.1,ho,e]
theorem qqO(S:Sound P E.T){s f:Nat}{x:Operand}(h:Pre fr E V I st L G xs)(hx:qM E st V I L x)(he:evF E st s x f k=some r):Opr P n X L V G ⟨ds,.field s x f,ty,pos,af,gd⟩ (qR fr r k V I st L G):=by
 unfold evF at he;replace he:=qa he;obtain⟨sv,hsv,he⟩:=he
 obtain⟨v,hv,hr⟩:=hx sv hsv;replace he:=qa he;obtain⟨q,hq,he⟩:=he
 obtain⟨o,g,kk⟩:=q;unfold fdO at he;split at he
 · rename_i l
   cases hr with | @st _ vs h1=>
   cases g with
   | true=>
    simp only[zf]at he;cases hk:Nat.blt 0 kk with
    | false=>rw[hk]at he;simp at he
    | true=>
     rw[hk]at he;simp only[zf]at he;replace he:=qa he;obtain⟨c,hc,he⟩:=he
     obtain⟨_,c2,_⟩:=Zl hc;obtain⟨sv',hk',hr'⟩:=Zp (V:=V) (I:=I) (vs:=(vs.drop o).take kk) (by rw[c2];exact(h1.drop o).take kk) he
     exact qgk S.tb hv (S.fo _ _ _ hq) (h.post hk' hr')
   | false=>
    simp only[zi]at he;replace he:=qa he;obtain⟨y,hy,he⟩:=he
    replace he:=qa he;obtain⟨y',hy',he⟩:=he
    have:y=y':=by cases y <;> simp[nb]at hy' <;> exact hy'
    subst this;obtain⟨u,hu,hru⟩:=h1.get hy;exact y7 S.tb hv (S.fo _ _ _ hq) hu (h.post he hru)
 replace he:=qa he;obtain⟨l,hl,he⟩:=he
 replace he:=qa he;obtain⟨y,hy,he⟩:=he
 have:=qeA hl;subst this
 cases hr with | t hr=>cases hr with | agg h1 h2=>
 cases g with
 | true=>
  unfold ldT at hy;simp only[zf,T.cells]at hy;cases hk:Nat.blt 0 kk with
  | false=>rw[hk]at hy;simp at hy
  | true=>
   rw[hk]at hy;simp only[zf]at hy;replace hy:=qa hy;obtain⟨c,hc,hy⟩:=hy
   simp at hy;subst hy;obtain⟨_,c2,_⟩:=Zl hc;exact qgk S.tb hv (S.fo _ _ _ hq) (h.post he (.t (.agg (by rw[c2];exact(h1.drop o).take kk) fun z hz=>h2 z (qdP hc z hz))))
 | false=>
  obtain⟨_,hb⟩:=Zm (x:=.agg l) (by simpa[T.cells]using h1) (by simpa[T.cells]using h2) hy
  obtain⟨u,hu,hru,_⟩:=hb rfl;exact y7 S.tb hv (S.fo _ _ _ hq) hu (h.post he (.t hru))
theorem qwI{V:qb}{kk i:Nat}{l:List T}{vs:List Value}{z:T}(h:RepA V (l.flatMap T.cells) vs)(hw:∀x∈l,x.cells.length=kk)(hi:l[i]?=some z) :
 RepA V z.cells ((vs.drop (i*kk)).take kk):=by
 have hlt:i<l.length:=(zu.1 hi).1
 have hz:=hw z (Km hi)
 have h1:=(h.drop (i*kk)).take kk
 rw[← jQ i hw]at h1;have hd:l.drop i=z::l.drop (i+1):=by
  rw[Kb hlt];congr 1;exact(zu.1 hi).2
 rw[hd,Kt,VW (by omega),KR (by omega)]at h1;exact h1
theorem qlK{vs:List Value}{o m j:Nat}{c:Value}(h:((vs.drop o).take m)[j]?=some c):vs[o+j]?=some c:=by
 rw[zY]at h;split at h
 · rwa [K4]at h
 · cases h
theorem YE{n:Nat}(h:n≤maxLen):inR .i64 (n:Int)=true:=by
 simp only[inR,IntKind.min,IntKind.max,IntKind.bits,IntKind.signed,zl,zy,maxLen]at h ⊢;simp at h ⊢;omega
theorem qqP(c:UInt8):inR .u8 (c.toNat:Int)=true:=by
 have:=c.toNat_lt
 simp only[inR,IntKind.min,IntKind.max,IntKind.bits,IntKind.signed,zl,zy];simp at this ⊢;omega
theorem qqQ{l:List T}{j:Int}{z:T}(h:idx l j=some z):0≤j∧l[j.toNat]?=some z:=by
 unfold idx at h;by_cases h0:0≤j
 · simp[h0]at h;exact⟨h0,h⟩
 · simp[h0]at h
theorem qD2(S:Sound P E.T){t:Nat}{x i:Operand}(h:Pre fr E V I st L G xs)(hx:qM E st V I L x)(hi:qM E st V I L i)(he:qwo E st t x i k=some r):Opr P n X L V G ⟨ds,.indexAddr t x i,ty,pos,af,gd⟩ (qR fr r k V I st L G):=by
 unfold qwo at he;replace he:=qa he;obtain⟨sv,hsv,he⟩:=he
 obtain⟨v,hv,hr⟩:=hx sv hsv;replace he:=qa he;obtain⟨si,hsi,he⟩:=he
 obtain⟨vi,hvi,hri⟩:=hi si hsi;unfold ixO at he;replace he:=qa he;obtain⟨p,hp,he⟩:=he
 replace he:=qa he;obtain⟨j,hj,he⟩:=he
 obtain⟨κ,rfl⟩:=YD hj;have:=ji hri;subst this
 have hE:=S.el t (p.1,p.2) hp
 have tree:∀ {l:List T} {z:T},idx l j=some z→RepS V I (.t (.sl p.2 l)) v→k (.t (.pt z 0)) st=some r→Opr P n X L V G ⟨ds,.indexAddr t x i,ty,pos,af,gd⟩ (qR fr r k V I st L G):=by
  intro l z hz hr he;obtain⟨h0,hz⟩:=qqQ hz;have hlt:j.toNat<l.length:=(zu.1 hz).1
  cases hr with | t hr=>cases hr with | @sl _ _ vs a cap a1 a2 a3 a4 a5 a6=>
  rcases a6 with a6 | ⟨b,off,rfl,a6⟩
  · subst a6;simp at hz
  · refine Yx S.tb hv hvi hE h0 (by omega) (h.post he (.t ?_))
    have:=Rep.pt (V:=V) (x:=z) (off:=0) (b:=b) (o:=off+j.toNat*p.2) (qwI a1 a3 hz) (fun y hy=>a2 y (KF.2 ⟨z,Km hz,hy⟩)) (fun q c hq=>by
     have:=a6 _ _ (qlK hq)
     rwa [← KD]at this)
    simpa using this
 split at he
 · rename_i m off len
   split at he
   · rename_i fx e w l hn
     cases hck:(Nat.beq w p.2&&decide (0≤j)&&decide (j<(len:Int)))with
     | false=>rw[hck]at he;simp at he
     | true=>
      rw[hck]at he;simp only[zf]at he;simp only[zl,zy]at hck;obtain⟨⟨hw,h0⟩,h1⟩:=hck;have:=zk hw;subst this
      cases hr with
      | @osl _ _ _ b k' ct cap hI h3 h4 h5=>
       rcases h.mr.row hn with⟨b',ct',cur,a1,a2,a3,a4,a5,a6,a7,a8⟩ | ⟨a1,rfl⟩
       · rw[hI]at a1
         simp only[zg,IE.row.injEq]at a1;obtain⟨rfl,rfl,rfl⟩:=a1;refine Yx S.tb hv hvi hE h0 h1 (h.post he ?_)
         have:=RepS.ep (V:=V) (I:=I) (n:=m) (i:=off+j.toNat) (off:=0) hI
         rw[Kr,Kp]at this;exact this
       · rw[hI]at a1;cases a1
      | osl0 _ _=>omega
      | oslv _=>simp at h1;omega
      | oslp hI _=>
       rcases h.mr.row hn with⟨b',ct',cur,a1,_⟩ | ⟨a1,_⟩ <;> (rw[hI]at a1;cases a1)
   · rename_i l hn
     cases hck:(Nat.beq p.2 1&&(Nat.beq off 0&&(decide (0≤j)&&decide (j<(len:Int)))))with
     | false=>rw[hck]at he;simp at he
     | true=>
      rw[hck]at he;simp only[zf]at he;simp only[zl,zy]at hck;obtain⟨hw,ho,h0,h1⟩:=hck;have hw:=zk hw;have:=zk ho;subst this
      obtain⟨b',vs,e,k1,k2,k3,k4⟩:=h.mr.cells hn;cases hr with
      | osl hI _ _ _=>rw[hI]at k1;cases k1
      | osl0 h0 _=>exact absurd rfl h0
      | oslv hI=>rw[hI]at k1;cases k1
      | oslp hI _=>
       refine Yx S.tb hv hvi hE h0 h1 (h.post he ?_)
       rw[hw,Wo,Kk];exact .ref hI
   · simp at he
 · rename_i u k' l
   cases hb:Nat.beq k' p.2 with
   | false=>rw[hb]at he;simp at he
   | true=>
    rw[hb]at he;simp only[zf]at he;replace he:=qa he;obtain⟨z,hz,he⟩:=he
    have hk:=zk hb;subst hk;cases hr with | t hr=>cases hr with | ql hr=>
    exact tree (qwu hz) (.t hr) he
 · replace he:=qa he;obtain⟨l,hl,he⟩:=he
   replace he:=qa he;obtain⟨z,hz,he⟩:=he
   exact tree hz (qbe hl hr) he
theorem qAS(S:Sound P E.T){x:Operand}{ts:Array TypeId}{t:Nat}{sv:SV}(h:Pre fr E V I st L G xs)(hx:qM E st V I L x)(hs:opd E st x=some sv)(ht:ts[0]?=some t)(he:qwl E sv t (fun u=>k u st)=some r) :
 Opr P n X L V G ⟨ds,.call { callee:=.builtin .len,args:=#[x],argTypes:=ts },ty,pos,af,gd⟩ (qR fr r k V I st L G):=by
 obtain⟨v,hv,hr⟩:=hx sv hs;unfold qwl at he;split at he
 · rename_i hk
   replace he:=qa he;obtain⟨b,hb,he⟩:=he
   have:=qez hb;subst this
   have hr0:=hr;have:=ji hr;subst this
   have hsz:=qm4 hr0;exact qws hv ht (S.str _ hk) (h.post he (QE (YE hsz)))
 · split at he
   · rename_i p hp
     have hE:=S.el t (p.1,p.2) hp
     split at he
     · cases hr with
       | osl h1 h2 h3 _=>exact Q9 S.tb hv ht hE (h.post he (QE (YE (by omega))))
       | osl0 h1 h2=>exact Q9 S.tb hv ht hE (h.post he (QE (YE (Ve _))))
       | oslv h1=>exact Q9 S.tb hv ht hE (h.post he (QE (YE (Ve _))))
       | oslp h1 h2=>exact Q9 S.tb hv ht hE (h.post he (QE (YE h2)))
     · rename_i u k' l
       cases hb:Nat.beq k' p.2 with
       | false=>rw[hb]at he;simp at he
       | true=>
        rw[hb]at he;simp only[zf]at he;have hk:=zk hb;subst hk;cases hr with | t hr=>cases hr with | ql hr=>cases hr with | sl a1 a2 a3 a4 a5 a6=>exact Q9 S.tb hv ht hE (h.post he (by rw[zn]at a4 ⊢;exact QE (YE (by omega))))
     · replace he:=qa he;obtain⟨l,hl,he⟩:=he
       have hr:=qbe hl hr;cases hr with | t hr=>cases hr with | sl a1 a2 a3 a4 a5 a6=>exact Q9 S.tb hv ht hE (h.post he (QE (YE (by omega))))
   · simp at he
theorem qzN(S:Sound P E.T){x y:Operand}{ts:Array TypeId}(b:Bool)(h:Pre fr E V I st L G xs)(hx:qM E st V I L x)(hy:qM E st V I L y)(he:mmO E st (bif b then max else min) x y ts k=some r) :
 Opr P n X L V G ⟨ds,.call { callee:=.builtin (bif b then .max else .min),args:=#[x,y],argTypes:=ts },ty,pos,af,gd⟩ (qR fr r k V I st L G):=by
 unfold mmO at he;replace he:=qa he;obtain⟨sx,hsx,he⟩:=he
 replace he:=qa he;obtain⟨sy,hsy,he⟩:=he
 replace he:=qa he;obtain⟨t,ht,he⟩:=he
 obtain⟨vx,hvx,hrx⟩:=hx sx hsx;obtain⟨vy,hvy,hry⟩:=hy sy hsy;split at he
 · replace he:=qa he;obtain⟨p,hp,he⟩:=he
   replace he:=qa he;obtain⟨q,hq,he⟩:=he
   have:=JT hp;subst this
   have:=JT hq;subst this
   have hpr:=qeB hrx;have hqr:=qeB hry;have:=ji hrx;subst this
   have:=ji hry;subst this
   cases b with
   | true=>exact qAA hvx hvy (h.post he (QE (by show inR _ (Max.max p q)=true;rw[Int.max_def];split <;> assumption)))
   | false=>exact qAB hvx hvy (h.post he (QE (by show inR _ (Min.min p q)=true;rw[Int.min_def];split <;> assumption)))
 · simp at he
theorem qwJ(S:Sound P E.T){t:Nat}{x i:Operand}(h:Pre fr E V I st L G xs)(hx:qM E st V I L x)(hi:qM E st V I L i)(he:evI E st t x i k=some r):Opr P n X L V G ⟨ds,.index t x i,ty,pos,af,gd⟩ (qR fr r k V I st L G):=by
 unfold evI at he;split at he
 · rename_i hk
   replace he:=qa he;obtain⟨sx,hsx,he⟩:=he
   replace he:=qa he;obtain⟨si,hsi,he⟩:=he
   obtain⟨vx,hvx,hrx⟩:=hx sx hsx;obtain⟨vi,hvi,hri⟩:=hi si hsi;replace he:=qa he;obtain⟨s,hs,he⟩:=he
   replace he:=qa he;obtain⟨j,hj,he⟩:=he
   have:=qez hs;subst this
   have:=ji hrx;subst this
   obtain⟨κ,rfl⟩:=YD hj;have:=ji hri;subst this
   by_cases h0:0≤j
   · simp only[h0,V5,zf]at he
     replace he:=qa he;obtain⟨c,hc,he⟩:=he
     exact qoV hvx hvi (S.str _ hk) h0 hc (h.post he (QE (qqP c)))
   · simp[h0]at he
 · simp at he
end
end Su
end
