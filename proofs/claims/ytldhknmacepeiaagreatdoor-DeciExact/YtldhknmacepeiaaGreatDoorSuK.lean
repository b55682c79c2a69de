/-
  An evaluator of the program's functions over trees of values, proved sound. No condition.
-/
import Derived.Test.YtldhknmacepeiaaGreatDoorSuG
set_option linter.unusedVariables false
set_option linter.unusedSimpArgs false
section
namespace Su
open Go Fly
theorem overA_rep{V:View}:∀ {l:List T} {vs:List Value} {c:List T} {us:List Value} {r:List T},RepA V l vs→RepA V c us→overG l c=some r→∃rs,overO vs us=some rs∧RepA V r rs
 | l,vs,[],_,r,h,.nil,e=>by
  have:r=l:=by cases l <;> simp[overG]at e <;> first | exact e.symm | exact e
  subst this;exact⟨vs,by cases vs <;> simp[overO],h⟩
 | [],_,x::c,_,r,.nil,.cons k k',e=>by simp[overG]at e
 | y::l,_,x::c,_,r,.cons h h',.cons (v:=v) k k',e=>by
  simp only[overG]at e;replace e:=bsome e;obtain⟨r',hr,e⟩:=e
  simp at e;subst e;obtain⟨rs,h1,h2⟩:=overA_rep h' k' hr;exact⟨v::rs,by simp[overO,h1],.cons k h2⟩
theorem putA_rep{V:View}:∀ {l:List T} {vs:List Value} {o:Nat} {c:List T} {us:List Value} {r:List T},RepA V l vs→RepA V c us→putG l o c=some r→∃rs,putO vs o us=some rs∧RepA V r rs
 | l,vs,0,c,us,r,h,hc,e=>by
  have e':overG l c=some r:=by cases l <;> simpa[putG]using e
  obtain⟨rs,h1,h2⟩:=overA_rep h hc e';exact⟨rs,by cases vs <;> simpa[putO]using h1,h2⟩
 | [],_,o+1,c,us,r,.nil,hc,e=>by simp[putG]at e
 | y::l,_,o+1,c,us,r,.cons (v:=v) h h',hc,e=>by
  simp only[putG]at e;replace e:=bsome e;obtain⟨r',hr,e⟩:=e
  simp at e;subst e;obtain⟨rs,h1,h2⟩:=putA_rep h' hc hr;exact⟨v::rs,by simp[putO,h1],.cons h h2⟩
theorem overG_len{α:Type}:∀ {l c r:List α},overG l c=some r→r.length=l.length
 | l,[],r,e=>by
  have:r=l:=by cases l <;> simp[overG]at e <;> first | exact e.symm | exact e
  rw[this]
 | [],x::c,r,e=>by simp[overG]at e
 | y::l,x::c,r,e=>by
  simp only[overG]at e;replace e:=bsome e;obtain⟨r',hr,e⟩:=e
  simp at e;subst e;simp[overG_len hr]
theorem putG_len{α:Type}:∀ {l:List α} {o:Nat} {c r:List α},putG l o c=some r→r.length=l.length
 | l,0,c,r,e=>by
  have e':overG l c=some r:=by cases l <;> simpa[putG]using e
  exact overG_len e'
 | [],o+1,c,r,e=>by simp[putG]at e
 | y::l,o+1,c,r,e=>by
  simp only[putG]at e;replace e:=bsome e;obtain⟨r',hr,e⟩:=e
  simp at e;subst e;simp[putG_len hr]
theorem app_of:∀(l r:List Value),App l r (l++r)
 | [],_=>.nil
 | _::l,r=>.cons (app_of l r)
theorem zeroCells_ok{V:View}{I:List IE}:∀ {l:List Value} {hs:List (Option (Nat×Nat))} {nn:Nat},l.all cOne=true→(∀j,j<(zeroCells nn l hs).2.length→I[nn+j]?=some .vrow) →
 RepSs V I (zeroCells nn l hs).1 l∧(∀s∈(zeroCells nn l hs).1,cellS s=true)∧GRel V I (List.replicate (zeroCells nn l hs).2.length .vrow) (zeroCells nn l hs).2 []:=by
 intro l;induction l with
 | nil=>intro hs nn _ _;exact⟨by simp[zeroCells];exact .nil,by simp[zeroCells],by simp[zeroCells];exact .nil⟩
 | cons v l ih=>
  intro hs nn h hI;simp only[zy,qk]at h;have hz:=zC_rep (V:=V) h.1
  simp only[zeroCells]at hI ⊢;cases hq:nilHint v hs with
  | some p=>
   have:=nilHint_some hq;subst this
   rw[hq]at hI;simp only[]at hI ⊢;have h0:=hI 0 (by simp)
   obtain⟨i1,i2,i3⟩:=ih (hs:=hs.tail) (nn:=nn+1) h.2 (fun j hj=>by have:=hI (j+1) (by simpa using hj);rwa [show nn+1+j=nn+(j+1) by omega])
   exact⟨.cons (.oslv (by simpa using h0)) i1,by simpa[cellS]using i2,by
    simp only[qy,yQ];exact .cons (g:=[]) (G:=[]) .vrow i3⟩
  | none=>
   rw[hq]at hI;simp only[]at hI ⊢;obtain⟨i1,i2,i3⟩:=ih (hs:=hs.tail) (nn:=nn) h.2 hI
   exact⟨.cons (.t hz.1) i1,by simpa[cellS,hz.2]using i2,i3⟩
section
variable {fr:Bool} {P:Program} {E:Env} {n:Nat} {X:Cx} {L:Lo} {V:View} {I:List IE} {G:Own} {st:St} {O:Type} {r:O} {k:SV→St→Option O} {xs:List Operand}
variable {ty:TypeId} {pos:String} {af:Array Edge} {gd:Option (Nat×Bool)} {ds:Option Tmp}
theorem alloc_ok(S:Sound P E.T){e:TypeId}(h:Pre fr E V I st L G xs)(he:evAlloc E fr st e k=some r):Opr P n X L V G ⟨ds,.alloc e,ty,pos,af,gd⟩ (PostO fr r k V I st L G):=by
 unfold evAlloc at he;cases fr with
 | false=>simp at he
 | true=>
  simp only[qe]at he;replace he:=bsome he;obtain⟨z,hz,he⟩:=he
  have hS:=h.full rfl;refine opr_made (op_alloc S.tb (S.ze _ _ hz) fun b hf=>?_)
  have hc:=S.zc _ _ hz;have hlen:=hS.len;obtain⟨j1,j2,j3⟩:=zeroCells_ok (V:=V) (I:=I++(List.replicate (zeroCells st.H.length z (E.T.zs e)).2.length .vrow++[.blk b])) (l:=z) (hs:=E.T.zs e) (nn:=st.H.length) hc (fun j hj=>by
   rw[qP (by omega),q9 (by simp;omega),jW,qU (by omega)])
  have h3:=hS.new (Is:=List.replicate (zeroCells st.H.length z (E.T.zs e)).2.length .vrow++[.blk b]) (Hs:=(zeroCells st.H.length z (E.T.zs e)).2++[.cells (zeroCells st.H.length z (E.T.zs e)).1]) (g:=[(b,.cells z.toArray e (0,0))])
   (j3.append (G:=[]) (.cons (g:=[(b,.cells z.toArray e (0,0))]) (G:=[]) (.cells j1 j2) .nil))
  refine⟨V,_,Gh.refl hf,Sub.refl _,I++(List.replicate (zeroCells st.H.length z (E.T.zs e)).2.length .vrow++[.blk b]),_,_,he,?_,.ref ?_,?_⟩
  · have:(St.mk st.K st.Tm (st.H++((zeroCells st.H.length z (E.T.zs e)).2++[.cells (zeroCells st.H.length z (E.T.zs e)).1]))) = { st with H:=st.H++(zeroCells st.H.length z (E.T.zs e)).2++[.cells (zeroCells st.H.length z (E.T.zs e)).1] }:=by rw[qO]
    rw[← this];exact h3
  · rw[qP (by omega),qP (by simp;omega)]
    simp[hlen]
  · have:=IPf.app (H:=st.H) (Hs:=(zeroCells st.H.length z (E.T.zs e)).2++[.cells (zeroCells st.H.length z (E.T.zs e)).1]) (I:=I) (Is:=List.replicate (zeroCells st.H.length z (E.T.zs e)).2.length .vrow++[.blk b]) hlen
    rw[← qO]at this;exact this
theorem partC_ok{g:Bool}{w:Nat}{sv:SV}{v:Value}{c:List SV}(hr:RepS V I sv v)(e:partC g w sv=some c):∃us:List Value,v.cells=us.toArray∧RepSs V I c us∧us.length=w:=by
 unfold partC at e;cases g with
 | true=>
  simp only[qe]at e;split at e
  · rename_i l
    cases hb:Nat.beq l.length w with
    | false=>rw[hb]at e;simp at e
    | true=>
     rw[hb]at e;simp only[qe,qa]at e;subst e;cases hr with | t hr=>cases hr with | agg h1 h2=>
     exact⟨_,rfl,RepSs.ofT h1,by rw[← h1.length];exact qd hb⟩
  · rename_i l
    cases hb:(Nat.beq l.length w&&oneCs l)with
    | false=>rw[hb]at e;simp at e
    | true=>
     rw[hb]at e;simp only[qe,qa]at e;subst e;simp only[qk]at hb;cases hr with | st h1=>
     exact⟨_,rfl,h1,by rw[← h1.length];exact qd hb.1⟩
  · simp at e
 | false=>
  simp only[qh]at e;cases ho:(oneC sv&&Nat.beq w 1)with
  | false=>rw[ho]at e;simp at e
  | true=>
   rw[ho]at e;simp only[qe,qa]at e;subst e;simp only[qk]at ho;obtain⟨h1,h2,h3⟩:=repS_one hr ho.1;exact⟨[v],h2,.cons hr .nil,(qd ho.2).symm⟩
theorem overS_rep:∀ {l:List SV} {vs:List Value} {c:List SV} {us:List Value} {r:List SV},RepSs V I l vs→RepSs V I c us→overG l c=some r→∃rs,overO vs us=some rs∧RepSs V I r rs
 | l,vs,[],_,r,h,.nil,e=>by
  have:r=l:=by cases l <;> simp[overG]at e <;> first | exact e.symm | exact e
  subst this;exact⟨vs,by cases vs <;> simp[overO],h⟩
 | [],_,x::c,_,r,.nil,.cons k k',e=>by simp[overG]at e
 | y::l,_,x::c,_,r,.cons h h',.cons (v:=v) k k',e=>by
  simp only[overG]at e;replace e:=bsome e;obtain⟨r',hr,e⟩:=e
  simp at e;subst e;obtain⟨rs,h1,h2⟩:=overS_rep h' k' hr;exact⟨v::rs,by simp[overO,h1],.cons k h2⟩
theorem putS_rep:∀ {l:List SV} {vs:List Value} {o:Nat} {c:List SV} {us:List Value} {r:List SV},RepSs V I l vs→RepSs V I c us→putG l o c=some r→∃rs,putO vs o us=some rs∧RepSs V I r rs
 | l,vs,0,c,us,r,h,hc,e=>by
  have e':overG l c=some r:=by cases l <;> simpa[putG]using e
  obtain⟨rs,h1,h2⟩:=overS_rep h hc e';exact⟨rs,by cases vs <;> simpa[putO]using h1,h2⟩
 | [],_,o+1,c,us,r,.nil,hc,e=>by simp[putG]at e
 | y::l,_,o+1,c,us,r,.cons (v:=v) h h',hc,e=>by
  simp only[putG]at e;replace e:=bsome e;obtain⟨r',hr,e⟩:=e
  simp at e;subst e;obtain⟨rs,h1,h2⟩:=putS_rep h' hc hr;exact⟨v::rs,by simp[putO,h1],.cons h h2⟩
theorem buildP_ok(S:Sound P E.T){I':List IE}(hI:Ile I I'){t:Nat}:∀(parts:List (Nat×Operand)) (z r:List SV) (zv:List Value),(∀x∈xs,OpdOk E st V I L x)→(∀p∈parts,p.2∈xs)→RepSs V I' z zv →
 buildP E t st z parts=some r→∃rv,Fill S.tb L t zv parts rv∧RepSs V I' r rv:=by
 intro parts;induction parts with
 | nil=>
  intro z r zv _ _ hz e;simp only[buildP,qa]at e;subst e;exact⟨zv,.nil,hz⟩
 | cons p parts ih=>
  intro z r zv h hm hz e;obtain⟨i,x⟩:=p;simp only[buildP]at e;replace e:=bsome e;obtain⟨q,hq,e⟩:=e
  replace e:=bsome e;obtain⟨sv,hsv,e⟩:=e
  replace e:=bsome e;obtain⟨c,hcT,e⟩:=e
  replace e:=bsome e;obtain⟨z',hz',e⟩:=e
  obtain⟨v,hv,hr⟩:=h x (hm _ (qz ..)) sv hsv
  obtain⟨us,u1,u2,hul⟩:=partC_ok (hr.mono (Sub.refl _) hI) hcT
  obtain⟨rs,p1,p2⟩:=putS_rep hz u2 hz';obtain⟨rv,f2,r2⟩:=ih z' r rs h (fun p hp=>hm p (qt _ hp)) p2 e
  exact⟨rv,.cons (S.fo _ _ _ (show E.T.fo t i=some (q.1,q.2.1,q.2.2) from hq)) hv u1 hul p1 f2,r2⟩
theorem dropU_rep{V:View}{I:List IE}{ns:List Nat}:∀ {Hs:List OB} {nn:Nat} {Is:List IE},GRel V I Is Hs []→GRel V I Is (dropU ns nn Hs) []
 | [],_,_,.nil=>.nil
 | b::Hs,nn,_,h=>by
  generalize hg:([]:Own)=g at h
  cases h with
  | cons h h'=>
   rename_i ie g1 Is g2;have h3:=List.append_eq_nil_iff.1 hg.symm;obtain⟨rfl,rfl⟩:=h3;have:=dropU_rep (ns:=ns) (nn:=nn+1) h'
   show GRel V I _ ((bif hasN ns nn then b else .dead)::dropU ns (nn+1) Hs) []
   cases hasN ns nn with
   | true=>exact .cons (g:=[]) (G:=[]) h this
   | false=>exact .cons (g:=[]) (G:=[]) .dead this
theorem buildA_ok{m w:Nat}{g:Bool}:∀(parts:List (Nat×Operand)) (z r:List SV) (zv:List Value),(∀x∈xs,OpdOk E st V I L x)→(∀p∈parts,p.2∈xs)→RepSs V I z zv →
 buildA E m g w st z parts=some r→∃rv,FillA w L zv parts rv∧RepSs V I r rv:=by
 intro parts;induction parts with
 | nil=>
  intro z r zv _ _ hz e;simp only[buildA,qa]at e;subst e;exact⟨zv,.nil,hz⟩
 | cons p parts ih=>
  intro z r zv h hm hz e;obtain⟨i,x⟩:=p;simp only[buildA]at e;cases hb:Nat.blt i m with
  | false=>rw[hb]at e;simp at e
  | true=>
  rw[hb]at e;simp only[qe]at e;replace e:=bsome e;obtain⟨sv,hsv,e⟩:=e
  replace e:=bsome e;obtain⟨c,hcT,e⟩:=e
  replace e:=bsome e;obtain⟨z',hz',e⟩:=e
  obtain⟨v,hv,hr⟩:=h x (hm _ (qz ..)) sv hsv
  obtain⟨us,u1,u2,hul⟩:=partC_ok hr hcT;obtain⟨rs,p1,p2⟩:=putS_rep hz u2 hz';obtain⟨rv,f2,r2⟩:=ih z' r rs h (fun p hp=>hm p (qt _ hp)) p2 e
  exact⟨rv,.cons hv u1 hul p1 f2,r2⟩
theorem buildT_ok(S:Sound P E.T){t:Nat}{parts:Array (Nat×Operand)}(h:Pre fr E V I st L G xs)(hm:∀p∈parts.toList,p.2∈xs)(he:evBuildT E fr st t parts k=some r):Opr P n X L V G ⟨ds,.build t parts,ty,pos,af,gd⟩ (PostO fr r k V I st L G):=by
 obtain⟨pl,rfl⟩:∃l:List (Nat×Operand),parts=l.toArray:=⟨parts.toList,by simp⟩
 unfold evBuildT at he;replace he:=bsome he;obtain⟨z,hz,he⟩:=he
 replace he:=bsome he;obtain⟨f0,hf0,he⟩:=he
 cases hb:(fr&&E.T.bz E.f)with
 | false=>
  rw[hb]at he;simp only[qh]at he;replace he:=bsome he;obtain⟨p,hp,he⟩:=he
  have z1:RepA V (bif E.T.bz E.f then z.map T.s else zCs z (E.T.zs t)) z:=by
   cases E.T.bz E.f with
   | true=>exact zS_reps (S.zc _ _ hz)
   | false=>exact(zCs_rep (V:=V) (hs:=E.T.zs t) (S.zc _ _ hz)).1
  obtain⟨rv,f1,r1⟩:=buildP_ok S (Ile.refl I) pl _ p z h.opd hm (RepSs.ofT z1) (by simpa using hp)
  obtain⟨sv,hk,hr⟩:=mkStK_ok r1 he;exact op_build S.tb (S.al _ _ _ hf0) (S.ze _ _ hz) (S.fo _ _ _ hf0) f1 (h.post hk hr)
 | true=>
  rw[hb]at he;simp only[qk]at hb;obtain⟨rfl,-⟩:=hb
  simp only[qe]at he;replace he:=bsome he;obtain⟨p,hp,he⟩:=he
  have hS:=h.full rfl;have hlen:=hS.len;obtain⟨j1,j2,j3⟩:=zeroCells_ok (V:=V) (I:=I++(List.replicate (zeroCells st.H.length z (E.T.zs t)).2.length .vrow)) (l:=z) (hs:=E.T.zs t) (nn:=st.H.length) (S.zc _ _ hz) (fun j hj=>by
   rw[qP (by omega),jW,qU (by omega)])
  obtain⟨rv,f1,r1⟩:=buildP_ok S (Ile.app I _) pl _ p z h.opd hm j1 (by simpa using hp)
  obtain⟨sv,hk,hr⟩:=mkStK_ok r1 he;have h3:=hS.new (g:=[]) (dropU_rep (ns:=namesS.go p) (nn:=st.H.length) j3)
  refine op_build S.tb (S.al _ _ _ hf0) (S.ze _ _ hz) (S.fo _ _ _ hf0) f1 ⟨V,G,Gh.refl h.free,Sub.refl _,_,_,_,hk,h3,hr,IPf.app hlen⟩
theorem build_ok(S:Sound P E.T){t:Nat}{parts:Array (Nat×Operand)}(h:Pre fr E V I st L G xs)(hm:∀p∈parts.toList,p.2∈xs)(he:evBuild E fr st t parts k=some r):Opr P n X L V G ⟨ds,.build t parts,ty,pos,af,gd⟩ (PostO fr r k V I st L G):=by
 unfold evBuild at he;split at he
 · rename_i m g w hk
   replace he:=bsome he;obtain⟨z,hz,he⟩:=he
   replace he:=bsome he;obtain⟨p,hp,he⟩:=he
   obtain⟨e,hu,hty⟩:=S.arr _ _ _ _ hk;have z1:RepA V (zCs z (E.T.zs t)) z:=(zCs_rep (V:=V) (hs:=E.T.zs t) (S.zc _ _ hz)).1
   obtain⟨rv,f1,r1⟩:=buildA_ok parts.toList _ p z h.opd hm (RepSs.ofT z1) hp
   obtain⟨sv,hk2,hr⟩:=mkStK_ok r1 he;have:=op_buildA (ty:=ty) (pos:=pos) (af:=af) (gd:=gd) (ds:=ds) (n:=n) (X:=X) (G:=G) S.tb hu hty (S.ze _ _ hz) f1 (h.post hk2 hr)
   simpa using this
 · exact buildT_ok S h hm he
theorem rowP_ok(g:Bool)(w:Nat):∀(parts:List (Nat×Operand)) (i:Nat) (st:St) (l:List T) (st':St) (V:View) (G:Own),Pre fr E V I st L G xs→(∀p∈parts,p.2∈xs)→rowP E fr g w st i parts=some (l,st') →
 ∃V' G' rv,GhF fr I L V G st V' G' st'∧Cat L w i parts rv∧RepA V' (l.flatMap T.cells) rv∧(∀x∈l.flatMap T.cells,x.isAgg=false)∧(∀x∈l,x.cells.length=w)∧l.length=parts.length:=by
 intro parts;induction parts with
 | nil=>
  intro i st l st' V G h _ e;simp only[rowP,qa,jd]at e;obtain⟨rfl,rfl⟩:=e;exact⟨V,G,[],h.ghrefl,.nil,.nil,by simp,by simp,rfl⟩
 | cons p parts ih=>
  intro i st l st' V G h hm e;obtain⟨j,x⟩:=p;simp only[rowP]at e;cases hij:Nat.beq i j with
  | false=>rw[hij]at e;simp at e
  | true=>
   rw[hij]at e;simp only[qe]at e;have:=qd hij;subst this
   replace e:=bsome e;obtain⟨sv,hsv,e⟩:=e
   replace e:=bsome e;obtain⟨c,hcT,e⟩:=e
   obtain⟨v,hv,hr⟩:=h.opd x (hm _ (qz ..)) sv hsv
   cases hck:(Nat.beq c.1.cells.length w&&(bif g then c.1.isAgg else !c.1.isAgg))with
   | false=>rw[hck]at e;simp at e
   | true=>
    rw[hck]at e;simp only[qe]at e;simp only[qk]at hck;have hlen:=qd hck.1;replace e:=bsome e;obtain⟨q,hq,e⟩:=e
    simp only[qa,jd]at e;obtain⟨rfl,rfl⟩:=e;obtain⟨V1,G1,g1,r1⟩:=toTF_ok h hr (x:=c.1) (st':=c.2) (by rw[hcT])
    obtain⟨us,u1,u2,u3⟩:=r1.cells;have hul:us.length=w:=by rw[← u2.length];exact hlen
    obtain⟨V2,G2,rv,g2,f2,r2,c2,w2,l2⟩:=ih (i+1) c.2 q.1 q.2 V1 G1 (h.step g1) (fun p hp=>hm p (qt _ hp)) (by rw[hq])
    refine⟨V2,G2,us++rv,g1.trans g2,.cons hv u1 hul f2 (app_of _ _),by rw[jv];exact(u2.mono g2.gh.sub).append r2,?_,?_,by simp[l2]⟩
    · intro y hy
      rw[jv,qZ]at hy;exact hy.elim (u3 y) (c2 y)
    · intro y hy
      rcases qJ.1 hy with rfl | hy
      · exact hlen
      · exact w2 y hy
theorem op_bsF(T:Tabs P){Q:Value→View→Own→Prop}{t e k m:Nat}{z r:List Value}{parts:List (Nat×Operand)}(hE:T.el t=some (e,k))(hz:T.ze e=some z)(hm:parts.length=m)(hs:m*k≤16777216)(hc:Cat L k 0 parts r)
 (k':∀b,V b=none→Q (.slice (some ⟨b,0,none⟩) m m) (addV V b (.cells r.toArray e (0,0))) G):Opr P n X L V G ⟨ds,.buildSlice t m parts.toArray,ty,pos,af,gd⟩ Q:=fun a ha w hw=>by
 refine .inl ⟨_,_,addV V w.heap.size (.cells r.toArray e (0,0)),G,.inl ?_,k' w.heap.size ?_,(hw.alloc (.cells r.toArray e (0,0))).freeze⟩
 · exact bs_run T hE hz hm hs hc ha w
 · cases h:V w.heap.size with
   | none=>rfl
   | some o=>exact absurd (hw.vlt (r:=w.heap.size) (by simp[h])) (by omega)
theorem refsS_ok:∀(parts:List (Nat×Operand)) (i:Nat) (svs:List SV),(∀x∈xs,OpdOk E st V I L x)→(∀p∈parts,p.2∈xs)→refsS E st i parts=some svs →
 ∃rv,Cat L 1 i parts rv∧RepSs V I svs rv∧∀s∈svs,cellS s=true
 | [],i,svs,_,_,e=>by
  simp only[refsS,qa]at e;subst e;exact⟨[],.nil,.nil,by simp⟩
 | (j,x)::parts,i,svs,h,hm,e=>by
  simp only[refsS]at e;cases hij:Nat.beq i j with
  | false=>rw[hij]at e;simp at e
  | true=>
   rw[hij]at e;simp only[qe]at e;have:=qd hij;subst this
   replace e:=bsome e;obtain⟨sv,hsv,e⟩:=e
   obtain⟨v,hv,hr⟩:=h x (hm _ (qz ..)) sv hsv
   split at e
   · replace e:=bsome e;obtain⟨l,hl,e⟩:=e
     simp only[qa]at e;subst e;obtain⟨rv,f1,r1,c1⟩:=refsS_ok parts (i+1) l h (fun p hp=>hm p (qt _ hp)) hl
     cases hr with | ref hI=>
     exact⟨_::rv,.cons hv rfl rfl f1 (.cons .nil),.cons (.ref hI) r1,fun s hs=>by
      rcases qJ.1 hs with rfl | hs
      · rfl
      · exact c1 s hs⟩
   · simp at e
theorem buildS_ok(S:Sound P E.T){t m:Nat}{parts:Array (Nat×Operand)}(h:Pre fr E V I st L G xs)(hm:∀p∈parts.toList,p.2∈xs)(he:evBuildS E fr st t m parts k=some r):Opr P n X L V G ⟨ds,.buildSlice t m parts,ty,pos,af,gd⟩ (PostO fr r k V I st L G):=by
 obtain⟨pl,rfl⟩:∃l:List (Nat×Operand),parts=l.toArray:=⟨parts.toList,by simp⟩
 unfold evBuildS at he;cases hir:(fr&&isRefs E st pl.toArray.toList)with
 | true=>
  rw[hir]at he;simp only[qk]at hir;obtain⟨rfl,-⟩:=hir
  simp only[qe]at he;cases hb:Nat.beq pl.toArray.size m with
  | false=>rw[hb]at he;simp at he
  | true=>
  rw[hb]at he;simp only[qe]at he;have hpl:pl.length=m:=by simpa using qd hb
  replace he:=bsome he;obtain⟨p,hp,he⟩:=he
  replace he:=bsome he;obtain⟨z,hz,he⟩:=he
  cases hck:(Nat.beq p.2 1&&Nat.ble m 16777216)with
  | false=>rw[hck]at he;simp at he
  | true=>
  rw[hck]at he;simp only[qe]at he;simp only[qk]at hck;have hw1:=qd hck.1;have hml:=qn hck.2;replace he:=bsome he;obtain⟨svs,hsv,he⟩:=he
  obtain⟨rv,f1,r1,c1⟩:=refsS_ok pl 0 svs h.opd hm (by simpa using hsv)
  rw[← hw1]at f1;have hS:=h.full rfl;have hE:=S.el t (p.1,p.2) hp
  refine opr_made (op_buildSlice S.tb hE (S.ze _ _ hz) hpl (by rw[hw1];omega) f1 fun b hf=>?_)
  have h3:=hS.new (Is:=[.blk b]) (Hs:=[.cells svs]) (g:=[(b,.cells rv.toArray p.1 (0,0))])
   (.cons (g:=[(b,.cells rv.toArray p.1 (0,0))]) (G:=[]) (.cells (r1.mono (Sub.refl _) (Ile.app _ _)) c1) .nil)
  refine⟨V,_,Gh.refl hf,Sub.refl _,_,_,_,he,h3,?_,IPf.app hS.len⟩
  exact .oslp (by rw[← hS.len];simp) (by simp[maxLen];omega)
 | false=>
 rw[hir,qh]at he;cases hb:Nat.beq pl.toArray.size m with
 | false=>rw[hb]at he;simp at he
 | true=>
  rw[hb]at he;simp only[qe]at he;have hpl:pl.length=m:=by simpa using qd hb
  replace he:=bsome he;obtain⟨p,hp,he⟩:=he
  replace he:=bsome he;obtain⟨q,hq,he⟩:=he
  replace he:=bsome he;obtain⟨z,hz,he⟩:=he
  cases hck:(Nat.ble (m*p.2) 16777216&&Nat.ble m maxLen)with
  | false=>rw[hck]at he;simp at he
  | true=>
   rw[hck]at he;simp only[qe]at he;simp only[qk]at hck;have hs:=qn hck.1;have hml:=qn hck.2;replace he:=rowPK_imp _ _ _ _ _ _ _ _ he
   replace he:=bsome he;obtain⟨l,hl,he⟩:=he
   obtain⟨V1,G1,rv,g1,f1,r1,c1,w1,l1⟩:=rowP_ok q.1 p.2 pl 0 st l.1 l.2 V G h hm (by simpa using hl)
   refine opr_step g1 ?_
   have h1:=h.step g1;have hE:=S.el t (p.1,p.2) hp
   have hll:l.1.length=m:=by rw[l1,hpl]
   cases fr with
   | true=>
    simp only[qe]at he;have hS:=h1.full rfl;refine opr_made (op_buildSlice S.tb hE (S.ze _ _ hz) hpl hs f1 fun b hf=>?_)
    have hrl:rv.length=m*p.2:=by rw[← r1.length,flat_len w1,hll]
    have h3:=hS.new (Is:=[.row b p.2 m]) (Hs:=[.row false p.1 p.2 l.1]) (g:=[(b,.cells rv.toArray p.1 (0,0))])
     (.cons (g:=[(b,.cells rv.toArray p.1 (0,0))]) (G:=[]) (.row (by simpa using hrl) hml (by omega) (by rw[hll];simpa[← hrl]using r1) c1 w1) .nil)
    refine⟨V1,_,Gh.refl hf,Sub.refl _,_,_,_,he,h3,?_,IPf.app hS.len⟩
    have:=RepS.osl (V:=V1) (I:=I++[.row b p.2 m]) (n:=l.2.H.length) (off:=0) (len:=l.1.length) (b:=b) (k:=p.2) (ct:=m) (cap:=m) (by rw[← hS.len];simp) (by omega) hml ⟨by omega,by omega⟩
    rw[jS]at this;rw[hll]at this ⊢;exact this
   | false=>
    simp only[qh]at he;refine op_bsF S.tb hE (S.ze _ _ hz) hpl hs f1 fun b hb=>?_
    obtain⟨rfl,rfl,hst⟩:=g1.no rfl;refine⟨Sub.addV hb,rfl,_,he,?_⟩
    have:=Rep.sl (V:=addV V1 b (.cells rv.toArray p.1 (0,0))) (k:=p.2) (l:=l.1) (vs:=rv) (a:=some ⟨b,0,none⟩) (cap:=m) (r1.mono (Sub.addV hb)) c1 w1 (by omega) hml
     (.inr ⟨b,0,rfl,fun j c hj=>⟨_,_,_,addV_same _ _ _,by simpa using hj⟩⟩)
    rw[hll]at this;exact .t this
end
end Su
end
section
namespace Su
open Go Fly
section
variable {fr:Bool} {P:Program} {E:Env} {n:Nat} {X:Cx} {L:Lo} {V:View} {I:List IE} {G:Own} {st:St} {O:Type} {r:O} {k:SV→St→Option O} {xs:List Operand} {Q:Value→View→Own→Prop}
variable {ty:TypeId} {pos:String} {af:Array Edge} {gd:Option (Nat×Bool)} {ds:Option Tmp}
theorem load_ok(S:Sound P E.T){t:Nat}{x:Operand}(h:Pre fr E V I st L G xs)(hx:OpdOk E st V I L x)(he:evLoad E fr st t x k=some r):Opr P n X L V G ⟨ds,.load t x,ty,pos,af,gd⟩ (PostO fr r k V I st L G):=by
 unfold evLoad at he;replace he:=bsome he;obtain⟨sv,hsv,he⟩:=he
 obtain⟨v,hv,hr⟩:=hx sv hsv;unfold ldO at he;replace he:=bsome he;obtain⟨p,hp,he⟩:=he
 obtain⟨g,kk⟩:=p;split at he
 · replace he:=ldE_eq he;obtain⟨y,hy,he⟩:=he
   exact ld_pt S hv hr hp hy fun u hu=>h.post he (.t hu)
 · rename_i m off
   split at he
   · rename_i l hn
     cases g with
     | true=>
      simp only[qe]at he;replace he:=bsome he;obtain⟨c,hc,he⟩:=he
      refine ld_refN S h.mr hv hr hp hn hc fun us hus=>?_
      obtain⟨sv',hk,hr'⟩:=mkStK_ok hus he;exact h.post hk hr'
     | false=>
      simp only[qh,selK_eq]at he;replace he:=bsome he;obtain⟨y,hy,he⟩:=he
      exact ld_ref1 S h.mr hv hr hp hn hy fun u hu=>h.post he hu
   · simp at he
 · rename_i m i off
   split at he
   · rename_i fx e w l hn
     replace he:=bsome he;obtain⟨z,hz,he⟩:=he
     replace he:=ldE_eq he;obtain⟨y,hy,he⟩:=he
     exact ld_ep S h.mr hv hr hp hn hz hy fun u hu=>h.post he (.t hu)
   · simp at he
 · simp at he
theorem makeF_ok{fn:Fn}{a b:Array Operand}(h:Pre fr E V I st L G xs)(ha:∀x∈a.toList,OpdOk E st V I L x)(hb:∀x∈b.toList,OpdOk E st V I L x)(he:evMakeF E st fn a b k=some r):Opr P n X L V G ⟨ds,.makeFunc fn a b,ty,pos,af,gd⟩ (PostO fr r k V I st L G):=by
 have opds_ok:∀(l:List Operand) (svs:List SV),(∀x∈l,OpdOk E st V I L x)→opds E st l=some svs→∃vs,evs L l=some vs∧RepSs V I svs vs:=by
  intro l;induction l with
  | nil=>intro svs _ e;simp[opds]at e;subst e;exact⟨[],rfl,.nil⟩
  | cons x l ih=>
   intro svs hm e;simp only[opds]at e;replace e:=bsome e;obtain⟨s,hs,e⟩:=e
   replace e:=bsome e;obtain⟨q,hq,e⟩:=e
   simp at e;subst e;obtain⟨v,hv,hr⟩:=hm x (qz ..) s hs
   obtain⟨vs,hvs,hrs⟩:=ih q (fun y hy=>hm y (qt _ hy)) hq
   exact⟨v::vs,by simp[evs,hv,hvs],.cons hr hrs⟩
 obtain⟨al,rfl⟩:∃l:List Operand,a=l.toArray:=⟨a.toList,by simp⟩
 obtain⟨bl,rfl⟩:∃l:List Operand,b=l.toArray:=⟨b.toList,by simp⟩
 unfold evMakeF at he;split at he
 · replace he:=bsome he;obtain⟨sa,hsa,he⟩:=he
   replace he:=bsome he;obtain⟨sb,hsb,he⟩:=he
   obtain⟨va,hva,hra⟩:=opds_ok al sa (by simpa using ha) (by simpa using hsa)
   obtain⟨vb,hvb,hrb⟩:=opds_ok bl sb (by simpa using hb) (by simpa using hsb)
   exact op_makeFunc hva hvb (h.post he (.clo hra hrb))
 · simp at he
theorem op_fieldG(T:Tabs P){s f:Nat}{x:Operand}{l:List Value}{o kk:Nat}(hx:ev L x=some (.agg l.toArray))(hf:T.fo s f=some (o,true,kk))
 (k':Q (.agg ((l.drop o).take kk).toArray) V G):Opr P n X L V G ⟨ds,.field s x f,ty,pos,af,gd⟩ Q:=by
 obtain⟨fs,y,hu,hy,ho,hT⟩:=Fo_und (T.fo_ok _ _ _ hf)
 refine opr_run (fun a w ha=>?_) k'
 simp at ho hT;have e:(l.toArray.extract o (o+kk))=((l.drop o).take kk).toArray:=by simp
 simp[execOp,ha.ev hx,Instr.field,Fly.run_underlying hu,hy,Go.asAgg,part,(Ty_run hT w).1,(Ty_run hT w).2.1,ho,e]
theorem field_ok(S:Sound P E.T){s f:Nat}{x:Operand}(h:Pre fr E V I st L G xs)(hx:OpdOk E st V I L x)(he:evF E st s x f k=some r):Opr P n X L V G ⟨ds,.field s x f,ty,pos,af,gd⟩ (PostO fr r k V I st L G):=by
 unfold evF at he;replace he:=bsome he;obtain⟨sv,hsv,he⟩:=he
 obtain⟨v,hv,hr⟩:=hx sv hsv;replace he:=bsome he;obtain⟨q,hq,he⟩:=he
 obtain⟨o,g,kk⟩:=q;unfold fdO at he;split at he
 · rename_i l
   cases hr with | @st _ vs h1=>
   cases g with
   | true=>
    simp only[qe]at he;cases hk:Nat.blt 0 kk with
    | false=>rw[hk]at he;simp at he
    | true=>
     rw[hk]at he;simp only[qe]at he;replace he:=bsome he;obtain⟨c,hc,he⟩:=he
     obtain⟨_,c2,_⟩:=cutG_len hc;obtain⟨sv',hk',hr'⟩:=mkStK_ok (V:=V) (I:=I) (vs:=(vs.drop o).take kk) (by rw[c2];exact(h1.drop o).take kk) he
     exact op_fieldG S.tb hv (S.fo _ _ _ hq) (h.post hk' hr')
   | false=>
    simp only[qh]at he;replace he:=bsome he;obtain⟨y,hy,he⟩:=he
    replace he:=bsome he;obtain⟨y',hy',he⟩:=he
    have:y=y':=by cases y <;> simp[nb]at hy' <;> exact hy'
    subst this;obtain⟨u,hu,hru⟩:=h1.get hy;exact op_field1 S.tb hv (S.fo _ _ _ hq) hu (h.post he hru)
 replace he:=bsome he;obtain⟨l,hl,he⟩:=he
 replace he:=bsome he;obtain⟨y,hy,he⟩:=he
 have:=asAgg_eq hl;subst this
 cases hr with | t hr=>cases hr with | agg h1 h2=>
 cases g with
 | true=>
  unfold ldT at hy;simp only[qe,T.cells]at hy;cases hk:Nat.blt 0 kk with
  | false=>rw[hk]at hy;simp at hy
  | true=>
   rw[hk]at hy;simp only[qe]at hy;replace hy:=bsome hy;obtain⟨c,hc,hy⟩:=hy
   simp at hy;subst hy;obtain⟨_,c2,_⟩:=cutG_len hc;exact op_fieldG S.tb hv (S.fo _ _ _ hq) (h.post he (.t (.agg (by rw[c2];exact(h1.drop o).take kk) fun z hz=>h2 z (cut_mem hc z hz))))
 | false=>
  obtain⟨_,hb⟩:=rep_part (x:=.agg l) (by simpa[T.cells]using h1) (by simpa[T.cells]using h2) hy
  obtain⟨u,hu,hru,_⟩:=hb rfl;exact op_field1 S.tb hv (S.fo _ _ _ hq) hu (h.post he (.t hru))
theorem sl_elem{V:View}{kk i:Nat}{l:List T}{vs:List Value}{z:T}(h:RepA V (l.flatMap T.cells) vs)(hw:∀x∈l,x.cells.length=kk)(hi:l[i]?=some z) :
 RepA V z.cells ((vs.drop (i*kk)).take kk):=by
 have hlt:i<l.length:=(qp.1 hi).1
 have hz:=hw z (jo hi)
 have h1:=(h.drop (i*kk)).take kk
 rw[← flat_drop i hw]at h1;have hd:l.drop i=z::l.drop (i+1):=by
  rw[qW hlt];congr 1;exact(qp.1 hi).2
 rw[hd,jv,List.take_append_of_le_length (by omega),qC (by omega)]at h1;exact h1
theorem dt_get{vs:List Value}{o m j:Nat}{c:Value}(h:((vs.drop o).take m)[j]?=some c):vs[o+j]?=some c:=by
 rw[qV]at h;split at h
 · rwa [jP]at h
 · cases h
theorem inR_len{n:Nat}(h:n≤maxLen):inR .i64 (n:Int)=true:=by
 simp only[inR,IntKind.min,IntKind.max,IntKind.bits,IntKind.signed,qk,qE,maxLen]at h ⊢;simp at h ⊢;omega
theorem inR_byte(c:UInt8):inR .u8 (c.toNat:Int)=true:=by
 have:=c.toNat_lt
 simp only[inR,IntKind.min,IntKind.max,IntKind.bits,IntKind.signed,qk,qE];simp at this ⊢;omega
theorem idx_some{l:List T}{j:Int}{z:T}(h:idx l j=some z):0≤j∧l[j.toNat]?=some z:=by
 unfold idx at h;by_cases h0:0≤j
 · simp[h0]at h;exact⟨h0,h⟩
 · simp[h0]at h
theorem ia_ok(S:Sound P E.T){t:Nat}{x i:Operand}(h:Pre fr E V I st L G xs)(hx:OpdOk E st V I L x)(hi:OpdOk E st V I L i)(he:evIA E st t x i k=some r):Opr P n X L V G ⟨ds,.indexAddr t x i,ty,pos,af,gd⟩ (PostO fr r k V I st L G):=by
 unfold evIA at he;replace he:=bsome he;obtain⟨sv,hsv,he⟩:=he
 obtain⟨v,hv,hr⟩:=hx sv hsv;replace he:=bsome he;obtain⟨si,hsi,he⟩:=he
 obtain⟨vi,hvi,hri⟩:=hi si hsi;unfold ixO at he;replace he:=bsome he;obtain⟨p,hp,he⟩:=he
 replace he:=bsome he;obtain⟨j,hj,he⟩:=he
 obtain⟨κ,rfl⟩:=asN_eq hj;have:=rep_s hri;subst this
 have hE:=S.el t (p.1,p.2) hp
 have tree:∀ {l:List T} {z:T},idx l j=some z→RepS V I (.t (.sl p.2 l)) v→k (.t (.pt z 0)) st=some r→Opr P n X L V G ⟨ds,.indexAddr t x i,ty,pos,af,gd⟩ (PostO fr r k V I st L G):=by
  intro l z hz hr he;obtain⟨h0,hz⟩:=idx_some hz;have hlt:j.toNat<l.length:=(qp.1 hz).1
  cases hr with | t hr=>cases hr with | @sl _ _ vs a cap a1 a2 a3 a4 a5 a6=>
  rcases a6 with a6 | ⟨b,off,rfl,a6⟩
  · subst a6;simp at hz
  · refine op_indexAddr S.tb hv hvi hE h0 (by omega) (h.post he (.t ?_))
    have:=Rep.pt (V:=V) (x:=z) (off:=0) (b:=b) (o:=off+j.toNat*p.2) (sl_elem a1 a3 hz) (fun y hy=>a2 y (jB.2 ⟨z,jo hz,hy⟩)) (fun q c hq=>by
     have:=a6 _ _ (dt_get hq)
     rwa [← jl]at this)
    simpa using this
 split at he
 · rename_i m off len
   split at he
   · rename_i fx e w l hn
     cases hck:(Nat.beq w p.2&&decide (0≤j)&&decide (j<(len:Int)))with
     | false=>rw[hck]at he;simp at he
     | true=>
      rw[hck]at he;simp only[qe]at he;simp only[qk,qE]at hck;obtain⟨⟨hw,h0⟩,h1⟩:=hck;have:=qd hw;subst this
      cases hr with
      | @osl _ _ _ b k' ct cap hI h3 h4 h5=>
       rcases h.mr.row hn with⟨b',ct',cur,a1,a2,a3,a4,a5,a6,a7,a8⟩ | ⟨a1,rfl⟩
       · rw[hI]at a1
         simp only[qa,IE.row.injEq]at a1;obtain⟨rfl,rfl,rfl⟩:=a1;refine op_indexAddr S.tb hv hvi hE h0 h1 (h.post he ?_)
         have:=RepS.ep (V:=V) (I:=I) (n:=m) (i:=off+j.toNat) (off:=0) hI
         rw[jx,qL]at this;exact this
       · rw[hI]at a1;cases a1
      | osl0 _ _=>omega
      | oslv _=>simp at h1;omega
      | oslp hI _=>
       rcases h.mr.row hn with⟨b',ct',cur,a1,_⟩ | ⟨a1,_⟩ <;> (rw[hI]at a1;cases a1)
   · rename_i l hn
     cases hck:(Nat.beq p.2 1&&(Nat.beq off 0&&(decide (0≤j)&&decide (j<(len:Int)))))with
     | false=>rw[hck]at he;simp at he
     | true=>
      rw[hck]at he;simp only[qe]at he;simp only[qk,qE]at hck;obtain⟨hw,ho,h0,h1⟩:=hck;have hw:=qd hw;have:=qd ho;subst this
      obtain⟨b',vs,e,k1,k2,k3,k4⟩:=h.mr.cells hn;cases hr with
      | osl hI _ _ _=>rw[hI]at k1;cases k1
      | osl0 h0 _=>exact absurd rfl h0
      | oslv hI=>rw[hI]at k1;cases k1
      | oslp hI _=>
       refine op_indexAddr S.tb hv hvi hE h0 h1 (h.post he ?_)
       rw[hw,j8,qF];exact .ref hI
   · simp at he
 · rename_i u k' l
   cases hb:Nat.beq k' p.2 with
   | false=>rw[hb]at he;simp at he
   | true=>
    rw[hb]at he;simp only[qe]at he;replace he:=bsome he;obtain⟨z,hz,he⟩:=he
    have hk:=qd hb;subst hk;cases hr with | t hr=>cases hr with | ql hr=>
    exact tree (idx_map hz) (.t hr) he
 · replace he:=bsome he;obtain⟨l,hl,he⟩:=he
   replace he:=bsome he;obtain⟨z,hz,he⟩:=he
   exact tree hz (asSl_rep hl hr) he
theorem len_ok(S:Sound P E.T){x:Operand}{ts:Array TypeId}{t:Nat}{sv:SV}(h:Pre fr E V I st L G xs)(hx:OpdOk E st V I L x)(hs:opd E st x=some sv)(ht:ts[0]?=some t)(he:lenO E sv t (fun u=>k u st)=some r) :
 Opr P n X L V G ⟨ds,.call { callee:=.builtin .len,args:=#[x],argTypes:=ts },ty,pos,af,gd⟩ (PostO fr r k V I st L G):=by
 obtain⟨v,hv,hr⟩:=hx sv hs;unfold lenO at he;split at he
 · rename_i hk
   replace he:=bsome he;obtain⟨b,hb,he⟩:=he
   have:=asS_eq hb;subst this
   have hr0:=hr;have:=rep_s hr;subst this
   have hsz:=rep_str hr0;exact op_lenT hv ht (S.str _ hk) (h.post he (repI (inR_len hsz)))
 · split at he
   · rename_i p hp
     have hE:=S.el t (p.1,p.2) hp
     split at he
     · cases hr with
       | osl h1 h2 h3 _=>exact op_len S.tb hv ht hE (h.post he (repI (inR_len (by omega))))
       | osl0 h1 h2=>exact op_len S.tb hv ht hE (h.post he (repI (inR_len (zB _))))
       | oslv h1=>exact op_len S.tb hv ht hE (h.post he (repI (inR_len (zB _))))
       | oslp h1 h2=>exact op_len S.tb hv ht hE (h.post he (repI (inR_len h2)))
     · rename_i u k' l
       cases hb:Nat.beq k' p.2 with
       | false=>rw[hb]at he;simp at he
       | true=>
        rw[hb]at he;simp only[qe]at he;have hk:=qd hb;subst hk;cases hr with | t hr=>cases hr with | ql hr=>cases hr with | sl a1 a2 a3 a4 a5 a6=>exact op_len S.tb hv ht hE (h.post he (by rw[qD]at a4 ⊢;exact repI (inR_len (by omega))))
     · replace he:=bsome he;obtain⟨l,hl,he⟩:=he
       have hr:=asSl_rep hl hr;cases hr with | t hr=>cases hr with | sl a1 a2 a3 a4 a5 a6=>exact op_len S.tb hv ht hE (h.post he (repI (inR_len (by omega))))
   · simp at he
theorem mm_ok(S:Sound P E.T){x y:Operand}{ts:Array TypeId}(b:Bool)(h:Pre fr E V I st L G xs)(hx:OpdOk E st V I L x)(hy:OpdOk E st V I L y)(he:mmO E st (bif b then max else min) x y ts k=some r) :
 Opr P n X L V G ⟨ds,.call { callee:=.builtin (bif b then .max else .min),args:=#[x,y],argTypes:=ts },ty,pos,af,gd⟩ (PostO fr r k V I st L G):=by
 unfold mmO at he;replace he:=bsome he;obtain⟨sx,hsx,he⟩:=he
 replace he:=bsome he;obtain⟨sy,hsy,he⟩:=he
 replace he:=bsome he;obtain⟨t,ht,he⟩:=he
 obtain⟨vx,hvx,hrx⟩:=hx sx hsx;obtain⟨vy,hvy,hry⟩:=hy sy hsy;split at he
 · replace he:=bsome he;obtain⟨p,hp,he⟩:=he
   replace he:=bsome he;obtain⟨q,hq,he⟩:=he
   have:=asI_eq hp;subst this
   have:=asI_eq hq;subst this
   have hpr:=rep_i hrx;have hqr:=rep_i hry;have:=rep_s hrx;subst this
   have:=rep_s hry;subst this
   cases b with
   | true=>exact op_max hvx hvy (h.post he (repI (by show inR _ (Max.max p q)=true;rw[Int.max_def];split <;> assumption)))
   | false=>exact op_min hvx hvy (h.post he (repI (by show inR _ (Min.min p q)=true;rw[Int.min_def];split <;> assumption)))
 · simp at he
theorem idxS_ok(S:Sound P E.T){t:Nat}{x i:Operand}(h:Pre fr E V I st L G xs)(hx:OpdOk E st V I L x)(hi:OpdOk E st V I L i)(he:evI E st t x i k=some r):Opr P n X L V G ⟨ds,.index t x i,ty,pos,af,gd⟩ (PostO fr r k V I st L G):=by
 unfold evI at he;split at he
 · rename_i hk
   replace he:=bsome he;obtain⟨sx,hsx,he⟩:=he
   replace he:=bsome he;obtain⟨si,hsi,he⟩:=he
   obtain⟨vx,hvx,hrx⟩:=hx sx hsx;obtain⟨vi,hvi,hri⟩:=hi si hsi;replace he:=bsome he;obtain⟨s,hs,he⟩:=he
   replace he:=bsome he;obtain⟨j,hj,he⟩:=he
   have:=asS_eq hs;subst this
   have:=rep_s hrx;subst this
   obtain⟨κ,rfl⟩:=asN_eq hj;have:=rep_s hri;subst this
   by_cases h0:0≤j
   · simp only[h0,zD,qe]at he
     replace he:=bsome he;obtain⟨c,hc,he⟩:=he
     exact op_indexS hvx hvi (S.str _ hk) h0 hc (h.post he (repI (inR_byte c)))
   · simp[h0]at he
 · rename_i m hk
   replace he:=bsome he;obtain⟨sx,hsx,he⟩:=he
   replace he:=bsome he;obtain⟨si,hsi,he⟩:=he
   obtain⟨vx,hvx,hrx⟩:=hx sx hsx;obtain⟨vi,hvi,hri⟩:=hi si hsi;replace he:=bsome he;obtain⟨l,hl,he⟩:=he
   replace he:=bsome he;obtain⟨j,hj,he⟩:=he
   obtain⟨κ,rfl⟩:=asN_eq hj;have:=rep_s hri;subst this
   obtain⟨e,hu,hty⟩:=S.arr _ _ _ _ hk;cases hb:(decide (0≤j)&&decide (j<(m:Int)))with
   | false=>rw[hb]at he;simp at he
   | true=>
   rw[hb]at he;simp only[qe]at he;simp only[qk,qE]at hb;obtain⟨i0,c,hc,hj0,hg,he⟩:=arrK_some he;have hc:l[j.toNat]?=some c:=by rw[hj0];simpa using hc
   have hl2:=asAgg_eq hl;subst hl2;cases hrx with | t hrx=>
   cases hrx with | agg ha hna=>
   obtain⟨u,hu2,hr2⟩:=ha.get hc;exact op_indexA hvx hvi hu hty rfl hb.1 hb.2 hu2 (h.post he (.t hr2))
 · simp at he
end
end Su
end
