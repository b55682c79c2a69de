/-
  An evaluator, proved sound. No condition.
-/
import Derived.Test.YtldhknmacepeiaaGreatDoorFlyW
set_option linter.unusedVariables false
set_option linter.unusedSimpArgs false
section
namespace Su
open Go Fly
theorem qdG{o:Option SV}{sv:SV}(h:o.bind nb=some sv):o=some sv∧sv≠.bad:=by
 cases o with
 | none=>simp at h
 | some s=>
  simp only[zm]at h;cases s <;> simp[nb]at h <;> subst h <;> exact⟨rfl,by simp⟩
section
variable {P:Program} {E:Env} {n:Nat} {X:Cx} {L:Lo} {V:qc} {I:List IE} {G:Own}
theorem qyu(S:Sound P E.T){b t:Nat}{O:Type}{r:O}{k:SV→St→Option O}{st:St}{sv:SV}{v:Value}(hS:SR V I st L G)(hg:GOK E.T V)(hF:jQ V G)(hv:lk L b=some v)(hr:RepS V I sv v)(he:ldO E true st sv t k=some r) :
 ∃V' G' u s' st',Gh V G V' G'∧SR V' I st' L G'∧k s' st'=some r∧RepS V' I s' u∧Fx st.H st'.H∧∃p,v = .pointer (some p)∧∀w,Holds X V G w→(loadVar t p).run P w = .ok u w:=by
 have pre:=hS.pre (E:=E) hg hF true []
 have ro:∀ {u:Value} {p:Addr},v = .pointer (some p)→(∀w,Holds X V G w→(loadVar t p).run P w = .ok u w)→∀ {s':SV},k s' st=some r→RepS V I s' u →
  ∃V' G' u s' st',Gh V G V' G'∧SR V' I st' L G'∧k s' st'=some r∧RepS V' I s' u∧Fx st.H st'.H∧∃p,v = .pointer (some p)∧∀w,Holds X V G w→(loadVar t p).run P w = .ok u w :=
  fun {u p} hp hw {s'} hk hrs=>⟨V,G,u,s',st,Gh.refl hF,hS,hk,hrs,Fx.refl _,p,hp,hw⟩
 unfold ldO at he;replace he:=qf he;obtain⟨p,hp,he⟩:=he
 obtain⟨g,kk⟩:=p;have hT:=S.tb.ty_ok _ _ (S.ty _ _ hp)
 split at he
 · rename_i z off
   replace he:=qhh he;obtain⟨y,hy,he⟩:=he
   cases hr with|t hr=>cases hr with|@pt _ _ b' o vs h1 h2 h3=>
   obtain⟨ha,hb⟩:=ZT h1 h2 hy;cases g with
   | true=>
    obtain⟨hk,us,hl,hu,hry⟩:=ha rfl;refine ro (u:=.agg us.toArray) rfl (fun w hw=>qlt hT hl fun j u hj=>?_) he (.t hry)
    obtain⟨arr,e,f0,q1,q2⟩:=h3 _ _ (hu j u hj)
    rw[yv (hw.view _ _ q1),Kp];exact q2
   | false=>
    obtain⟨u,hu,hry,_⟩:=hb rfl;refine ro rfl (fun w hw=>qls hT ?_) he (.t hry)
    obtain⟨arr,e,f0,q1,q2⟩:=h3 _ _ hu;rw[yv (hw.view _ _ q1)];exact q2
 · rename_i m off
   split at he
   · rename_i l hn
     obtain⟨b',vs,e,k1,k2,k3,k4⟩:=hS.mem.mr.cells hn;cases hr with|ref hI=>
     rw[k1]at hI;simp only[za,IE.blk.injEq]at hI;subst hI;cases g with
     | true=>
      simp only[zg]at he;replace he:=qf he;obtain⟨c,hc,he⟩:=he
      obtain⟨us,c1,c2⟩:=qdz k3 hc;obtain⟨sv',hk,hr'⟩:=YV c2 he;exact ro rfl (fun w hw=>rdN S.tb (S.ty _ _ hp) (.own k2) c1 hw) hk hr'
     | false=>
      simp only[zo,qdt]at he;replace he:=qf he;obtain⟨y,hy,he⟩:=he
      obtain⟨u,hu,hru⟩:=k3.get hy;exact ro rfl (fun w hw=>rd1 S.tb (S.ty _ _ hp) (.own k2) hu hw) he hru
   · simp at he
 · rename_i m i off
   split at he
   · rename_i fx e w l hn
     replace he:=qf he;obtain⟨z,hz,he⟩:=he
     replace he:=qhh he;obtain⟨y,hy,he⟩:=he
     rcases hS.mem.mr.row hn with⟨b',ct,cur,k1,k2,k3,k4,k5,k6,k7,k8⟩|⟨_,rfl⟩
     · cases hr with|ep hI=>
       rw[k1]at hI;simp only[za,IE.row.injEq]at hI;obtain⟨rfl,rfl,rfl⟩:=hI;obtain⟨hz1,hcell⟩:=qey k6 k8 hz;obtain⟨ha,hb⟩:=ZT hz1 (fun y hy=>k7 y (KU.2 ⟨z,zO hz,hy⟩)) hy
       cases g with
       | true=>
        obtain⟨hk,us,hl,hu,hry⟩:=ha rfl;refine ro (u:=.agg us.toArray) rfl (fun w hw=>qlt hT hl fun j u hj=>?_) he (.t hry)
        rw[yv (hw.own _ k2.mem),Kp];exact hcell _ _ (hu j u hj)
       | false=>
        obtain⟨u,hu,hry,_⟩:=hb rfl;refine ro rfl (fun w hw=>qls hT ?_) he (.t hry)
        rw[yv (hw.own _ k2.mem)];exact hcell _ _ hu
     · simp at hz
   · simp at he
 · simp at he
theorem qbS(S:Sound P E.T):∀(rs:List ResultVar) (st:St) (V:qc) (G:Own) (p:List SV×St),SR V I st L G→GOK E.T V→jQ V G→qem E st rs=some p →
 ∃V' G' vs,Gh V G V' G'∧SR V' I p.2 L G'∧RepSs V' I p.1 vs∧Fx st.H p.2.H∧rs.length=vs.length∧∀q∈rs.zip vs,qaJ P X L V G q.1 q.2
 | [],st,V,G,p,hS,hg,hF,he=>by
  simp only[qem,za]at he;subst he;exact⟨V,G,[],Gh.refl hF,hS,.nil,Fx.refl _,rfl,by simp⟩
 | .tmp t::rs,st,V,G,p,hS,hg,hF,he=>by
  simp only[qem]at he;replace he:=qf he;obtain⟨sv,hsv,he⟩:=he
  replace he:=qf he;obtain⟨q,hq,he⟩:=he
  simp only[za]at he;subst he;obtain⟨h1,h2⟩:=qdG hsv;obtain⟨v,hv,hr⟩:=hS.slot t sv h1 h2;obtain⟨V',G',vs,a1,a2,a3,a4,a5,a6⟩:=qbS S rs st V G q hS hg hF hq;refine⟨V',G',v::vs,a1,a2,.cons (hr.mono a1.sub (Ile.refl _)) a3,a4,by simp[a5],fun z hz=>?_⟩
  rcases zK.1 (by simpa using hz:z∈(ResultVar.tmp t,v)::rs.zip vs)with rfl|hz
  · exact hv
  · exact a6 z hz
 | .cell b t::rs,st,V,G,p,hS,hg,hF,he=>by
  simp only[qem]at he;replace he:=qf he;obtain⟨sv,hsv,he⟩:=he
  obtain⟨h1,h2⟩:=qdG hsv;obtain⟨v,hv,hr⟩:=hS.slot b sv h1 h2;obtain⟨V1,G1,u,s1,st1,g1,b1,b2,b3,b4,ad,rfl,b5⟩:=qyu (X:=X) S hS hg hF hv hr he
  replace b2:=qf b2;obtain⟨q,hq,b2⟩:=b2
  simp only[za]at b2;subst b2;obtain⟨V',G',vs,a1,a2,a3,a4,a5,a6⟩:=qbS S rs st1 V1 G1 q b1 (hg.mono g1.sub) g1.free hq
  refine⟨V',G',u::vs,g1.trans a1,a2,.cons (b3.mono a1.sub (Ile.refl _)) a3,b4.trans a4,by simp[a5],fun z hz=>?_⟩
  rcases zK.1 (by simpa using hz:z∈(ResultVar.cell b t,u)::rs.zip vs)with rfl|hz
  · exact⟨ad,hv,b5⟩
  · have:=a6 z hz
    obtain⟨rv,vv⟩:=z;cases rv with
    | tmp t=>exact this
    | cell b t=>
     obtain⟨pp,c1,c2⟩:=this;exact⟨pp,c1,fun w hw=>c2 w (g1.holds X w hw)⟩
theorem qeQ:∀(l:List SV) (i:Nat),QI (ZH i l)=(List.range l.length).map (·+i)
 | [],i=>rfl
 | v::l,i=>by
  simp only[ZH,QI,qeQ l (i+1),zf,WG,KH,List.map_map,zt]
  congr 1
  apply List.map_congr_left
  intro a _;simp only[Function.comp];omega
theorem qhK:∀(vs:List Value) (i:Nat) (K:List (Nat×SV)) (V:qc) (I:List IE),QI K=(List.range vs.length).map (·+i)→(∀(j:Nat) (sv:SV) (v:Value),lkG K (j+i)=some sv→sv≠.bad→vs[j]?=some v→RepS V I sv v)→RepSs V I (ZB K) vs
 | [],i,K,V,I,h,_=>by
  cases K with
  | nil=>exact .nil
  | cons p K=>simp[QI]at h
 | v::vs,i,K,V,I,h,hr=>by
  cases K with
  | nil=>simp[QI,WG]at h
  | cons p K=>
   obtain⟨k,u⟩:=p;simp only[QI,zf,WG,KH,List.map_map,zt,WW]at h;obtain⟨rfl,h⟩:=h;simp only[ZB];refine .cons ?_ (qhK vs (k+1) K V I ?_ fun j sv w hj hb hw=>?_)
   · by_cases hb:u = .bad
     · subst hb;exact .bad
     · exact hr 0 u v (by rw[yM,zt,Vk];rfl) hb rfl
   · rw[h]
     apply List.map_congr_left
     intro a _;simp only[Function.comp];omega
   · refine hr (j+1) sv w ?_ hb (by simpa using hw)
     rw[yM];have:Nat.beq k (j+1+k)=false:=by
      cases hq:Nat.beq k (j+1+k)with
      | false=>rfl
      | true=>have:=zd hq;omega
     rw[this];rw[show j+1+k=j+(k+1) by omega];exact hj
theorem qeR:∀(l:List SV) (vs:List Value) (i d:Nat) (sv:SV),RepSs V I l vs→lkG (ZH i l) d=some sv→∃v,lk (qZ i vs) d=some v∧RepS V I sv v
 | [],_,i,d,sv,.nil,h=>by simp[ZH]at h
 | x::l,_,i,d,sv,.cons (v:=v) hx hl,h=>by
  simp only[ZH,yM]at h;simp only[qZ,lk];cases hb:Nat.beq i d with
  | true=>rw[hb]at h;simp at h;subst h;exact⟨v,rfl,hx⟩
  | false=>rw[hb]at h;exact qeR l _ (i+1) d sv hl h
theorem qc8:∀(vs:List Value) (i j:Nat) (v:Value),lk (qZ i vs) (j+i)=some v→vs[j]?=some v:=by
 intro vs i j v h;have:=(qah vs i (j+i) v h).2
 simpa using this
theorem qeS{fn:Func}{w:World}{V0 V':qc}{G0 G':Own}{Q:Value→qc→Own→Prop}(hM:X.M=keys G0)(hw:X.w0=w)(hV:X.V0=V0)(hR:X.R=fing P fn w V0 G0 Q){v:Value}
 (hG:∀w',Holds X V G w'→Holds X V' G' w') (hv:∀a w',Knows n L a→Holds X V G w'→(results fn a.tmps).run P w' = .ok v w') (hQ:Q v V' G') :
 ∀e,(e = .ret∨e = .normal)→Fly.St n X L V G fun a w=>X.R e a w:=by
 intro e he a w' ha hw';rw[hR];have h1:=hG w' hw';have hk:Holds ⟨keys G0,w,V0,fun _ _ _=>False⟩ V' G' w':=by
  obtain⟨M,w0,VV,RR⟩:=X;simp only at hM hw hV;subst hM hw hV
  exact⟨h1.ext,h1.view,h1.own,h1.free,h1.nodup,h1.sub,h1.newer⟩
 rcases he with rfl|rfl <;> exact⟨ha.defers,v,hv a w' ha hw',v,V',G',rfl,hk,hQ⟩
theorem res'{fn:Func}{rs:List ResultVar}{vs:List Value}(hr:fn.results=rs.toArray)(hl:rs.length=vs.length)(h:∀p∈rs.zip vs,qaJ P X L V G p.1 p.2):∀a w',Knows n L a→Holds X V G w'→(results fn a.tmps).run P w' = .ok (YJ vs) w':=by
 intro a w ha hw;cases vs with
 | nil=>exact res hr hl h a w ha hw
 | cons v l=>
  cases l with
  | nil=>exact res (vs:=[v]) hr hl h a w ha hw
  | cons u l=>exact res (vs:=v::u::l) hr hl h a w ha hw
def ql5(P:Program)(T:Tbl)(pr:jl)(call:Zy):Prop :=
 ∀(E:Env),E.T=T→E.call=call→E.prim=pr→∀(n:Nat) (X:Cx) (H0:List OB) (I0:List IE),I0.length=E.base→H0.length=E.base→∀(id:Nat) (ops:Array Oper) (draw:Bool) {O:Type} (r:O) (kn:St→Option O) (st:St) (L:Lo) (V:qc) (G:Own) (I:List IE) (K:List KI),okC n E.T E.f (.region id ops draw)=true→qpb E id ops draw kn st=some r→SR V I st L G→GOK E.T V→IPf H0 I0 st.H I→CN P n X K E.T H0 I0 r kn→WC P n X L V G (.region id ops draw) K
theorem qtD{T:Tbl}(S:Sound P T)(hcode:∀f fn c,T.fns f=some fn→fn.body=some c→okC fn.ntmps T f c=true){m:Nat}{pr:jl}{call:Zy}(hreg:ql5 P T pr call) :
 J5 P T S (qkC T pr call m):=by
 intro O0 f args H k y he;unfold qkC at he;replace he:=qf he;obtain⟨fn,hfn,he⟩:=he
 refine⟨S.go f fn hfn,?_⟩
 split at he
 · simp at he
 · rename_i c hb
   cases hle:Nat.ble args.length fn.ntmps with
   | false=>rw[hle]at he;simp at he
   | true=>
    rw[hle]at he;simp only[zg]at he;intro V I G vs hg hGR hr;have hHl:I.length=H.length:=by obtain⟨G0,h1,_⟩:=hGR;exact h1.length
    refine qH (n:=fn.ntmps) (S.fns _ _ hfn) hb rfl (by rw[← hr.length];exact hle) fun X w hM hMl hw hV0 hR=>?_
    have hS:SR V I ⟨ZH 0 args,[],H⟩ (qZ 0 vs) G:=⟨hGR,fun d sv hd hb=>by rw[Jd]at hd;exact qeR args vs 0 d sv hr hd⟩
    -- reading the results off
    have hend:∀(e:Exit),(e = .ret∨e = .normal)→∀st L V' G' I',qdl ⟨T,f,T.keep f,H.length,call,m,pr⟩ fn.results.toList st k=some y→SR V' I' st L G'→GOK T V'→IPf H I st.H I'→Fly.St fn.ntmps X L V' G' fun a w=>X.R e a w:=by
     intro e hee st L V' G' I' ho hS' hg' hip';have key:jQ V' G'→Fly.St fn.ntmps X L V' G' fun a w=>X.R e a w:=by
      intro hF;unfold qdl at ho;replace ho:=qf ho;obtain⟨p,hp,ho⟩:=ho
      obtain⟨V2,G2,rvs,g2,s2,r2,f2,l2,rd2⟩:=qbS (X:=X) (E:=⟨T,f,T.keep f,H.length,call,m,pr⟩) S fn.results.toList st V' G' p hS' hg' hF hp
      have hS3:SR V2 I' ⟨ZH 0 p.1,[],p.2.H⟩ (qZ 0 rvs) G2:=⟨s2.mem,fun d sv hd hb=>by rw[Jd]at hd;exact qeR p.1 rvs 0 d sv r2 hd⟩
      obtain⟨I3,G3,s3,h3,ip3⟩:=ZZ (base:=H.length) hS3 hHl rfl (hip'.trans f2.ipf)
      obtain⟨pk1,pk2⟩:=qba H.length ⟨ZH 0 p.1,[],p.2.H⟩
      have hreps:RepSs V2 I3 (ZB (Qd H.length ⟨ZH 0 p.1,[],p.2.H⟩).K) rvs:=by
       refine qhK rvs 0 _ V2 I3 (by rw[pk1,qeQ,r2.length]) fun j sv v hj hb hv=>?_
       obtain⟨u,hu,hru⟩:=s3.slot (j+0) sv (by unfold St.look;rw[hj]) hb
       have:=qc8 rvs 0 j u hu
       rw[this]at hv;simp only[za]at hv;subst hv;exact hru
      refine qeS hM hw hV0 hR (V':=V2) (G':=G3) (v:=YJ rvs) (fun w' hw'=>h3 X w' (g2.holds X w' hw')) ?_ ⟨_,_,ho,I3,rvs,s3.mem,hreps,rfl,ip3⟩ e hee
      · exact res' (X:=X) (L:=L) (V:=V') (G:=G') (fn:=fn) (rs:=fn.results.toList) (vs:=rvs) (by simp) l2 rd2
     exact fun a w ha hw=>key (jQ.cons hw) a w ha hw
    refine qpV (E:=⟨T,f,T.keep f,H.length,call,m,pr⟩) (H0:=H) (I0:=I) (rs:=fn.results.toList) hHl rfl (fun id ops draw O r kn st L V G I' K h1 h2 h3 h4 h5 h6=>hreg _ rfl rfl rfl _ _ _ _ hHl rfl id ops draw r kn st L V G I' K h1 h2 h3 h4 h5 h6)
     c y _ _ _ _ _ V G I [] he (hcode f fn c hfn hb) hS hg (IPf.refl _ _) ?_ ?_ ?_
    · intro st L V' G' I' ho hS' hg' hip'
      exact qdV (hend .normal (.inr rfl) st L V' G' I' ho hS' hg' hip')
    · intro i st L V' G' I' ho
      simp at ho
    · intro st L V' G' I' ho hS' hg' hip'
      exact hend .ret (.inl rfl) st L V' G' I' ho hS' hg' hip'
theorem qyv{B:Tbl}(S:Sound P B)(hcode:∀f fn c,B.fns f=some fn→fn.body=some c→okC fn.ntmps B f c=true){m:Nat}{pr:jl}{call:Zy}(hreg:ql5 P B pr call)
 {f:Nat} {args:List T} {O:Type} {dec:List T→Option O} {y:O} (he:qiE B pr call m f args dec=some y):S.tb.go f=true∧∀V vs,GOK B V→RepA V args vs →
   jk P f vs.toArray V [] fun v V' _=>∃ts rvs,dec ts=some y∧RepA V' ts rvs∧v=YJ rvs:=by
 unfold qiE at he;replace he:=qf he;obtain⟨fn,hfn,he⟩:=he
 refine⟨S.go f fn hfn,?_⟩
 split at he
 · simp at he
 · rename_i c hb
   cases hle:Nat.ble (mpT args).length fn.ntmps with
   | false=>rw[hle]at he;simp at he
   | true=>
    rw[hle]at he;simp only[zg]at he;intro V vs hg hr0;have hr:RepSs V [] (mpT args) vs:=RepSs.ofT hr0
    have hGR:GR V [] [] []:=⟨[],.nil,List.Perm.nil⟩
    refine qH (n:=fn.ntmps) (S.fns _ _ hfn) hb rfl (by rw[← hr.length];exact hle) fun X w hM hMl hw hV0 hR=>?_
    have hS:SR V [] ⟨ZH 0 (mpT args),[],[]⟩ (qZ 0 vs) []:=⟨hGR,fun d sv hd hb=>by rw[Jd]at hd;exact qeR (mpT args) vs 0 d sv hr hd⟩
    have hend:∀(e:Exit),(e = .ret∨e = .normal)→∀st L V' G' I',qdl ⟨B,f,B.keep f,0,call,m,pr⟩ fn.results.toList st (fun r H=>toTsK 64 ⟨[],[],H⟩ r fun ts _=>dec ts)=some y→SR V' I' st L G'→GOK B V'→IPf [] [] st.H I'→Fly.St fn.ntmps X L V' G' fun a w=>X.R e a w:=by
     intro e hee st L V' G' I' ho hS' hg' hip';have key:jQ V' G'→Fly.St fn.ntmps X L V' G' fun a w=>X.R e a w:=by
      intro hF;unfold qdl at ho;replace ho:=qf ho;obtain⟨p,hp,ho⟩:=ho
      replace ho:=qam ho
      replace ho:=qf ho;obtain⟨z,hz,ho⟩:=ho
      obtain⟨V2,G2,rvs,g2,s2,r2,f2,l2,rd2⟩:=qbS (X:=X) (E:=⟨B,f,B.keep f,0,call,m,pr⟩) S fn.results.toList st V' G' p hS' hg' hF hp
      have hS3:SR V2 I' ⟨ZH 0 p.1,[],p.2.H⟩ (qZ 0 rvs) G2:=⟨s2.mem,fun d sv hd hb=>by rw[Jd]at hd;exact qeR p.1 rvs 0 d sv r2 hd⟩
      obtain⟨I3,G3,s3,h3,ip3⟩:=ZZ (base:=0) hS3 rfl rfl (hip'.trans f2.ipf)
      obtain⟨pk1,pk2⟩:=qba 0 ⟨ZH 0 p.1,[],p.2.H⟩
      have hreps:RepSs V2 I3 (ZB (Qd 0 ⟨ZH 0 p.1,[],p.2.H⟩).K) rvs:=by
       refine qhK rvs 0 _ V2 I3 (by rw[pk1,qeQ,r2.length]) fun j sv v hj hb hv=>?_
       obtain⟨u,hu,hru⟩:=s3.slot (j+0) sv (by unfold St.look;rw[hj]) hb
       have:=qc8 rvs 0 j u hu
       rw[this]at hv;simp only[za]at hv;subst hv;exact hru
      intro a w ha hw';have hfr3:jQ V2 G3:=jQ.cons (h3 X w (g2.holds X w hw'))
      obtain⟨V4,G4,g4,s4,r4,_⟩:=(QV (I:=I3) (L:=[]) 64).2 ⟨[],[],(Qd 0 ⟨ZH 0 p.1,[],p.2.H⟩).H⟩ z.2 _ z.1 (by rw[hz]) V2 G3 rvs hreps ⟨s3.mem,fun d sv hd _=>by simp[St.look]at hd⟩ hfr3
      exact qeS hM hw hV0 hR (V':=V4) (G':=G4) (v:=YJ rvs) (fun w' hw'=>g4.holds X w' (h3 X w' (g2.holds X w' hw'))) (res' (X:=X) (L:=L) (V:=V') (G:=G') (fn:=fn) (rs:=fn.results.toList) (vs:=rvs) (by simp) l2 rd2) ⟨z.1,rvs,ho,r4,rfl⟩ e hee a w ha hw'
     exact fun a w ha hw=>key (jQ.cons hw) a w ha hw
    refine qpV (E:=⟨B,f,B.keep f,0,call,m,pr⟩) (H0:=[]) (I0:=[]) (rs:=fn.results.toList) rfl rfl (fun id ops draw O r kn st L V G I' K h1 h2 h3 h4 h5 h6=>hreg _ rfl rfl rfl _ _ _ _ rfl rfl id ops draw r kn st L V G I' K h1 h2 h3 h4 h5 h6)
     c y _ _ _ _ _ V [] [] [] he (hcode f fn c hfn hb) hS hg (IPf.refl _ _) ?_ ?_ ?_
    · intro st L V' G' I' ho hS' hg' hip'
      exact qdV (hend .normal (.inr rfl) st L V' G' I' ho hS' hg' hip')
    · intro i st L V' G' I' ho
      simp at ho
    · intro st L V' G' I' ho hS' hg' hip'
      exact hend .ret (.inl rfl) st L V' G' I' ho hS' hg' hip'
theorem qpW{T:Tbl}(S:Sound P T)(hcode:∀f fn c,T.fns f=some fn→fn.body=some c→okC fn.ntmps T f c=true){pr:jl}(hreg:∀call,J5 P T S call→ql5 P T pr call){lf:Nat}:∀m,J5 P T S (shN T pr lf m)
 | 0=>fun O f args H k y he=>by simp[shN]at he
 | m+1=>by
  have:=qtD S hcode (m:=lf) (hreg _ (qpW S hcode hreg (lf:=lf) m))
  intro O f args H k y he;exact this O f args H k y (by simpa only[shN]using he)
end
end Su
end
section
namespace Su
open Go Fly
structure Par (st:St) (f:∀(O:Type),(SV→St→Option O)→Option O):Prop where
 par:∀(O:Type) (r:O) (k:SV→St→Option O),f O k=some r→∃sv,k sv st=some r∧∀(O':Type) (k':SV→St→Option O'),f O' k'=k' sv st
section
variable {st:St}
theorem qm{α:Type}{a:Option α}{g:α→∀(O:Type),(SV→St→Option O)→Option O}(h:∀x,a=some x→Par st (g x)):Par st (fun O k=>a.bind fun x=>g x O k):=by
 constructor;intro O r k e;replace e:=qf e;obtain⟨x,hx,e⟩:=e
 obtain⟨sv,h1,h2⟩:=(h x hx).par O r k e
 exact⟨sv,h1,fun O' k'=>by simp only[hx,zm];exact h2 O' k'⟩
theorem qC(sv:SV):Par st (fun _ k=>k sv st):=⟨fun _ _ _ e=>⟨sv,e,fun _ _=>rfl⟩⟩
theorem qM:Par st (fun O _=>(none:Option O)):=⟨fun _ _ _ e=>by simp at e⟩
theorem JD{c:Bool}{f g:∀(O:Type),(SV→St→Option O)→Option O}(hf:c=true→Par st f)(hg:c=false→Par st g):Par st (fun O k=>bif c then f O k else g O k):=by
 cases c with
 | true=>exact hf rfl
 | false=>exact hg rfl
theorem jA{c:Bool}{f:∀(O:Type),(SV→St→Option O)→Option O}(hf:c=true→Par st f):Par st (fun O k=>bif c then f O k else none):=JD hf fun _=>qM
theorem ql6{n:Int}:∀(l:List T) (i:Nat),Par st (fun _ k=>qnx l i n fun c=>k (.t c) st)
 | [],_=>qM
 | c::l,i=>by
  refine JD (fun _=>?_) (fun _=>ql6 l (i+1))
  cases c.isAgg with
  | true=>exact qM
  | false=>exact qC _
variable {E:Env}
theorem qtE{v:SV}{x:T}{st':St}(h:qdk false st v=some (x,st')):st'=st:=by
 cases v <;> simp[qdk]at h;exact h.2.symm
theorem qeT{l:List SV}{x:List T}{st':St}(h:Zz false st l=some (x,st')):st'=st:=by
 simp only[Zz,zo]at h;replace h:=qf h;obtain⟨r,_,h⟩:=h
 simp at h;exact h.2.symm
theorem ql7{g:Bool}{w:Nat}:∀ {parts:List (Nat×Operand)} {st:St} {i:Nat} {r:List T} {st':St},qeg E false g w st i parts=some (r,st')→st'=st
 | [],st,i,r,st',h=>by simp[qeg]at h;exact h.2.symm
 | (j,x)::parts,st,i,r,st',h=>by
  simp only[qeg]at h;generalize Nat.beq i j=b at h
  cases b with
  | false=>simp at h
  | true=>
   simp only[zg]at h;replace h:=qf h;obtain⟨v,_,h⟩:=h
   replace h:=qf h;obtain⟨c,hc,h⟩:=h
   have hc':=qtE (x:=c.1) (st':=c.2) (by rw[hc])
   generalize (Nat.beq c.1.cells.length w&&(bif g then c.1.isAgg else !c.1.isAgg))=b at h
   cases b with
   | false=>simp at h
   | true=>
    simp only[zg]at h;replace h:=qf h;obtain⟨q,hq,h⟩:=h
    simp only[za,Km]at h;rw[hc']at hq;have:=ql7 (st':=q.2) (r:=q.1) (by rw[hq])
    rw[← h.2];exact this
theorem qhL{r:List SV}:Par st (fun _ k=>qbv r fun v=>k v st):=by
 unfold qbv;refine jA fun _=>?_
 split
 · exact qC _
 · exact qC _
theorem qvm{t:Nat}{x:T}{off:Nat}{g:Bool}{w:Nat}{f:T→∀(O:Type),(SV→St→Option O)→Option O}(h:∀y,Par st (f y)):Par st (fun O k=>ldE E t x off g w fun y=>f y O k):=by
 have e:(fun(O:Type) (k:SV→St→Option O)=>ldE E t x off g w fun y=>f y O k)=fun O k=>(ldE E t x off g w some).bind fun y=>f y O k:=by
  funext O k
  exact qoW E t x off g w _
 rw[e];exact qm fun y _=>h y
theorem qwD{a:SV}{t:Nat}:Par st (fun _ k=>ldO E false st a t k):=by
 unfold ldO;refine qm fun p _=>?_
 split
 · exact qvm fun y=>qC _
 · split
   · simp only[qdt]
     exact JD (fun _=>qm fun r _=>qhL) fun _=>qm fun y _=>qC _
   · exact qM
 · split
   · exact qm fun x _=>qvm fun y=>qC _
   · exact qM
 · exact qM
theorem qpX{f:Nat}{vs:List SV}:Par st (fun _ k=>qiC E false st f vs k):=by
 unfold qiC;simp only[qnu,qan,zo];split
 · unfold qsX
   split
   · exact qm fun x _=>qm fun y _=>qm fun z _=>jA fun _=>qC _
   · exact qM
 split
 · split
   · refine JD (fun _=>qM) fun _=>?_
     refine qm fun p hp=>qm fun r _=>?_
     have:=qeT (x:=p.1) (st':=p.2) (by rw[hp])
     rw[this];exact qC _
   · refine qm fun p hp=>qm fun r _=>?_
     have:=qeT (x:=p.1) (st':=p.2) (by rw[hp])
     rw[this];exact qC _
 · split
   · exact JD (fun _=>qM) fun _=>qm fun x _=>qm fun y _=>jA fun _=>qC _
   · exact qm fun x _=>qm fun r _=>jA fun _=>qC _
 · split
   · refine JD (fun _=>qM) fun _=>qm fun p hp=>qm fun r _=>?_
     have:=qeT (x:=p.1) (st':=p.2) (by rw[hp])
     rw[this];exact qC _
   · exact qM
theorem qtF{op:BinOp}{t u:Nat}{x y:SV}:Par st (fun _ k=>qoU E op t u x y fun v=>k v st):=by
 unfold qoU;split
 · refine JD (fun _=>?_) fun _=>qm fun p _=>qm fun q _=>JD (fun _=>JD (fun _=>qM) fun _=>qC _) fun _=>qm fun s _=>qC _
   split
   · exact qm fun p _=>qm fun q _=>jA fun _=>qm fun s _=>qC _
   · exact qM
 · refine qm fun p _=>qm fun q _=>?_
   split
   · exact qC _
   · exact qC _
   · exact qM
 · refine qm fun p _=>qm fun q _=>?_
   split
   · exact qC _
   · exact qC _
   · exact jA fun _=>qC _
   · exact qM
 · refine qm fun p _=>qm fun q _=>qm fun a _=>qm fun b _=>qm fun c _=>?_
   split
   · exact qC _
   · exact qC _
   · exact qM
 · exact qM
theorem ql8{v:SV}:Par st (fun _ k=>qoZ E false st v k):=by
 unfold qoZ;split
 · split
   · exact qC _
   · exact qC _
 · exact qC _
theorem qjc(o:Oper):Par st (fun _ k=>Zf E false st o k):=by
 unfold Zf;cases o.op
 case move x=>
  simp only[qcx];split
  · split
    · split
      · exact qC _
      · exact qC _
    · exact qC _
  · exact qm fun v _=>ql8
 case assign x=>
  simp only[qcx];split
  · split
    · split
      · exact qC _
      · exact qC _
    · exact qC _
  · exact qm fun v _=>ql8
 case pick c a b=>exact qm fun v _=>qm fun t _=>JD (fun _=>qm fun v _=>qC _) fun _=>qm fun v _=>qC _
 case build t parts=>
  simp only[qdu];split
  · exact qm fun z _=>qm fun r _=>qhL
  · refine qm fun z _=>qm fun _ _=>?_
    simp only[Bool.false_and,zo];exact qm fun r _=>qhL
 case buildSlice t n parts=>
  refine jA fun _=>qm fun p _=>qm fun q _=>qm fun _ _=>jA fun _=>?_
  simp only[qiB];refine qm fun r hr=>?_
  have:=ql7 (r:=r.1) (st':=r.2) (by rw[hr])
  simp only[zo,this];exact qC _
 case load t a=>exact qm fun v _=>qwD
 case makeSlice t l c=>
  refine qm fun x _=>qm fun y _=>qm fun p _=>qm fun a _=>qm fun b _=>jA fun _=>qm fun z _=>jA fun _=>?_
  split
  · exact qC _
  · exact qm fun z0 _=>jA fun _=>qC _
 case nilCheck x=>
  refine qm fun v _=>?_
  unfold qwd;split
  · exact qC _
  · exact qC _
  · exact qC _
  · exact qM
 case binOp op t x y u=>exact qm fun a _=>qm fun b _=>qtF
 case unOp op t x=>
  refine qm fun a _=>?_
  unfold unO;split
  · exact qm fun b _=>qC _
  · split
    · exact qC _
    · exact qM
  · exact qM
 case convert s d x=>
  simp only[qlK];split
  · refine qm fun a _=>?_
    split
    · exact qm fun b _=>qC _
    · refine qm fun p _=>?_
      split
      · refine jA fun _=>?_
        simp only[YQ];exact qm fun y _=>qm fun l _=>qm fun m _=>jA fun _=>qC _
      · exact qM
  · refine qm fun a _=>?_
    split
    · exact qm fun n _=>qC _
    · exact qM
 case makeFunc fn a b=>
  simp only[qdv];split
  · exact qm fun x _=>qm fun y _=>qC _
  · exact qM
 case slice t x lo hi mx=>
  simp only[qdw];split
  · refine qm fun a _=>?_
    unfold slO;split
    · exact qm fun s _=>qm fun a _=>qm fun b _=>jA fun _=>qC _
    · refine qm fun p _=>?_
      split
      · split
        · exact qm fun a _=>qm fun b _=>jA fun _=>qC _
        · exact qM
      · exact qm fun a _=>qm fun b _=>jA fun _=>qC _
      · exact qm fun l _=>qm fun a _=>qm fun b _=>jA fun _=>qC _
  · unfold qwe
    split
    · refine qm fun a _=>qm fun hv _=>qm fun mv _=>qm fun j _=>qm fun i _=>qm fun p _=>?_
      split
      · refine JD (fun _=>jA fun _=>qC _) fun _=>?_
        split
        · exact jA fun _=>qC _
        · exact qM
      · exact qM
    · exact qM
 case fieldAddr s x f=>
  refine qm fun a _=>qm fun q _=>?_
  unfold qlF;split
  · exact qC _
  · exact qC _
  · exact qC _
  · exact qM
 case field s x f=>
  refine qm fun a _=>qm fun q _=>?_
  unfold fdO;split
  · exact JD (fun _=>jA fun _=>qm fun r _=>qhL) fun _=>qm fun y _=>qm fun y' _=>qC _
  · exact qm fun l _=>qm fun y _=>qC _
 case indexAddr t x i=>
  refine qm fun a _=>qm fun j _=>?_
  unfold ixO;refine qm fun p _=>qm fun j _=>?_
  split
  · split
    · exact jA fun _=>qC _
    · exact jA fun _=>qC _
    · exact qM
  · exact jA fun _=>qm fun z _=>qC _
  · exact qm fun l _=>qm fun z _=>qC _
 case index t x i=>
  simp only[evI];split
  · exact qm fun a _=>qm fun j _=>qm fun s _=>qm fun n _=>jA fun _=>qm fun c _=>qC _
  · refine qm fun a _=>qm fun j _=>qm fun s _=>qm fun n _=>jA fun _=>?_
    exact ql6 _ _
  · exact qM
 case extract x i=>
  refine qm fun a _=>?_
  unfold exO;split
  · exact qm fun v _=>qC _
  · exact qM
 case call c=>
  simp only[qhp];split
  · exact qm fun g _=>qm fun q _=>qm fun vs _=>qpX
  · unfold qwf
    split
    · split
      · refine qm fun v _=>qm fun t _=>?_
        unfold qsW;split
        · exact qm fun s _=>qC _
        · split
          · split
            · exact qC _
            · exact jA fun _=>qC _
            · exact qm fun l _=>qC _
          · exact qM
      · exact qM
      · exact qM
    · split
      · exact qM
      · refine qm fun v _=>qm fun u _=>qm fun t _=>?_
        split
        · exact qm fun p _=>qm fun q _=>qC _
        · exact qM
      · refine qm fun v _=>qm fun u _=>qm fun t _=>?_
        split
        · exact qm fun p _=>qm fun q _=>qC _
        · exact qM
      · exact qM
    · exact qM
  · exact qM
 all_goals exact qM
end
end Su
end
