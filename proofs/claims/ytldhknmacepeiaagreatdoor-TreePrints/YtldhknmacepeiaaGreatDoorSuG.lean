/-
  An evaluator, proved sound. No condition.
-/
import Derived.Test.YtldhknmacepeiaaGreatDoorSuE
set_option linter.unusedVariables false
set_option linter.unusedSimpArgs false
section
namespace Su
open Go Fly
structure SR (V:qc) (I:List IE) (st:St) (L:Lo) (G:Own):Prop where
 mem:GR V I st.H G
 slot:∀(d:Nat) (sv:SV),st.look d=some sv→sv≠.bad→∃v,lk L d=some v∧RepS V I sv v
def jQ(V:qc)(G:Own):Prop:=(∀p∈G,V p.1=none)∧(G.map (·.1)).Nodup
structure Gh (V:qc) (G:Own) (V':qc) (G':Own):Prop where
 sub:Sub V V'
 holdsF:∀(F:Own) (X:Cx) (w:World),Holds X V (G++F) w→Holds X V' (G'++F) w
 free:jQ V' G'
 freeF:∀F,jQ V (G++F)→jQ V' (G'++F)
 less:∀p∈G',p∈G
theorem Gh.holds{V V':qc}{G G':Own}(h:Gh V G V' G')(X:Cx)(w:World)(hw:Holds X V G w):Holds X V' G' w:=by
 have:=h.holdsF [] X w (by simpa using hw)
 simpa using this
theorem Gh.refl{V:qc}{G:Own}(h:jQ V G):Gh V G V G:=⟨Sub.refl _,fun _ _ _ h=>h,h,fun _ h=>h,fun _ h=>h⟩
theorem Gh.trans{V V' V'':qc}{G G' G'':Own}(h:Gh V G V' G')(k:Gh V' G' V'' G''):Gh V G V'' G'':=⟨h.sub.trans k.sub,fun F X w hw=>k.holdsF F X w (h.holdsF F X w hw),k.free,fun F hf=>k.freeF F (h.freeF F hf),fun p hp=>h.less p (k.less p hp)⟩
theorem jQ.perm{V:qc}{G G':Own}(h:jQ V G)(hp:G.Perm G'):jQ V G':=⟨fun p hm=>h.1 p (hp.mem_iff.2 hm),(hp.map _).nodup_iff.1 h.2⟩
theorem jQ.uniq{V:qc}{G:Own}(h:jQ V G){b:Nat}{o o':Obj}(h1:(b,o)∈G)(h2:(b,o')∈G):o=o':=by
 have hn:=h.2;clear h;induction G with
 | nil=>cases h1
 | cons p G ih=>
  have hn':=Vn.1 hn;rcases zK.1 h1 with e1|h1
  · rcases zK.1 h2 with e2|h2
    · rw[← e1]at e2;simp only[Km,true_and]at e2;exact e2.symm
    · exact absurd (KJ.2 ⟨_,h2,by rw[← e1]⟩) hn'.1
  · rcases zK.1 h2 with e2|h2
    · exact absurd (KJ.2 ⟨_,h1,by rw[← e2]⟩) hn'.1
    · exact ih h1 h2 hn'.2
theorem jQ.freeze{V:qc}{G:Own}{b:Nat}{o:Obj}(h:jQ V ((b,o)::G)):jQ (addV V b o) G:=by
 have hnd:=Vn.1 h.2;refine⟨fun p hm=>?_,hnd.2⟩
 unfold addV;rw[zQ (fun e=>hnd.1 (KJ.2 ⟨p,hm,e⟩))];exact h.1 p (zE _ hm)
theorem Gh.freeze{V:qc}{G G1:Own}{b:Nat}{o:Obj}(hf:jQ V G)(hq:G.Perm ((b,o)::G1)):Gh V G (addV V b o) G1:=by
 have hf':=hf.perm hq;have hVb:V b=none:=hf'.1 _ (zM ..)
 refine⟨Sub.addV hVb,fun F X w hw=>?_,hf'.freeze,fun F hF=>?_,fun p hm=>hq.mem_iff.2 (zE _ hm)⟩
 · exact(hw.perm (hq.append_right F)).freeze
 · exact(hF.perm (hq.append_right F)).freeze
theorem qbI{P:Program}{n:Nat}{X:Cx}{L:Lo}{V:qc}{G:Own}{o:Oper}{Q:Value→qc→Own→Prop}(h:jQ V G→Opr P n X L V G o Q):Opr P n X L V G o Q :=
 fun a ha w hw=>h ⟨fun p hp=>(hw.free p hp).2,hw.nodup⟩ a ha w hw
theorem qwo{P:Program}{n:Nat}{X:Cx}{L:Lo}{V V':qc}{G G':Own}{o:Oper}{Q:Value→qc→Own→Prop}(hg:Gh V G V' G')(h:Opr P n X L V' G' o Q):Opr P n X L V G o Q :=
 fun a ha w hw=>h a ha w (hg.holds X w hw)
theorem qlV(g:SV→SV)(d:Nat):∀K:List (Nat×SV),lkG (mpK g K) d=(lkG K d).map (SV.mp g)
 | []=>rfl
 | (k,v)::K=>by
  simp only[mpK,yM];cases Nat.beq k d with
  | true=>rfl
  | false=>exact qlV g d K
theorem qtg(g:SV→SV)(K Tm:List (Nat×SV))(H H':List OB)(d:Nat):(St.mk (mpK g K) (mpK g Tm) H').look d=((St.mk K Tm H).look d).map (SV.mp g):=by
 unfold St.look;simp only[qlV];cases lkG K d <;> simp
theorem J3{V V':qc}{I I':List IE}{g:SV→SV}{st:St}{L:Lo}{H:List OB}(hl:qV V V' I I' g)(hb:g .bad = .bad)(h:∀(d:Nat) (sv:SV),st.look d=some sv→sv≠.bad→∃v,lk L d=some v∧RepS V I sv v) :
 ∀(d:Nat) (sv:SV),(St.mk (mpK g st.K) (mpK g st.Tm) H).look d=some sv→sv≠.bad→∃v,lk L d=some v∧RepS V' I' sv v:=by
 intro d sv hd hnb;have:=qtg g st.K st.Tm st.H H d
 have hd':(Option.map (SV.mp g) (st.look d))=some sv:=this.symm.trans hd
 cases hq:st.look d with
 | none=>rw[hq]at hd';simp at hd'
 | some s0=>
  rw[hq]at hd';simp at hd';subst hd';obtain⟨v,hv,hr⟩:=h d s0 hq (fun e=>by subst e;exact hnb (by simp only[SV.mp];exact hb))
  exact⟨v,hv,hr.map hl⟩
theorem QU{α:Type}:∀ {l:List α} {n:Nat} {x:α},l[n]?=some x→l.set n x=l
 | [],n,x,h=>by simp at h
 | y::l,0,x,h=>by simp at h;subst h;rfl
 | y::l,n+1,x,h=>by simp at h;simp[QU h]
theorem qey{V:qc}{l:List T}{cur:Array Value}{w i:Nat}{z:T}(k6:RepA V (l.flatMap T.cells) (cur.toList.take (l.length*w)))(k8:∀x∈l,x.cells.length=w)(hi:l[i]?=some z) :
 RepA V z.cells (((cur.toList.take (l.length*w)).drop (i*w)).take w)∧∀(j:Nat) (u:Value),(((cur.toList.take (l.length*w)).drop (i*w)).take w)[j]?=some u→cur[i*w+j]?=some u:=by
 have hlt:i<l.length:=(zu.1 hi).1
 have hw:=k8 z (zO hi)
 refine⟨?_,fun j u hj=>?_⟩
 · have h1:=(k6.drop (i*w)).take w
   rw[← yY i k8]at h1;have hd:l.drop i=z::l.drop (i+1):=by
    rw[Kj hlt];congr 1;exact(zu.1 hi).2
   rw[hd,Kx,List.take_append_of_le_length (by omega),zP (by omega)]at h1;exact h1
 · rw[zZ]at hj
   split at hj
   · rw[KZ,zZ]at hj
     split at hj
     · simpa using hj
     · cases hj
   · cases hj
theorem ZU{l r:List T}{o len:Nat}(h:sub l o len=some r):r=(l.drop o).take len∧o+len≤l.length:=by
 unfold sub at h;cases hb:Nat.ble (o+len) l.length with
 | false=>rw[hb]at h;simp at h
 | true=>rw[hb]at h;simp at h;exact⟨h.symm,zx hb⟩
theorem qlW{V:qc}{l r:List T}{cur:Array Value}{b ct e k o len cap:Nat}{fr:Nat×Nat}(hV:V b=some (.cells cur e fr))(k4:ct≤maxLen)(k5:l.length≤ct)
 (k6:RepA V (l.flatMap T.cells) (cur.toList.take (l.length*k))) (k7:∀x∈l.flatMap T.cells,x.isAgg=false) (k8:∀x∈l,x.cells.length=k) (h:sub l o len=some r) (hcap:len≤cap∧o+cap≤ct) :
 Rep V (.sl k r) (.slice (some ⟨b,o*k,none⟩) len cap):=by
 obtain⟨hr,hle⟩:=ZU h;have hl:r.length=len:=by subst hr;simp;omega
 have hmem:∀x∈r,x∈l:=fun x hx=>by subst hr;exact KY (V8 hx)
 have:=Rep.sl (V:=V) (k:=k) (l:=r) (vs:=((cur.toList.take (l.length*k)).drop (o*k)).take (len*k)) (a:=some ⟨b,o*k,none⟩) (cap:=cap)
  (by subst hr;rw[JS len (fun x hx=>k8 x (KY hx)),yY o k8];exact(k6.drop _).take _)
  (fun x hx=>by
    obtain⟨y,hy,hx⟩:=KU.1 hx;exact k7 x (KU.2 ⟨y,hmem y hy,hx⟩))
  (fun x hx=>k8 x (hmem x hx)) (by omega) (by omega)
  (.inr ⟨b,o*k,rfl,fun j c hj=>⟨cur,e,fr,hV,by
    rw[zZ]at hj;split at hj
    · rw[KZ,zZ]at hj
      split at hj
      · simpa using hj
      · cases hj
    · cases hj⟩⟩)
 rw[hl]at this;exact this
theorem qnE{V V':qc}{I:List IE}{n b ct e k:Nat}{cur:Array Value}{l:List T}(hs:Sub V V')(hI:I[n]?=some (.row b k ct))(hV:V' b=some (.cells cur e (0,0)))(k4:ct≤maxLen)(k5:l.length≤ct)
 (k6:RepA V (l.flatMap T.cells) (cur.toList.take (l.length*k))) (k7:∀x∈l.flatMap T.cells,x.isAgg=false) (k8:∀x∈l,x.cells.length=k):qV V V' I I (jO n k l):=by
 intro x v hx h1 h2 h3';cases hx with
 | t h=>exact .t (h.mono hs)
 | un=>exact .un
 | bad=>exact .bad
 | @ref m off b' h=>
  simp only[jO];cases hb:Nat.beq m n with
  | true=>exact .bad
  | false=>exact .ref h
 | @osl m off len b' k' ct' cap h h3 h4 h5=>
  simp only[jO];cases hb:Nat.beq m n with
  | true=>
   have:=zd hb;subst this
   rw[hI]at h;simp only[za,IE.row.injEq]at h;obtain⟨rfl,rfl,rfl⟩:=h;simp only[zg];cases hq:sub l off len with
   | none=>exact .bad
   | some r=>exact .t (qlW hV k4 k5 (k6.mono hs) k7 k8 hq h5)
  | false=>exact .osl h h3 h4 h5
 | @osl0 m off cap a h0 h=>
  simp only[jO];cases hb:Nat.beq m n with
  | true=>
   simp only[zg];cases hq:sub l off 0 with
   | none=>exact .bad
   | some r=>
    have:=(ZU hq).1
    simp at this;subst this;exact .t (.sl (l:=[]) (vs:=[]) .nil (by simp) (by simp) (by simp) h (.inl rfl))
  | false=>exact .osl0 h0 h
 | @oslv m h=>
  simp only[jO];cases hb:Nat.beq m n with
  | true=>have:=zd hb;subst this;rw[hI]at h;cases h
  | false=>exact .oslv h
 | @oslp m len b' h h3=>
  simp only[jO];cases hb:Nat.beq m n with
  | true=>have:=zd hb;subst this;rw[hI]at h;cases h
  | false=>exact .oslp h h3
 | @ep m i off b' k' ct' h=>
  simp only[jO];cases hb:Nat.beq m n with
  | true=>
   have:=zd hb;subst this
   rw[hI]at h;simp only[za,IE.row.injEq]at h;obtain⟨rfl,rfl,rfl⟩:=h;simp only[zg];cases hq:l[i]? with
   | none=>exact .bad
   | some z=>
    obtain⟨hz,hc⟩:=qey k6 k8 hq;exact .t (.pt (hz.mono hs) (fun y hy=>k7 y (KU.2 ⟨z,zO hq,hy⟩)) fun j c hj=>⟨cur,e,_,hV,hc j c hj⟩)
  | false=>exact .ep h
 | clo h h'=>exact absurd rfl (h1 _ _ _)
 | tup h=>exact absurd rfl (h2 _)
 | st h=>exact absurd rfl (h3' _)
theorem qkK{V:qc}{I:List IE}{n k:Nat}(hI:I[n]?=some .vrow):qV V V I I (jO n k []):=by
 intro x v hx h1 h2 h3';cases hx with
 | t h=>exact .t h
 | un=>exact .un
 | bad=>exact .bad
 | @ref m off b' h=>
  simp only[jO];cases hb:Nat.beq m n with
  | true=>exact .bad
  | false=>exact .ref h
 | @osl m off len b' k' ct' cap h h3 h4 h5=>
  simp only[jO];cases hb:Nat.beq m n with
  | true=>have:=zd hb;subst this;rw[hI]at h;cases h
  | false=>exact .osl h h3 h4 h5
 | @osl0 m off cap a h0 h=>
  simp only[jO];cases hb:Nat.beq m n with
  | true=>
   simp only[zg];cases hq:sub [] off 0 with
   | none=>exact .bad
   | some r=>
    have:=(ZU hq).1
    simp at this;subst this;exact .t (.sl (l:=[]) (vs:=[]) .nil (by simp) (by simp) (by simp) h (.inl rfl))
  | false=>exact .osl0 h0 h
 | @oslv m h=>
  simp only[jO];cases hb:Nat.beq m n with
  | true=>exact .t (.sl (l:=[]) (vs:=[]) .nil (by simp) (by simp) (by simp) (by simp[maxLen]) (.inl rfl))
  | false=>exact .oslv h
 | @oslp m len b' h h3=>
  simp only[jO];cases hb:Nat.beq m n with
  | true=>have:=zd hb;subst this;rw[hI]at h;cases h
  | false=>exact .oslp h h3
 | @ep m i off b' k' ct' h=>
  simp only[jO];cases hb:Nat.beq m n with
  | true=>have:=zd hb;subst this;rw[hI]at h;cases h
  | false=>exact .ep h
 | clo h h'=>exact absurd rfl (h1 _ _ _)
 | tup h=>exact absurd rfl (h2 _)
 | st h=>exact absurd rfl (h3' _)
theorem qf5(n k:Nat)(l:List T)(x:SV)(h:jG x=true):jG (jO n k l x)=true:=by
 cases x <;> simp only[jO] <;> try exact h
 · cases Nat.beq _ _ <;> rfl
 · cases Nat.beq _ _ with
   | false=>rfl
   | true=>simp only[zg];split <;> rfl
 · cases Nat.beq _ _ with
   | false=>rfl
   | true=>simp only[zg];split <;> rfl
theorem qlX{V:qc}{I:List IE}{st:St}{L:Lo}{G:Own}{n e k:Nat}{fx:Bool}{l:List T}(h:SR V I st L G)(hf:jQ V G)(hn:st.H[n]?=some (.row fx e k l)) :
 ∃V' G',Gh V G V' G'∧SR V' I (st.frow n k l) L G'∧qV V V' I I (jO n k l):=by
 obtain⟨G0,hg,hp⟩:=h.mem;obtain⟨ie,g,G1,h1,h2,h3,h4⟩:=hg.focus hn;obtain⟨G2,k1,k2⟩:=h4 .dead ie [] .dead
 rw[QU h1]at k1;cases h2 with
 | @row fx e k b ct l cur a1 a2 a3 a4 a5 a6=>
  have hq:G.Perm ((b,.cells cur e (0,0))::G1):=hp.trans h3
  have hVb:V b=none:=(hf.perm hq).1 _ (zM ..)
  have hleaf:=qnE (Sub.addV (o:=.cells cur e (0,0)) hVb) h1 (addV_same _ _ _) a2 a3 a4 a5 a6
  exact⟨addV V b (.cells cur e (0,0)),G1,Gh.freeze hf hq,⟨⟨G2,k1.map (Sub.addV hVb) hleaf (qf5 _ _ _),k2.symm⟩,J3 hleaf rfl h.slot⟩,hleaf⟩
 | vrow=>
  have hleaf:=qkK (V:=V) (k:=k) h1
  exact⟨V,G,Gh.refl hf,⟨⟨G2,k1.map (Sub.refl _) hleaf (qf5 _ _ _),(hp.trans h3).trans k2.symm⟩,J3 hleaf rfl h.slot⟩,hleaf⟩
theorem qkL{V V':qc}{I:List IE}{n b e:Nat}{l:List T}{vs:List Value}(hs:Sub V V')(hI:I[n]?=some (.blk b))(hV:V' b=some (.cells vs.toArray e (0,0)))(hl:RepA V' l vs)(hc:∀x∈l,x.isAgg=false):qV V V' I I (Ja n l):=by
 intro x v hx h1 h2 h3';cases hx with
 | t h=>exact .t (h.mono hs)
 | un=>exact .un
 | bad=>exact .bad
 | @ref m off b' h=>
  simp only[Ja];cases hb:Nat.beq m n with
  | true=>
   have:=zd hb;subst this
   rw[hI]at h;simp only[za,IE.blk.injEq]at h;subst h;have:=Rep.pt (V:=V') (x:=.agg l) (off:=off) (b:=b) (o:=0) (vs:=vs) hl hc (fun j c hj=>⟨vs.toArray,e,_,hV,by simpa using hj⟩)
   rw[zt]at this;exact .t this
  | false=>exact .ref h
 | @osl m off len b' k' ct' cap h h3 h4 h5=>
  simp only[Ja];cases hb:Nat.beq m n with
  | true=>exact .bad
  | false=>exact .osl h h3 h4 h5
 | @osl0 m off cap a h0 h=>
  simp only[Ja];cases hb:Nat.beq m n with
  | true=>exact .bad
  | false=>exact .osl0 h0 h
 | @oslv m h=>
  simp only[Ja];cases hb:Nat.beq m n with
  | true=>exact .bad
  | false=>exact .oslv h
 | @oslp m len b' h h3=>
  simp only[Ja];cases hb:Nat.beq m n with
  | true=>exact .bad
  | false=>exact .oslp h h3
 | @ep m i off b' k' ct' h=>
  simp only[Ja];cases hb:Nat.beq m n with
  | true=>exact .bad
  | false=>exact .ep h
 | clo h h'=>exact absurd rfl (h1 _ _ _)
 | tup h=>exact absurd rfl (h2 _)
 | st h=>exact absurd rfl (h3' _)
theorem qkM(n:Nat)(l:List T)(x:SV)(h:jG x=true):jG (Ja n l x)=true:=by
 cases x <;> simp only[Ja] <;> try exact h
 all_goals (cases Nat.beq _ _ <;> rfl)
theorem qpi{V:qc}{I:List IE}{st:St}{L:Lo}{G:Own}{n:Nat}{l0:List SV}{l:List T}(h:SR V I st L G)(hf:jQ V G)(hn:st.H[n]?=some (.cells l0))
 (hl:∀(b:Nat) (vs:List Value) (e:TypeId),I[n]?=some (.blk b)→(b,Obj.cells vs.toArray e (0,0))∈G→RepA V l vs∧∀x∈l,x.isAgg=false) :
 ∃V' G',Gh V G V' G'∧SR V' I (st.fcell n l) L G'∧qV V V' I I (Ja n l):=by
 obtain⟨G0,hg,hp⟩:=h.mem;obtain⟨ie,g,G1,h1,h2,h3,h4⟩:=hg.focus hn;obtain⟨G2,k1,k2⟩:=h4 .dead ie [] .dead
 rw[QU h1]at k1;cases h2 with
 | @cells l0 vs b e hr hc=>
  have hq:G.Perm ((b,.cells vs.toArray e (0,0))::G1):=hp.trans h3
  obtain⟨ha,hag⟩:=hl b vs e h1 (hq.mem_iff.2 (zM ..))
  have hVb:V b=none:=(hf.perm hq).1 _ (zM ..)
  have hs:=Sub.addV (o:=.cells vs.toArray e (0,0)) hVb
  have hleaf:=qkL hs h1 (addV_same _ _ _) (ha.mono hs) hag
  exact⟨addV V b (.cells vs.toArray e (0,0)),G1,Gh.freeze hf hq,⟨⟨G2,k1.map hs hleaf (qkM _ _),k2.symm⟩,J3 hleaf rfl h.slot⟩,hleaf⟩
def Fx(H H':List OB):Prop:=∀(m e k:Nat) (l:List T),H[m]?=some (.row true e k l)→H'[m]?=some (.row true e k l)
theorem Fx.refl(H:List OB):Fx H H:=fun _ _ _ _ h=>h
theorem Fx.trans{H H' H'':List OB}(h:Fx H H')(k:Fx H' H''):Fx H H'':=fun m e w l x=>k m e w l (h m e w l x)
theorem Fx.dead{H:List OB}{g:SV→SV}{n:Nat}{ob:OB}(hn:H[n]?=some ob)(hb:∀e k l,ob≠.row true e k l):Fx H ((H.set n .dead).map (OB.mp g)):=by
 intro m e k l h;have hne:n≠m:=fun c=>by subst c;rw[hn]at h;simp only[za]at h;exact hb _ _ _ h
 rw[Ku,Kh hne,h];rfl
def qnF(V:qc)(I:List IE)(L:Lo)(G:Own)(st st':St)(R:qc→Prop):Prop :=
 SR V I st L G→jQ V G→∃V' G',Gh V G V' G'∧SR V' I st' L G'∧R V'∧Fx st.H st'.H
theorem qhz:∀ {l:List T},qfA l=true→∀x∈l,x.isAgg=false
 | [],_,x,hx=>by simp at hx
 | y::l,h,x,hx=>by
  have h:(bif y.isAgg then false else qfA l)=true:=h
  cases hy:y.isAgg with
  | true=>rw[hy]at h;simp at h
  | false=>
   rw[hy]at h;rcases zK.1 hx with rfl|hx
   · exact hy
   · exact qhz h x hx
theorem qpj{d:Nat}{st st':St}{sv:SV}{x:T}(h:toT d st sv=some (x,st'))(hc:jG sv=true):x.isAgg=false:=by
 cases sv with
 | t y=>
  have:x=y:=by cases d <;> simp[toT]at h <;> exact h.1.symm
  subst this;simpa[jG]using hc
 | un=>cases d <;> simp[toT]at h
 | bad=>cases d <;> simp[toT]at h
 | tup l=>simp[jG]at hc
 | st l=>simp[jG]at hc
 | osl n o len=>
  have:∃k r,x = .sl k r:=by
   cases d <;> simp only[toT]at h <;> (split at h) <;> first|(exact absurd h (by simp))|(replace h:=qf h;obtain⟨r,_,h⟩:=h;simp at h;exact⟨_,_,h.1.symm⟩)
  obtain⟨k,r,rfl⟩:=this;rfl
 | ep n i o=>
  have:∃k r,x = .pt k r:=by
   cases d <;> simp only[toT]at h <;> (split at h) <;> first|(exact absurd h (by simp))|(replace h:=qf h;obtain⟨r,_,h⟩:=h;simp at h;exact⟨_,_,h.1.symm⟩)
  obtain⟨k,r,rfl⟩:=this;rfl
 | ref n o=>
  cases d with
  | zero=>simp[toT]at h
  | succ d=>
   simp only[toT]at h;split at h
   · replace h:=qf h;obtain⟨r,_,h⟩:=h
     split at h
     · simp only[za,Km]at h;rw[← h.1];rfl
     · simp at h
   · simp at h
 | clo f a b=>
  cases d with
  | zero=>simp[toT]at h
  | succ d=>
   simp only[toT]at h;replace h:=qf h;obtain⟨r,_,h⟩:=h
   replace h:=qf h;obtain⟨q,_,h⟩:=h
   simp at h;rw[← h.1];rfl
theorem qlY{I:List IE}{L:Lo}{d n o len:Nat}{st st':St}{x:T}(h:toT d st (.osl n o len)=some (x,st')){V:qc}{G:Own}{v:Value}(hr:RepS V I (.osl n o len) v):qnF V I L G st st' fun V'=>Rep V' x v:=by
 intro hS hF;have:∃e k l r,st.H[n]?=some (.row false e k l)∧sub l o len=some r∧x = .sl k r∧st'=st.frow n k l:=by
  cases d <;> simp only[toT]at h <;> (split at h) <;> first
   | (exact absurd h (by simp))
   | (rename_i hn;replace h:=qf h;obtain⟨r,hq,h⟩:=h;simp at h;exact⟨_,_,_,r,hn,hq,h.1.symm,h.2.symm⟩)
 obtain⟨e,k,l,r,hn,hq,rfl,rfl⟩:=this;obtain⟨V',G',h1,h2,h3⟩:=qlX hS hF hn;refine⟨V',G',h1,h2,?_,Fx.dead hn (by simp)⟩
 have:=h3 _ _ hr (by simp) (by simp) (by simp)
 simp only[jO,Vk,zg,hq]at this;cases this with|t h=>exact h
theorem qpk{I:List IE}{L:Lo}{d n i o:Nat}{st st':St}{x:T}(h:toT d st (.ep n i o)=some (x,st')){V:qc}{G:Own}{v:Value}(hr:RepS V I (.ep n i o) v):qnF V I L G st st' fun V'=>Rep V' x v:=by
 intro hS hF;have:∃e k l r,st.H[n]?=some (.row false e k l)∧l[i]?=some r∧x = .pt r o∧st'=st.frow n k l:=by
  cases d <;> simp only[toT]at h <;> (split at h) <;> first
   | (exact absurd h (by simp))
   | (rename_i hn;replace h:=qf h;obtain⟨r,hq,h⟩:=h;simp at h;exact⟨_,_,_,r,hn,hq,h.1.symm,h.2.symm⟩)
 obtain⟨e,k,l,r,hn,hq,rfl,rfl⟩:=this;obtain⟨V',G',h1,h2,h3⟩:=qlX hS hF hn;refine⟨V',G',h1,h2,?_,Fx.dead hn (by simp)⟩
 have:=h3 _ _ hr (by simp) (by simp) (by simp)
 simp only[jO,Vk,zg,hq]at this;cases this with|t h=>exact h
theorem qf6:∀ {d:Nat} {l:List SV} {st st':St} {xs:List T},toTs d st l=some (xs,st')→(∀s∈l,jG s=true)→∀x∈xs,x.isAgg=false
 | d,[],st,st',xs,h,_=>by
  have:xs=[]:=by cases d <;> simp[toTs]at h <;> first|exact h.1.symm|exact h.1
  subst this;simp
 | 0,_::_,_,_,_,h,_=>by simp[toTs]at h
 | d+1,s::l,st,st',xs,h,hc=>by
  simp only[toTs]at h;replace h:=qf h;obtain⟨p,hp,h⟩:=h
  replace h:=qf h;obtain⟨q,hq,h⟩:=h
  simp only[za,Km]at h;obtain⟨rfl,rfl⟩:=h;intro x hx;rcases zK.1 hx with rfl|hx
  · exact qpj (st':=p.2) (by rw[hp]) (hc s (by simp))
  · exact qf6 (st':=q.2) (by rw[hq]) (fun z hz=>hc z (zE _ hz)) x hx
theorem QV{I:List IE}{L:Lo}:∀d:Nat,
 (∀(st st':St) (sv:SV) (x:T),toT d st sv=some (x,st')→∀(V:qc) (G:Own) (v:Value),RepS V I sv v→qnF V I L G st st' fun V'=>Rep V' x v) ∧
 (∀(st st':St) (l:List SV) (xs:List T),toTs d st l=some (xs,st')→∀(V:qc) (G:Own) (vs:List Value),RepSs V I l vs→qnF V I L G st st' fun V'=>RepA V' xs vs):=by
 have base:∀(d:Nat) (st st':St) (y x:T),toT d st (.t y)=some (x,st')→∀(V:qc) (G:Own) (v:Value),RepS V I (.t y) v→qnF V I L G st st' fun V'=>Rep V' x v:=by
  intro d st st' y x h V G v hr hS hF;have:x=y∧st=st':=by cases d <;> simp[toT]at h <;> exact⟨h.1.symm,h.2⟩
  obtain⟨rfl,rfl⟩:=this;cases hr with|t hr=>exact⟨V,G,Gh.refl hF,hS,hr,Fx.refl _⟩
 have bnil:∀(d:Nat) (st st':St) (xs:List T),toTs d st []=some (xs,st')→∀(V:qc) (G:Own) (vs:List Value),RepSs V I [] vs→qnF V I L G st st' fun V'=>RepA V' xs vs:=by
  intro d st st' xs h V G vs hr hS hF;have:xs=[]∧st=st':=by cases d <;> simp[toTs]at h <;> first|exact⟨h.1.symm,h.2⟩|exact⟨h.1,h.2⟩
  obtain⟨rfl,rfl⟩:=this;cases hr with|nil=>exact⟨V,G,Gh.refl hF,hS,.nil,Fx.refl _⟩
 intro d;induction d with
 | zero=>
  refine⟨fun st st' sv x h V G v hr=>?_,fun st st' l xs h V G vs hr=>?_⟩
  · cases sv with
    | t y=>exact base _ _ _ _ _ h V G v hr
    | osl n o len=>exact qlY h hr
    | ep n i o=>exact qpk h hr
    | _=>simp[toT]at h
  · cases l with
    | nil=>exact bnil _ _ _ _ h V G vs hr
    | cons y l=>simp[toTs]at h
 | succ d ih=>
  refine⟨fun st st' sv x h V G v hr=>?_,fun st st' l xs h V G vs hr=>?_⟩
  · cases sv with
    | t y=>exact base _ _ _ _ _ h V G v hr
    | osl n o len=>exact qlY h hr
    | ep n i o=>exact qpk h hr
    | un=>simp[toT]at h
    | bad=>simp[toT]at h
    | tup l=>simp[toT]at h
    | st l=>
     intro hS hF;simp only[toT]at h;replace h:=qf h;obtain⟨p,hp,h⟩:=h
     cases hn:qfA p.1 with
     | false=>rw[hn]at h;simp at h
     | true=>
      rw[hn]at h;simp only[zg,za,Km]at h;obtain⟨rfl,rfl⟩:=h;cases hr with|st ha=>
      obtain⟨V1,G1,g1,s1,r1,f1⟩:=ih.2 st p.2 l p.1 hp V G _ ha hS hF;exact⟨V1,G1,g1,s1,.agg r1 (qhz hn),f1⟩
    | clo f a b=>
     intro hS hF;simp only[toT]at h;replace h:=qf h;obtain⟨p,hp,h⟩:=h
     replace h:=qf h;obtain⟨q,hq,h⟩:=h
     simp only[za,Km]at h;obtain⟨rfl,rfl⟩:=h;cases hr with|clo ha hb=>
     obtain⟨V1,G1,g1,s1,r1,f1⟩:=ih.2 st p.2 a p.1 hp V G _ ha hS hF;obtain⟨V2,G2,g2,s2,r2,f2⟩:=ih.2 p.2 q.2 b q.1 hq V1 G1 _ (hb.mono g1.sub (Ile.refl _)) s1 g1.free
     exact⟨V2,G2,g1.trans g2,s2,.fn (r1.mono g2.sub) r2,f1.trans f2⟩
    | ref n o=>
     intro hS hF;simp only[toT]at h;split at h
     · rename_i l hn
       replace h:=qf h;obtain⟨p,hp,h⟩:=h
       split at h
       case h_2=>simp at h
       rename_i l1 hn1;simp only[za,Km]at h;obtain⟨rfl,rfl⟩:=h;obtain⟨b,vs,e,k1,k2,k3,k4⟩:=hS.mem.mr.cells hn;obtain⟨V1,G1,g1,s1,r1,f1⟩:=ih.2 st p.2 l p.1 hp V G _ k3 hS hF;have hx:∀x∈p.1,x.isAgg=false:=qf6 (st':=p.2) (by rw[hp]) k4
       obtain⟨V2,G2,g2,s2,r2⟩:=qpi (l:=p.1) s1 g1.free hn1 (fun b2 vs2 e2 h2 h3=>by
        rw[k1]at h2;simp only[za,IE.blk.injEq]at h2;subst h2;have:=hF.uniq k2.mem (g1.less _ h3)
        simp only[Obj.cells.injEq,and_true]at this;have hv:vs=vs2:=by have:=this.1;simpa using this
        subst hv;exact⟨r1,hx⟩)
       refine⟨V2,G2,g1.trans g2,s2,?_,f1.trans (Fx.dead hn1 (by simp))⟩
       have:=r2 _ _ (hr.mono g1.sub (Ile.refl _)) (by simp) (by simp) (by simp)
       simp only[Ja,Vk,zg]at this;cases this with|t h=>exact h
     · simp at h
  · cases l with
    | nil=>exact bnil _ _ _ _ h V G vs hr
    | cons y l=>
     intro hS hF;simp only[toTs]at h;replace h:=qf h;obtain⟨p,hp,h⟩:=h
     replace h:=qf h;obtain⟨q,hq,h⟩:=h
     simp only[za,Km]at h;obtain⟨rfl,rfl⟩:=h;cases hr with|cons ha hb=>
     obtain⟨V1,G1,g1,s1,r1,f1⟩:=ih.1 st p.2 y p.1 hp V G _ ha hS hF;obtain⟨V2,G2,g2,s2,r2,f2⟩:=ih.2 p.2 q.2 l q.1 hq V1 G1 _ (hb.mono g1.sub (Ile.refl _)) s1 g1.free
     exact⟨V2,G2,g1.trans g2,s2,.cons (r1.mono g2.sub) r2,f1.trans f2⟩
end Su
end
section
namespace Su
open Go Fly
theorem qcE{P:Program}{t ty e k:Nat}{g:Bool}(hu:P.underlying t=some (.slice e))(hT:Ty P e=some (g,k)){base a:Option Addr}{n cap c:Nat}(hn:n≤cap)(w:World) :
 (Builtin.append_ #[t,t] ty #[.slice base n cap,.slice a 0 c]).run P w = .ok (.slice base n cap) w:=by
 have h3:=(jK hT w).2.2
 cases hi:P.info? e with
 | none=>rw[hi]at h3;simp at h3
 | some i=>
  cases a <;> cases base <;> simp[Builtin.append_,Go.run_underlying hu,Go.sizeOf,typeInfo,hi,Builtin.lenOf,Builtin.firstCells,hn,storeCells,loadCells,loadCellsFrom,Result.andThen]
section
variable {P:Program} {n:Nat} {X:Cx} {L:Lo} {V:qc} {G:Own} {Q:Value→qc→Own→Prop}
variable {ty:TypeId} {pos:String} {af:Array Edge} {gd:Option (Nat×Bool)} {ds:Option Tmp}
theorem qa5(T:Tabs P){t e k m cap c:Nat}{base a:Option Addr}{x y:Operand}(hx:ev L x=some (.slice base m cap))(hy:ev L y=some (.slice a 0 c))(hE:T.el t=some (e,k))(hm:m≤cap)
 (k':Q (.slice base m cap) V G):Opr P n X L V G ⟨ds,.call { callee:=.builtin .append,args:=#[x,y],argTypes:=#[t,t] },ty,pos,af,gd⟩ Q:=fun ac ha w hw=>by
 obtain⟨hu,g,hT⟩:=yZ (T.el_ok _ _ hE)
 have hr:=qcE (P:=P) (ty:=ty) hu hT (base:=base) (a:=a) (c:=c) hm w
 exact .inl ⟨_,w,V,G,.inl (by simp[execOp,resolve,invoke,builtin,ha.ev hx,ha.ev hy,hr]),k',hw⟩
inductive RowC (e:TypeId) (k:Nat):Value→Own→Nat→List Value→Prop
 | nil:RowC e k (.slice none 0 0) [] 0 []
 | some {g m cap ct:Nat} {cur:Array Value} {xs:List Value} (hm:m≤cap) (hq:cap≤ct) (hc:ct≤maxLen) (hs:cur.size=ct*k) (ht:cur.toList.take (m*k)=xs):RowC e k (.slice (some ⟨g,0,none⟩) m cap) [(g,.cells cur e (0,0))] m xs
theorem RowC.len{e:TypeId}{k m:Nat}{v:Value}{Gr:Own}{xs:List Value}(h:RowC e k v Gr m xs):xs.length=m*k:=by
 cases h with
 | nil=>simp
 | some hm hq hc hs ht=>rw[← ht];simp only[Ka,Ks,hs];exact Vg (zG _ (KF hm hq))
theorem qa6(T:Tabs P){t e k m m' c2:Nat}{a2:Addr}{x y:Operand}{v:Value}{Gr G1:Own}{xs news:List Value}(hx:ev L x=some v)(hy:ev L y=some (.slice (some a2) m' c2))(hE:T.el t=some (e,k))(hb:P.bytesOf e≤256){z:List Value}(hz:T.ze e=some z)(hzl:z.length=k)
 (hcell0:∀w,Holds X V G w→∀(j:Nat) (u:Value),news[j]?=some u→w.cell? (a2.add j)=some u) (hl:news.length=m'*k) (h1:∀u∈news,u.oneCell'=true) (hR:RowC e k v Gr m xs) (hp:G.Perm (Gr++G1)) (hm':0<m') (hmm:m+m'≤549755813888)
 (k':∀v' Gr',RowC e k v' Gr' (m+m') (xs++news)→Q v' V (Gr'++G1)):Opr P n X L V G ⟨ds,.call { callee:=.builtin .append,args:=#[x,y],argTypes:=#[t,t] },ty,pos,af,gd⟩ Q:=fun a ha w hw=>by
 obtain⟨hu,g,hT⟩:=yZ (T.el_ok _ _ hE)
 have hq:=hw.perm hp;have hcell:=hcell0 w hw;have hze:=T.ze_ok _ _ hz;unfold Ze at hze;split at hze
 · rename_i i hi
   cases hz0:i.zero with
   | none=>simp[hz0]at hze
   | some zv=>
   simp only[hz0,VQ,za]at hze;have hzs:zv.cells.size=k:=by rw[← hzl,← hze];simp
   have hsz:i.size=k:=by have:=(jK hT w).2.2;simpa[hi]using this
   have hby:i.bytes≤256:=by simpa[Program.bytesOf,hi]using hb
   have hmul:∀q,q≤549755813888→q*i.bytes≤140737488355328:=fun q hq=>by
    have:q*i.bytes≤549755813888*256:=Vu hq hby
    omega
   have fin:∀(v':Value) (w':World) (Gr':Own),(Builtin.append_ #[t,t] ty #[v,.slice (some a2) m' c2]).run P w = .ok v' w'→RowC e k v' Gr' (m+m') (xs++news)→Holds X V (Gr'++G1) w' →
    ∃v w'' V' G',((execOp a.eval ⟨ds,.call { callee:=.builtin .append,args:=#[x,y],argTypes:=#[t,t] },ty,pos,af,gd⟩).run P w = .ok (.value v) w''∨((execOp a.eval ⟨ds,.call { callee:=.builtin .append,args:=#[x,y],argTypes:=#[t,t] },ty,pos,af,gd⟩).run P w = .ok .skip w''∧v=undef))∧Q v V' G'∧Holds X V' G' w'' :=
    fun v' w' Gr' hr hR' hh=>⟨v',w',V,_,.inl (by simp[execOp,resolve,invoke,builtin,ha.ev hx,ha.ev hy,hr]),k' v' Gr' hR',hh⟩
   refine .inl ?_
   cases hR with
   | nil=>
    have hr:=run_append_nil (P:=P) w t ty e i zv hu hi hz0 a2 m' c2 news (by rw[hsz];exact hl) hcell hm' (by omega) (by have:=hmul m' (by omega);omega)
    have hge:=grownCap_ge w m' 0 e
    have hrow:RowC e k (.slice (some ⟨w.heap.size,0,none⟩) m' (grownCap w m' 0 e)) [(w.heap.size,.cells (news.toArray++Builtin.zeroCells zv.cells (grownCap w m' 0 e-m')) e (0,0))] m' news:=by
     refine .some (by omega) (zI _) (grownCap_le_maxLen w m' 0 e (by unfold maxLen;omega)) ?_ ?_
     · simp only[VL,Ky,size_zeroCells,hzs,hl,← zR]
       congr 1;omega
     · simp only[VB,← hl]
       exact K4
    exact fin _ _ _ hr (by simpa using hrow) ((hq.drew).alloc _)
   | @some g m cap ct cur xs hm hq' hc hs ht=>
    have hrl:=(RowC.some (e:=e) (g:=g) hm hq' hc hs ht).len
    have hg:w.heap[g]?=some (.cells cur e (0,0)):=hq.own (g,.cells cur e (0,0)) (by simp)
    by_cases hroom:m+m'≤cap
    · have hfit:m*k+news.length≤cur.size:=by rw[hl,hs,← zR];exact zG _ (KF hroom hq')
      have hr:=run_append_room (P:=P) w t ty e i hu hi g m cap cur hg a2 m' c2 news (by rw[hsz];exact hl) hcell h1 hroom (by rw[hsz];exact hfit)
      rw[hsz,YO w g cur _ e hg]at hr;refine fin _ _ _ hr (.some (g:=g) (cur:=(cur.toList.take (m*k)++news++cur.toList.drop (m*k+news.length)).toArray) hroom hq' hc ?_ ?_) (hq.upd .here)
      · simp only[Ky,zb,Ka,KA,Ks]
        omega
      · simp only[]
        rw[ht];have:(xs++news).length=(m+m')*k:=by rw[zb,hrl,hl,zR]
        rw[← this,K4]
    · have hlt:cap<m+m':=by omega
      have hold:∀j u,xs[j]?=some u→w.cell? ((⟨g,0,none⟩:Addr).add j)=some u:=fun j u hj=>by
       rw[j8,yv hg,zt];rw[← ht,zZ]at hj;split at hj
       · simpa using hj
       · cases hj
      have hr:=run_append_grow (P:=P) w t ty e i zv hu hi hz0 ⟨g,0,none⟩ m cap xs (by rw[hsz];exact hrl) hold a2 m' c2 news (by rw[hsz];exact hl) hcell hlt (by omega) (growslice_fits hlt (hmul _ (by omega)))
      have hge:=grownCap_ge w (m+m') cap e
      have hrow:RowC e k (.slice (some ⟨w.heap.size,0,none⟩) (m+m') (grownCap w (m+m') cap e)) [(w.heap.size,.cells (xs.toArray++news.toArray++Builtin.zeroCells zv.cells (grownCap w (m+m') cap e-(m+m'))) e (0,0))] (m+m') (xs++news):=by
       refine .some (by omega) (zI _) (grownCap_le_maxLen w (m+m') cap e (by unfold maxLen;omega)) ?_ ?_
       · simp only[VL,Ky,size_zeroCells,hzs,hl,hrl,← zR]
         congr 1;omega
       · have:(xs++news).length=(m+m')*k:=by rw[zb,hrl,hl,zR]
         simp only[VB,← this];exact K4
      refine fin _ _ _ hr hrow (((hq.drew).alloc _).sublist ?_)
      simp
 · cases hze
theorem qpl(T:Tabs P){t e k:Nat}{x y:Operand}{z:List Value}{κ κ':IntKind}{p q:Int}(hx:ev L x=some (.int κ p))(hy:ev L y=some (.int κ' q))(hE:T.el t=some (e,k))(hz:T.ze e=some z)(h0:0≤p)(h1:p≤q)(h2:q≤549755813888)(hb:P.bytesOf e≤256)
 (k':∀b,Q (.slice (some ⟨b,0,none⟩) p.toNat q.toNat) V ((b,.cells (madeCells z.toArray (q.toNat*k)) e (0,0))::G)):Opr P n X L V G ⟨ds,.makeSlice t x y,ty,pos,af,gd⟩ Q:=fun a ha w hw=>by
 obtain⟨hu,g,hT⟩:=yZ (T.el_ok _ _ hE)
 have hze:=T.ze_ok _ _ hz;unfold Ze at hze;split at hze
 · rename_i i hi
   cases hz0:i.zero with
   | none=>simp[hz0]at hze
   | some zv=>
    simp only[hz0,VQ,za]at hze;have hsz:i.size=k:=by
     have:=(jK hT w).2.2
     simpa[hi]using this
    have hby:i.bytes≤256:=by simpa[Program.bytesOf,hi]using hb
    have hmul:(i.bytes:Int)*q≤281474976710656:=by
     have h3:(i.bytes:Int)*q≤256*q:=Int.mul_le_mul_of_nonneg_right (by omega) (by omega)
     omega
    have hr:=run_make (P:=P) w t e i zv hu hi hz0 κ κ' p q h0 h1 hmul (by omega)
    have hc:zv.cells=z.toArray:=by rw[← Vq (xs:=zv.cells),hze]
    rw[hsz,hc]at hr;refine .inl ⟨_,_,V,_,.inl ?_,k' w.heap.size,hw.alloc _⟩
    simp only[execOp,ha.ev hx,ha.ev hy,Sem.run_bind,hr,Result.andThen];rfl
 · cases hze
end
end Su
end
section
namespace Su
open Go Fly
structure IPf (H:List OB) (I:List IE) (H':List OB) (I':List IE):Prop where
 blk:∀(n b:Nat),I[n]?=some (.blk b)→I'[n]?=some (.blk b)
 fx:∀(m e k:Nat) (l:List T),H[m]?=some (.row true e k l)→I'[m]?=I[m]?∧∃l',H'[m]?=some (.row true e k l')
 len:I.length≤I'.length
theorem IPf.refl(H:List OB)(I:List IE):IPf H I H I:=⟨fun _ _ h=>h,fun _ _ _ l h=>⟨rfl,l,h⟩,zI _⟩
theorem IPf.trans{H H' H'':List OB}{I I' I'':List IE}(h:IPf H I H' I')(k:IPf H' I' H'' I''):IPf H I H'' I'' :=
 ⟨fun n b e=>k.blk n b (h.blk n b e),fun m e w l x=>by
   obtain⟨h1,l',h2⟩:=h.fx m e w l x;obtain⟨h3,l'',h4⟩:=k.fx m e w l' h2;exact⟨h3.trans h1,l'',h4⟩,KF h.len k.len⟩
theorem Fx.ipf{H H':List OB}{I:List IE}(h:Fx H H'):IPf H I H' I:=⟨fun _ _ h=>h,fun m e k l x=>⟨rfl,l,h m e k l x⟩,zI _⟩
def qpm{O:Type}(r:O)(k:SV→St→Option O)(V:qc)(I:List IE)(st:St)(L:Lo)(v:Value)(V':qc)(G':Own):Prop :=
 ∃V1 G1,Gh V' G' V1 G1∧Sub V V1∧∃I' sv st',k sv st'=some r∧SR V1 I' st' L G1∧RepS V1 I' sv v∧IPf st.H I st'.H I'
def qyj{O:Type}(r:O)(k:SV→St→Option O)(V:qc)(I:List IE)(st:St)(G:Own)(v:Value)(V':qc)(G':Own):Prop :=
 Sub V V'∧G'=G∧∃sv,k sv st=some r∧RepS V' I sv v
structure Pre (fr:Bool) (E:Env) (V:qc) (I:List IE) (st:St) (L:Lo) (G:Own) (xs:List Operand):Prop where
 mr:MR V I st.H G
 gok:GOK E.T V
 free:jQ V G
 opd:∀x∈xs,jm E st V I L x
 full:fr=true→SR V I st L G
def jv(fr:Bool){O:Type}(r:O)(k:SV→St→Option O)(V:qc)(I:List IE)(st:St)(L:Lo)(G:Own):Value→qc→Own→Prop :=
 fun v V' G'=>match fr with
  | true=>qpm r k V I st L v V' G'
  | false=>qyj r k V I st G v V' G'
theorem Pre.post{fr:Bool}{E:Env}{V:qc}{I:List IE}{st:St}{L:Lo}{G:Own}{xs:List Operand}(h:Pre fr E V I st L G xs){O:Type}{r:O}{k:SV→St→Option O}{v:Value}{sv:SV}(hk:k sv st=some r)(hr:RepS V I sv v):jv fr r k V I st L G v V G:=by
 cases fr with
 | true=>exact⟨V,G,Gh.refl h.free,Sub.refl _,I,sv,st,hk,h.full rfl,hr,IPf.refl _ _⟩
 | false=>exact⟨Sub.refl _,rfl,sv,hk,hr⟩
theorem GOK.mono{T:Tbl}{V V':qc}(h:GOK T V)(hs:Sub V V'):GOK T V':=⟨fun g x hx=>⟨(h.1 g x hx).1.mono hs,let⟨a,e,f,h1,h2⟩:=(h.1 g x hx).2;⟨a,e,f,hs _ _ h1,h2⟩⟩,fun g c hc=>let⟨v,e,f,h1,h2⟩:=h.2 g c hc;⟨v,e,f,hs _ _ h1,h2⟩⟩
theorem SR.pre{E:Env}{V:qc}{I:List IE}{st:St}{L:Lo}{G:Own}(h:SR V I st L G)(hg:GOK E.T V)(hf:jQ V G)(fr:Bool)(xs:List Operand):Pre fr E V I st L G xs :=
 ⟨h.mem.mr,hg,hf,fun x _=>qlS hg h.slot x,fun _=>h⟩
structure GhF (fr:Bool) (I:List IE) (L:Lo) (V:qc) (G:Own) (st:St) (V':qc) (G':Own) (st':St):Prop where
 gh:Gh V G V' G'
 yes:fr=true→SR V' I st' L G'∧Fx st.H st'.H
 no:fr=false→V'=V∧G'=G∧st'=st
theorem Pre.step{fr:Bool}{E:Env}{V V':qc}{I:List IE}{st st':St}{L:Lo}{G G':Own}{xs:List Operand}(h:Pre fr E V I st L G xs)(g:GhF fr I L V G st V' G' st'):Pre fr E V' I st' L G' xs:=by
 cases fr with
 | true=>exact(g.yes rfl).1.pre (h.gok.mono g.gh.sub) g.gh.free true xs
 | false=>obtain⟨rfl,rfl,rfl⟩:=g.no rfl;exact h
theorem Pre.ghrefl{fr:Bool}{E:Env}{V:qc}{I:List IE}{st:St}{L:Lo}{G:Own}{xs:List Operand}(h:Pre fr E V I st L G xs):GhF fr I L V G st V G st :=
 ⟨Gh.refl h.free,fun e=>⟨h.full e,Fx.refl _⟩,fun _=>⟨rfl,rfl,rfl⟩⟩
theorem GhF.trans{fr:Bool}{I:List IE}{L:Lo}{V V' V'':qc}{G G' G'':Own}{st st' st'':St}(h:GhF fr I L V G st V' G' st')(k:GhF fr I L V' G' st' V'' G'' st''):GhF fr I L V G st V'' G'' st'' :=
 ⟨h.gh.trans k.gh,fun e=>⟨(k.yes e).1,(h.yes e).2.trans (k.yes e).2⟩,fun e=>by
   obtain⟨h1,h2,h3⟩:=h.no e;obtain⟨k1,k2,k3⟩:=k.no e;exact⟨k1.trans h1,k2.trans h2,k3.trans h3⟩⟩
theorem qdC{fr:Bool}{E:Env}{V:qc}{I:List IE}{st st':St}{L:Lo}{G:Own}{xs:List Operand}(h:Pre fr E V I st L G xs){sv:SV}{v:Value}{x:T}(hr:RepS V I sv v)(e:qdk fr st sv=some (x,st')) :
 ∃V' G',GhF fr I L V G st V' G' st'∧Rep V' x v:=by
 cases fr with
 | true=>
  obtain⟨V',G',h1,h2,h3,h4⟩:=(QV (I:=I) (L:=L) 64).1 st st' sv x e V G v hr (h.full rfl) h.free
  exact⟨V',G',⟨h1,fun _=>⟨h2,h4⟩,fun e=>by simp at e⟩,h3⟩
 | false=>
  cases sv <;> simp[qdk]at e
  obtain⟨rfl,rfl⟩:=e;cases hr with|t hr=>exact⟨V,G,h.ghrefl,hr⟩
theorem qbJ{fr:Bool}{E:Env}{V:qc}{I:List IE}{st st':St}{L:Lo}{G:Own}{ops:List Operand}(h:Pre fr E V I st L G ops){l:List SV}{vs:List Value}{xs:List T}(hr:RepSs V I l vs)(e:Zz fr st l=some (xs,st')) :
 ∃V' G',GhF fr I L V G st V' G' st'∧RepA V' xs vs:=by
 cases fr with
 | true=>
  obtain⟨V',G',h1,h2,h3,h4⟩:=(QV (I:=I) (L:=L) 64).2 st st' l xs e V G vs hr (h.full rfl) h.free
  exact⟨V',G',⟨h1,fun _=>⟨h2,h4⟩,fun e=>by simp at e⟩,h3⟩
 | false=>
  simp only[Zz,zo]at e;replace e:=qf e;obtain⟨r,hq,e⟩:=e
  simp only[za,Km]at e;obtain⟨rfl,rfl⟩:=e;exact⟨V,G,h.ghrefl,hr.asTs hq⟩
theorem J4{fr:Bool}{P:Program}{n:Nat}{X:Cx}{I:List IE}{L:Lo}{V V':qc}{G G':Own}{st st':St}{o:Oper}{O:Type}{r:O}{k:SV→St→Option O}(g:GhF fr I L V G st V' G' st')
 (h:Opr P n X L V' G' o (jv fr r k V' I st' L G')):Opr P n X L V G o (jv fr r k V I st L G):=by
 cases fr with
 | true=>
  refine qwo g.gh ?_
  intro a ha w hw;have hmono:∀v V2 G2,jv true r k V' I st' L G' v V2 G2→jv true r k V I st L G v V2 G2:=by
   rintro v V2 G2 ⟨V1,G1,h1,hsub,I',sv,s',h2,h3,h4,h5⟩
   exact⟨V1,G1,h1,g.gh.sub.trans hsub,I',sv,s',h2,h3,h4,(g.yes rfl).2.ipf.trans h5⟩
  rcases h a ha w hw with⟨v,w',V2,G2,h1,h2,h3⟩|⟨f,args,w',h1,h2⟩
  · exact .inl ⟨v,w',V2,G2,h1,hmono _ _ _ h2,h3⟩
  · refine .inr ⟨f,args,w',h1,h2.mono ?_⟩
    rintro e w'' ⟨v,V2,G2,he,hq,hh⟩
    exact⟨v,V2,G2,he,hmono _ _ _ hq,hh⟩
 | false=>obtain⟨rfl,rfl,rfl⟩:=g.no rfl;exact h
theorem Js{P:Program}{n:Nat}{X:Cx}{L:Lo}{V:qc}{G:Own}{o:Oper}{Q Q':Value→qc→Own→Prop}(h:Opr P n X L V G o Q)(hq:∀v V' G',Q v V' G'→Q' v V' G'):Opr P n X L V G o Q':=by
 intro a ha w hw;rcases h a ha w hw with⟨v,w',V2,G2,h1,h2,h3⟩|⟨f,args,w',h1,h2⟩
 · exact .inl ⟨v,w',V2,G2,h1,hq _ _ _ h2,h3⟩
 · refine .inr ⟨f,args,w',h1,h2.mono ?_⟩
   rintro e w'' ⟨v,V2,G2,he,hq',hh⟩
   exact⟨v,V2,G2,he,hq _ _ _ hq',hh⟩
theorem QW{P:Program}{n:Nat}{X:Cx}{L:Lo}{V:qc}{G G':Own}{o:Oper}{Q:Value→qc→Own→Prop}(hp:G.Perm G')(h:Opr P n X L V G' o Q):Opr P n X L V G o Q:=fun a ha w hw=>h a ha w (hw.perm hp)
theorem SR.new{V:qc}{I:List IE}{st:St}{L:Lo}{G:Own}(h:SR V I st L G){Is:List IE}{Hs:List OB}{g:Own}(hr:GRel V (I++Is) Is Hs g):SR V (I++Is) ⟨st.K,st.Tm,st.H++Hs⟩ L (g++G):=by
 obtain⟨G0,h1,h2⟩:=h.mem;refine⟨⟨G0++g,(h1.mono (Sub.refl _) (Ile.app _ _)).append hr,zF.trans (h2.append_right g)⟩,fun d sv hd hb=>?_⟩
 obtain⟨v,hv,hr'⟩:=h.slot d sv hd hb;exact⟨v,hv,hr'.mono (Sub.refl _) (Ile.app _ _)⟩
theorem SR.len{V:qc}{I:List IE}{st:St}{L:Lo}{G:Own}(h:SR V I st L G):I.length=st.H.length:=by
 obtain⟨G0,h1,_⟩:=h.mem;exact h1.length
theorem IPf.app{H Hs:List OB}{I Is:List IE}(hl:I.length=H.length):IPf H I (H++Hs) (I++Is) :=
 ⟨fun n b h=>Ile.app _ _ _ _ h,fun m e k l h=>by
   have hlt:m<H.length:=(zu.1 h).1
   exact⟨by rw[Ki (by omega)],l,by rw[Ki hlt];exact h⟩,by simp⟩
theorem jQ.cons{V:qc}{G:Own}{X:Cx}{w:World}(h:Holds X V G w):jQ V G:=⟨fun p hp=>(h.free p hp).2,h.nodup⟩
theorem jZ{P:Program}{n:Nat}{X:Cx}{L:Lo}{V:qc}{G:Own}{o:Oper}{Q:Value→qc→Own→Prop}(h:Opr P n X L V G o fun v V' G'=>jQ V' G'→Q v V' G'):Opr P n X L V G o Q:=by
 intro a ha w hw;rcases h a ha w hw with⟨v,w',V2,G2,h1,h2,h3⟩|⟨f,args,w',h1,h2⟩
 · exact .inl ⟨v,w',V2,G2,h1,h2 (jQ.cons h3),h3⟩
 · refine .inr ⟨f,args,w',h1,h2.mono ?_⟩
   rintro e w'' ⟨v,V2,G2,he,hq',hh⟩
   exact⟨v,V2,G2,he,hq' (jQ.cons hh),hh⟩
end Su
end
section
namespace Su
open Go Fly
section
variable {fr:Bool} {P:Program} {E:Env} {n:Nat} {X:Cx} {L:Lo} {V:qc} {I:List IE} {G:Own} {st:St} {O:Type} {r:O} {k:SV→St→Option O} {xs:List Operand}
variable {ty:TypeId} {pos:String} {af:Array Edge} {gd:Option (Nat×Bool)} {ds:Option Tmp}
theorem qth{κ:IntKind}{x:T}{n:Int}(h:asI κ (.t x)=some n):x = .s (.int κ n):=by
 unfold asI at h;split at h
 · rename_i κ' m e
   cases hk:decide (κ'=κ)with
   | true=>rw[hk]at h;cases h;have:=KM hk;subst this;cases e;rfl
   | false=>rw[hk]at h;cases h
 · cases h
theorem qnG:∀ {u:Nat} {x:T} {a:U u},qhg u x=some a→x=view u a
 | 0,x,a,h=>qth h
 | 1,x,a,h=>qth h
 | 2,x,a,h=>qth h
 | 3,x,a,h=>qth h
 | 4,x,a,h=>by
  have h:asB (.t x)=some a:=h
  unfold asB at h;split at h
  · rename_i b e;cases h;cases e;rfl
  · cases h
 | 5,x,a,h=>by
  have h:asS (.t x)=some a:=h
  unfold asS at h;split at h
  · rename_i b e;cases h;cases e;rfl
  · cases h
 | _+6,x,a,h=>by cases h
theorem qa7{u:Nat}:∀ {l:List T} {a:List (U u)},yC u l=some a→l=a.map (view u)
 | [],a,h=>by cases h;rfl
 | x::l,a,h=>by
  have h:((qhg u x).bind fun a=>(yC u l).bind fun b=>some (a::b))=some a:=h
  replace h:=qf h;obtain⟨b,h1,h⟩:=h
  replace h:=qf h;obtain⟨c,h2,h⟩:=h
  cases h;rw[KH,qnG h1,← qa7 h2]
theorem qvi{x:Operand}{op:Op}(hop:op = .move x∨op = .assign x)(h:Pre fr E V I st L G xs)(hx:jm E st V I L x)(e:qcx E fr st ty x k=some r):Opr P n X L V G ⟨ds,op,ty,pos,af,gd⟩ (jv fr r k V I st L G):=by
 have go:∀ {v:Value} {Q:Value→qc→Own→Prop},ev L x=some v→Q v V G→Opr P n X L V G ⟨ds,op,ty,pos,af,gd⟩ Q:=by
  intro v Q hv hq;rcases hop with rfl|rfl
  · exact qh hv hq
  · exact qd hv hq
 have gen:(opd E st x).bind (fun v=>qoZ E fr st v k)=some r→Opr P n X L V G ⟨ds,op,ty,pos,af,gd⟩ (jv fr r k V I st L G):=by
  intro e;replace e:=qf e;obtain⟨sv,hsv,e⟩:=e
  obtain⟨v,hv,hr⟩:=hx sv hsv;unfold qoZ at e;split at e
  · split at e
    · cases fr with
      | false=>exact go hv (h.post e hr)
      | true=>
       simp only[zg]at e;replace e:=(qal 64).1 _ _ _ e
       replace e:=qf e;obtain⟨p,hp,e⟩:=e
       obtain⟨V',G',g1,g2⟩:=qdC h hr (show qdk true st _=some (p.1,p.2) from hp)
       split at e
       · rename_i w l hpl
         replace e:=qf e;obtain⟨l',hl,e⟩:=e
         have hx':Rep V' (.sl w l) v:=by rw[← hpl];exact g2
         rw[qa7 hl]at hx';exact go hv ⟨V',G',g1.gh,g1.gh.sub,I,_,_,e,(g1.yes rfl).1,.t (.ql hx'),(g1.yes rfl).2.ipf⟩
       · cases e
    · exact go hv (h.post e hr)
  · exact go hv (h.post e hr)
 unfold qcx at e;split at e
 · have nilr:∀w:Nat,RepS V I (.t (.sl w [])) (.slice none 0 0):=fun w=>.t (.sl (l:=[]) (vs:=[]) .nil (by simp) (by simp) (by simp) (by simp[maxLen]) (.inl rfl))
   split at e
   · rename_i p hp
     split at e
     · exact go rfl (h.post e (.t (.ql (l:=[]) (.sl (l:=[]) (vs:=[]) .nil (by simp) (by simp) (by simp) (by simp[maxLen]) (.inl rfl)))))
     · cases fr with
       | false=>exact go rfl (h.post e (nilr _))
       | true=>
        have hS:=h.full rfl;have h1:=hS.new (Is:=[.vrow]) (Hs:=[.row false p.1 p.2 []]) (g:=[]) (.cons (g:=[]) .vrow .nil)
        refine go rfl ⟨V,G,Gh.refl h.free,Sub.refl _,I++[.vrow],_,_,e,h1,?_,IPf.app hS.len⟩
        exact .oslv (by rw[← hS.len];simp)
   · exact go rfl (h.post e (nilr _))
 · exact gen e
theorem ZV{sv:SV}{v:Value}(hr:RepS V I sv v)(h:YR sv=true):v.oneCell'=true∧v.cells = #[v]∧jG sv=true:=by
 cases hr with
 | t hr=>rename_i x;cases x <;> simp only[YR,reduceCtorEq]at h <;> (obtain⟨h1,h2⟩:=hr.one rfl;exact⟨h1,h2,rfl⟩)
 | un=>simp[YR]at h
 | bad=>simp[YR]at h
 | tup _=>simp[YR]at h
 | st _=>simp[YR]at h
 | ref _=>exact⟨rfl,rfl,rfl⟩
 | osl _ _ _ _=>exact⟨rfl,rfl,rfl⟩
 | osl0 _ _=>exact⟨rfl,rfl,rfl⟩
 | oslv _=>exact⟨rfl,rfl,rfl⟩
 | oslp _ _=>exact⟨rfl,rfl,rfl⟩
 | ep _=>exact⟨rfl,rfl,rfl⟩
 | clo _ _=>exact⟨rfl,rfl,rfl⟩
theorem qbK:∀ {l:List SV} {vs:List Value},RepSs V I l vs→JF l=true→(∀s∈l,jG s=true)∧∀u∈vs,u.oneCell'=true
 | _,_,.nil,_=>⟨by simp,by simp⟩
 | x::l,v::vs,.cons hx hl,h=>by
  have h:(bif YR x then JF l else false)=true:=h
  cases hc:YR x with
  | false=>rw[hc]at h;simp at h
  | true=>
   rw[hc]at h;obtain⟨a1,_,a3⟩:=ZV hx hc;obtain⟨b1,b2⟩:=qbK hl h;refine⟨fun s hs=>?_,fun u hu=>?_⟩
   · rcases zK.1 hs with rfl|hs
     · exact a3
     · exact b1 s hs
   · rcases zK.1 hu with rfl|hu
     · exact a1
     · exact b2 u hu
theorem qkN{x:SV}{l:List SV}(h:JF (x::l)=true):YR x=true∧JF l=true:=by
 have h:(bif YR x then JF l else false)=true:=h
 cases hc:YR x with
 | false=>rw[hc]at h;simp at h
 | true=>rw[hc]at h;exact⟨rfl,h⟩
theorem qez:∀ {l:List SV} {ts:List T},JF l=true→asTs l=some ts→∀x∈ts,x.isAgg=false
 | [],ts,_,e=>by simp only[asTs,za]at e;subst e;simp
 | x::l,ts,h,e=>by
  obtain⟨h1,h2⟩:=qkN h;cases x <;> simp only[asTs,reduceCtorEq]at e
  rename_i y;replace e:=qf e;obtain⟨r,hr,e⟩:=e
  simp only[za]at e;subst e;intro z hz;rcases zK.1 hz with rfl|hz
  · cases z <;> simp[YR]at h1 <;> rfl
  · exact qez h2 hr z hz
theorem YV{rs:List SV}{vs:List Value}{k:SV→Option O}(h:RepSs V I rs vs)(e:qbv rs k=some r):∃sv,k sv=some r∧RepS V I sv (.agg vs.toArray):=by
 unfold qbv at e;cases ho:JF rs with
 | false=>rw[ho]at e;simp at e
 | true=>
  rw[ho]at e;simp only[zg]at e;split at e
  · rename_i ts ht
    exact⟨_,e,.t (.agg (h.asTs ht) (qez ho ht))⟩
  · exact⟨_,e,.st h⟩
theorem ZW:∀ {l:List T},(∀x∈l,x.isAgg=false)→∀s∈mpT l,jG s=true
 | [],_,s,h=>by simp[mpT]at h
 | x::l,hc,s,h=>by
  simp only[mpT,zK]at h;rcases h with rfl|h
  · simp[jG,hc x (by simp)]
  · exact ZW (fun y hy=>hc y (zE _ hy)) s h
theorem qkO{x:Operand}{e:TypeId}(h:Pre fr E V I st L G xs)(hx:jm E st V I L x)(he:qlI E fr st x k=some r):Opr P n X L V G ⟨ds,.box e x,ty,pos,af,gd⟩ (jv fr r k V I st L G):=by
 unfold qlI at he;cases fr with
 | false=>simp at he
 | true=>
  simp only[zg]at he;replace he:=qf he;obtain⟨sv,hsv,he⟩:=he
  replace he:=qf he;obtain⟨c,hc,he⟩:=he
  obtain⟨v,hv,hr⟩:=hx sv hsv;have hS:=h.full rfl;have fin:∀(b:Nat) (vs:List Value),RepSs V I c vs→(∀s∈c,jG s=true)→jQ V ((b,.cells vs.toArray e (0,0))::G)→jv true r k V I st L G (.pointer (some ⟨b,0,none⟩)) V ((b,.cells vs.toArray e (0,0))::G):=by
   intro b vs h1 h2 hf;have h3:=hS.new (Is:=[.blk b]) (Hs:=[.cells c]) (g:=[(b,.cells vs.toArray e (0,0))]) (.cons (g:=[(b,.cells vs.toArray e (0,0))]) (G:=[]) (.cells (h1.mono (Sub.refl _) (Ile.app _ _)) h2) .nil)
   exact⟨V,_,Gh.refl hf,Sub.refl _,_,_,_,he,h3,.ref (by rw[← hS.len];simp),IPf.app hS.len⟩
  have one:Zd sv=some [sv]→c=[sv]→YR sv=true→Opr P n X L V G ⟨ds,.box e x,ty,pos,af,gd⟩ (jv true r k V I st L G):=by
   rintro _ rfl h1
   obtain⟨h2,h3,h4⟩:=ZV hr h1;refine jZ (qlv hv h3 fun b hf=>?_)
   exact fin b [v] (.cons hr .nil) (by simpa using h4) hf
  cases sv with
  | t x'=>
   cases x' with
   | agg l=>
    simp[Zd]at hc;subst hc;cases hr with|t hr=>cases hr with|agg h1 h2=>
    exact jZ (qJ hv fun b hf=>fin b _ (RepSs.ofT h1) (ZW h2) hf)
   | _=>simp[Zd]at hc;exact one (by simp[Zd]) hc.symm rfl
  | tup l=>simp[Zd]at hc
  | st l=>
   simp only[Zd]at hc;cases ho:JF l with
   | false=>rw[ho]at hc;simp at hc
   | true=>
    rw[ho]at hc;simp only[zg,za]at hc;subst hc;cases hr with|st h1=>
    exact jZ (qJ hv fun b hf=>fin b _ h1 (qbK h1 ho).1 hf)
  | un=>simp[Zd]at hc
  | bad=>simp[Zd]at hc
  | _=>simp[Zd]at hc;exact one (by simp[Zd]) hc.symm rfl
theorem qti{x:Operand}{e:TypeId}(h:Pre true E V I st L G xs)(hx:jm E st V I L x)(he:qks E st x k=some r):Opr P n X L V G ⟨ds,.box e x,ty,pos,af,gd⟩ (jv true r k V I st L G):=by
 unfold qks at he;replace he:=qf he;obtain⟨sv,hsv,he⟩:=he
 split at he
 · rename_i l
   obtain⟨v,hv,hr⟩:=hx _ hsv;cases hr with|t hr=>cases hr with|@agg _ vs h1 h2=>
   refine jZ (qJ hv fun b hf=>?_)
   have hVb:V b=none:=hf.1 (b,.cells vs.toArray e (0,0)) (zM ..)
   have hs:=Sub.addV (o:=.cells vs.toArray e (0,0)) hVb
   have hm:SR (addV V b (.cells vs.toArray e (0,0))) I st L G:=by
    obtain⟨G0,h1,h2⟩:=(h.full rfl).mem
    refine⟨⟨G0,h1.mono hs (Ile.refl _),h2⟩,fun d sv hd hb=>?_⟩
    obtain⟨v,hv,hr⟩:=(h.full rfl).slot d sv hd hb
    exact⟨v,hv,hr.mono hs (Ile.refl _)⟩
   refine⟨_,G,Gh.freeze hf (zr _),hs,I,_,_,he,hm,?_,IPf.refl _ _⟩
   have:=Rep.pt (V:=addV V b (.cells vs.toArray e (0,0))) (x:=.agg l) (off:=0) (b:=b) (o:=0) (vs:=vs) (h1.mono hs) h2 (fun j c hj=>⟨_,_,_,addV_same _ _ _,by simpa using hj⟩)
   exact .t this
 · exact qkO h hx he
theorem qtj{x:Operand}{e:TypeId}(h:Pre fr E V I st L G xs)(hx:jm E st V I L x)(he:qkt E fr st ds x k=some r):Opr P n X L V G ⟨ds,.box e x,ty,pos,af,gd⟩ (jv fr r k V I st L G):=by
 unfold qkt at he;cases fr with
 | false=>exact qkO h hx he
 | true=>
  cases hc:fbD E ds with
  | true=>rw[hc]at he;exact qti h hx he
  | false=>rw[hc]at he;exact qkO h hx he
theorem qbL{v:Value}{hs:List (Option (Nat×Nat))}{p:Nat×Nat}(h:qak v hs=some p):v = .slice none 0 0:=by
 unfold qak at h;split at h
 · rfl
 · simp at h
theorem qas{V:qc}:∀ {l:List Value} {hs:List (Option (Nat×Nat))},l.all qct=true→RepA V (zCs l hs) l∧∀x∈zCs l hs,x.isAgg=false:=by
 intro l;induction l with
 | nil=>intro hs _;exact⟨.nil,by simp[zCs]⟩
 | cons v l ih=>
  intro hs h;simp only[WH,zp]at h;have hz:=qhx (V:=V) h.1
  have nilr:∀w:Nat,Rep V (.sl w []) (.slice none 0 0):=fun w=>.sl (l:=[]) (vs:=[]) .nil (by simp) (by simp) (by simp) (by simp[maxLen]) (.inl rfl)
  simp only[zCs];cases hq:qak v hs with
  | none=>exact⟨.cons hz.1 (ih h.2).1,by simpa[hz.2]using(ih h.2).2⟩
  | some p=>
   have:=qbL hq;subst this
   exact⟨.cons (nilr _) (ih h.2).1,by simpa[T.isAgg]using(ih h.2).2⟩
end
end Su
end
