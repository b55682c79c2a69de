/-
  An evaluator, proved sound. No condition.
-/
import Derived.Test.YtldhknmacepeiaaGreatDoorSuM
import Derived.Laws.BytesArg
set_option linter.unusedVariables false
set_option linter.unusedSimpArgs false
section
namespace Su
open Go Fly
section
variable {fr:Bool} {P:Program} {E:Env} {n:Nat} {X:Cx} {L:Lo} {V:qc} {I:List IE} {G:Own} {st:St} {O:Type} {r:O} {k:SV→St→Option O} {xs:List Operand} {Q:Value→qc→Own→Prop}
variable {ty:TypeId} {pos:String} {af:Array Edge} {gd:Option (Nat×Bool)} {ds:Option Tmp}
theorem qkR{sv:SV}{v:Value}{y:T}{l:List T}{w:Nat}(hM:MR V I st.H G)(hr:RepS V I sv v)(hs:qit st.H sv=some y)(hl:qfD w (.t y)=some l) :
 ∃a c news,v = .slice a l.length c∧RepA V (l.flatMap T.cells) news∧news.length=l.length*w∧(∀x∈l.flatMap T.cells,x.isAgg=false)∧(∀x∈l,x.cells.length=w) ∧
  (l.length=0∨∃a2,a=some a2∧∀(X:Cx) (wd:World),Holds X V G wd→∀(j:Nat) (u:Value),news[j]?=some u→wd.cell? (a2.add j)=some u):=by
 unfold qit at hs;split at hs
 · simp only[za]at hs;subst hs
   have hr:=qbF hl hr;cases hr with|t hr=>cases hr with|@sl _ _ vs a cap a1 a2 a3 a4 a5 a6=>
   refine⟨a,cap,vs,rfl,a1,by rw[← a1.length,QT a3],a2,a3,?_⟩
   rcases a6 with rfl|⟨b,off,rfl,a6⟩
   · exact .inl rfl
   · refine .inr ⟨_,rfl,fun X wd hw j u hj=>?_⟩
     obtain⟨arr,e,f0,h1,h2⟩:=a6 j u hj;rw[j8,yv (hw.view _ _ h1)];exact h2
 · rename_i m off len
   split at hs
   · rename_i fx e w' l0 hn
     replace hs:=qf hs;obtain⟨q,hq,hs⟩:=hs
     simp only[za]at hs;subst hs;unfold qfD at hl;simp only[]at hl;cases hwb:Nat.beq w' w with
     | false=>rw[hwb]at hl;simp at hl
     | true=>
     rw[hwb]at hl;simp only[zg,za]at hl;subst hl;have:=zd hwb;subst this
     obtain⟨h1,h2⟩:=ZU hq;have hql:q.length=len:=by rw[h1];simp;omega
     rcases hM.row hn with⟨b,ct,cur,a1,a2,a3,a4,a5,a6,a7,a8⟩|⟨a1,rfl⟩
     · have hmem:∀x∈q,x∈l0:=fun x hx=>by rw[h1]at hx;exact KY (V8 hx)
       have hrep:RepA V (q.flatMap T.cells) (((cur.toList.take (l0.length*w')).drop (off*w')).take (len*w')):=by
        rw[h1,JS len (fun x hx=>a8 x (KY hx)),yY off a8];exact(a6.drop _).take _
       have hlen:(((cur.toList.take (l0.length*w')).drop (off*w')).take (len*w')).length=q.length*w':=by
        rw[← hrep.length,QT (fun x hx=>a8 x (hmem x hx))]
       have hna:∀x∈q.flatMap T.cells,x.isAgg=false:=fun x hx=>by
        obtain⟨z,hz,hx⟩:=KU.1 hx;exact a7 x (KU.2 ⟨z,hmem z hz,hx⟩)
       cases hr with
       | @osl _ _ _ b' k' ct' cap' hI h3 h4 h5=>
        rw[a1]at hI;simp only[za,IE.row.injEq]at hI;obtain⟨rfl,rfl,rfl⟩:=hI;refine⟨_,_,_,by rw[hql],hrep,hlen,hna,fun x hx=>a8 x (hmem x hx),.inr ⟨_,rfl,fun X wd hw j u hj=>?_⟩⟩
        have:=qkP hj
        rw[zZ]at this;split at this
        · rw[j8,yv (hw.own _ a2.mem)];simpa using this
        · cases this
       | osl0 h3 h4=>exact⟨_,_,_,by rw[hql],hrep,hlen,hna,fun x hx=>a8 x (hmem x hx),.inl hql⟩
       | oslv h3=>rw[a1]at h3;cases h3
       | oslp h3 _=>rw[a1]at h3;cases h3
     · have hq0:q=[]:=by rw[h1];simp
       subst hq0;simp at hql;subst hql;cases hr with
       | osl hI _ _ _=>rw[a1]at hI;cases hI
       | osl0 h3 h4=>exact⟨_,_,[],rfl,.nil,by simp,by simp,by simp,.inl rfl⟩
       | oslv h3=>exact⟨_,_,[],rfl,.nil,by simp,by simp,by simp,.inl rfl⟩
       | oslp h3 _=>rw[a1]at h3;cases h3
   · simp at hs
 · simp at hs
theorem qlZ{V:qc}:∀ {l:List T} {m:List Int} {vs:List Value},ZM l=some m→RepA V (l.flatMap T.cells) vs→vs=m.map (Value.int .u8)
 | [],m,vs,h,hr=>by
  simp only[ZM,za]at h;subst h;cases hr;rfl
 | x::l,m,vs,h,hr=>by
  simp only[ZM]at h;replace h:=qf h;obtain⟨a,ha,h⟩:=h
  replace h:=qf h;obtain⟨b,hb,h⟩:=h
  simp only[za]at h;subst h;have:=J2 ha
  simp only[SV.t.injEq]at this;subst this;rw[Kx]at hr;replace hr:RepA V (T.s (.int .u8 a)::l.flatMap T.cells) vs:=hr
  cases hr with|cons h1 h2=>
  cases h1 with|s h1=>
  rw[qlZ hb h2];rfl
theorem ql0:∀ {l:List T} {m:List Int},ZM l=some m→m.length=l.length
 | [],m,h=>by simp only[ZM,za]at h;subst h;rfl
 | x::l,m,h=>by
  simp only[ZM]at h;replace h:=qf h;obtain⟨a,ha,h⟩:=h
  replace h:=qf h;obtain⟨b,hb,h⟩:=h
  simp only[za]at h;subst h;simp[ql0 hb]
theorem qpx(S:Sound P E.T){s d:TypeId}{x:Operand}(h:Pre fr E V I st L G xs)(hx:jm E st V I L x)(he:qlK E st s d x k=some r):Opr P n X L V G ⟨ds,.convert s d x,ty,pos,af,gd⟩ (jv fr r k V I st L G):=by
 unfold qlK at he;split at he
 · rename_i hkd
   replace he:=qf he;obtain⟨a,ha,he⟩:=he
   obtain⟨va,hva,hra⟩:=hx a ha;have hd:=S.str _ hkd;split at he
   · rename_i hks
     replace he:=qf he;obtain⟨b,hb,he⟩:=he
     have:=qcD hb;subst this
     have:=jY hra;subst this
     refine qP (fun a w hk=>?_) (h.post he hra)
     simp[execOp,hk.ev hva,convert,Fly.run_underlying (S.str _ hks) w,Fly.run_underlying hd w]
   · replace he:=qf he;obtain⟨p,hp,he⟩:=he
     split at he
     · rename_i hku
       cases hb:Nat.beq p.2 1 with
       | false=>rw[hb]at he;simp at he
       | true=>
       rw[hb]at he;simp only[zg,YQ]at he;replace he:=qf he;obtain⟨y,hy,he⟩:=he
       replace he:=qf he;obtain⟨l,hl,he⟩:=he
       replace he:=qf he;obtain⟨m,hm,he⟩:=he
       obtain⟨a,c,news,rfl,n1,n2,n3,n4,n5⟩:=qkR h.mr hra hy hl;have hn:=qlZ hm n1;have hml:=ql0 hm;subst hn;obtain⟨hu,g,hT⟩:=yZ (S.tb.el_ok _ _ (S.el s (p.1,p.2) hp))
       have h8:=qkf (S.tb.ik_ok _ _ (S.ik _ _ hku))
       cases hck:Nat.ble m.length 549755813888 with
       | false=>rw[hck]at he;simp at he
       | true=>
       rw[hck]at he;simp only[zg]at he;have hmm:=zx hck;have hsz:qhf (.string (byI m))=true:=zN (by
        show(m.map fun n=>UInt8.ofNat n.toNat).toArray.size≤_
        simp[maxLen];omega)
       refine fun a' ha' w hw=>.inl ⟨.string (byI m),w,V,G,.inl ?_,h.post he (.t (.s hsz)),hw⟩
       have hrun:(convert s d (.slice a l.length c)).run P w = .ok (.string (byI m)) w:=by
        rw[run_convert_bytes_string w s d p.1 a l.length c hu h8 hd];cases a with
        | none=>
         have h0:l.length=0:=by
          rcases n5 with h0|⟨a2,h1,_⟩
          · exact h0
          · cases h1
         have:m=[]:=KP.1 (by omega)
         subst this;simp[Conv.bytesToString];rfl
        | some a=>
         have hlc:(loadCells a l.length).run P w = .ok (m.map (Value.int .u8)).toArray w:=by
          rw[← hml,show m.length=(m.map (Value.int .u8)).length by simp];refine run_loadCells_list (P:=P) w a _ fun j v hj=>?_
          rcases n5 with h0|⟨a2,h1,h2⟩
          · have:m=[]:=KP.1 (by omega)
            subst this;simp at hj
          · cases h1
            exact h2 X w hw j v hj
         have e0:ByteArray.empty.data++(m.map fun n=>UInt8.ofNat n.toNat).toArray=(m.map fun n=>UInt8.ofNat n.toNat).toArray:=by
          rw[show ByteArray.empty.data = #[] from rfl];simp
         rw[run_bytesToString w a l.length c m hlc,foldl_push_bytes,e0];rfl
       simp[execOp,ha'.ev hva,hrun]
     · simp at he
 · exact qnC S hx he fun v sv hk hr=>h.post hk hr
theorem IPf.moved{H:List OB}{I:List IE}{n e k:Nat}{l l':List T}{ie':IE}{g:SV→SV}(hn:H[n]?=some (.row false e k l))(hI:∀b,I[n]?≠some (.blk b)):IPf H I ((H.map (OB.mp g)).set n (.row false e k l')) (I.set n ie') :=
 ⟨fun m b h=>by
   rw[Kh]
   · exact h
   · rintro rfl;exact hI b h,
  fun m e' k' x hm=>by
   have hne:n≠m:=by rintro rfl;rw[hn]at hm;simp at hm
   exact⟨by rw[Kh hne],x,by rw[Kh hne,Ku,hm];rfl⟩,by simp⟩
theorem qpy{V:qc}{I:List IE}{e w m:Nat}{v:Value}{g:Own}{l:List T}{ys:List Value}(hR:RowC e w v g m ys)(h0:0<m)(hl:l.length=m)(hr:RepA V (l.flatMap T.cells) ys)(hc:∀x∈l.flatMap T.cells,x.isAgg=false)(hw:∀x∈l,x.cells.length=w) :
 ∃b ct cap,v = .slice (some ⟨b,0,none⟩) m cap∧(m≤cap∧cap≤ct)∧ct≤maxLen∧RepOB V I (.row false e w l) (.row b w ct) g:=by
 cases hR with
 | nil=>omega
 | @some g m cap ct cur ys hm hq hcap hs ht=>
  subst ht;exact⟨g,ct,cap,rfl,⟨hm,hq⟩,hcap,.row hs hcap (by omega) (by rw[hl];exact hr) hc hw⟩
theorem qyl(S:Sound P E.T){x y:Operand}{ts:Array TypeId}{t:Nat}{sx sy:SV}(h:Pre true E V I st L G xs)(hx:jm E st V I L x)(hy:jm E st V I L y)(hsx:opd E st x=some sx)(hsy:opd E st y=some sy)(hts:ts = #[t,t])
 (he:apO E st sx sy t k=some r):Opr P n X L V G ⟨ds,.call { callee:=.builtin .append,args:=#[x,y],argTypes:=ts },ty,pos,af,gd⟩ (jv true r k V I st L G):=by
 subst hts;obtain⟨vx,hvx,hrx⟩:=hx sx hsx;obtain⟨vy,hvy,hry⟩:=hy sy hsy;unfold apO at he;simp only[YQ]at he;replace he:=qf he;obtain⟨p,hp,he⟩:=he
 replace he:=qf he;obtain⟨z,hz,he⟩:=he
 have hE:=S.el t (p.1,p.2) hp
 cases hck:(E.T.sml p.1&&Nat.beq z.length p.2)with
 | false=>rw[hck]at he;simp at he
 | true=>
  rw[hck]at he;simp only[zg]at he;simp only[zp]at hck;have hsm:=S.sml _ hck.1;have hzl:=zd hck.2;replace he:=qf he;obtain⟨y',hy',he⟩:=he
  replace he:=qf he;obtain⟨l2,hl2,he⟩:=he
  obtain⟨a,c,news,rfl,n1,n2,n3,n4,n5⟩:=qkR h.mr hry hy' hl2;have hS:=h.full rfl;have hone:=Jt n1 n3;split at he
  · rename_i m len
    split at he
    · rename_i e w l hn
      cases hck2:(Nat.beq e p.1&&Nat.beq w p.2&&Nat.beq len l.length&&Nat.ble (l.length+l2.length) 549755813888)with
      | false=>rw[hck2]at he;simp at he
      | true=>
       rw[hck2]at he;simp only[zg]at he;simp only[zp]at hck2;obtain⟨⟨⟨q1,q2⟩,q3⟩,q4⟩:=hck2;have:=zd q1;subst this
       have:=zd q2;subst this
       have hlen:=zd q3;have hmm:=zx q4;obtain⟨ie,g,G1,k1,k2,k3,k4⟩:=hS.moved hn
       -- the row as it stands
       have hrow:∃ys,RowC p.1 p.2 vx g l.length ys∧RepA V (l.flatMap T.cells) ys∧(∀x∈l.flatMap T.cells,x.isAgg=false)∧(∀x∈l,x.cells.length=p.2)∧(∀b,I[m]?≠some (.blk b))∧∃a cap,vx = .slice a l.length cap∧l.length≤cap:=by
        cases k2 with
        | @row _ _ _ b ct _ cur a1 a2 a3 a4 a5 a6=>
         cases hrx with
         | @osl _ _ _ b' k' ct' cap' hI h3 h4 h5=>
          rw[k1]at hI;simp only[za,IE.row.injEq]at hI;obtain⟨rfl,_,rfl⟩:=hI;refine⟨_,?_,a4,a5,a6,by rw[k1];simp,_,_,by rw[hlen],by omega⟩
          rw[Ve,hlen];exact .some (by omega) (by omega) a2 a1 rfl
         | osl0 h3 _=>exact absurd rfl h3
         | oslv h3=>rw[k1]at h3;cases h3
         | oslp h3 _=>rw[k1]at h3;cases h3
        | vrow=>
         cases hrx with
         | osl hI _ _ _=>rw[k1]at hI;cases hI
         | osl0 h3 _=>exact absurd rfl h3
         | oslv h3=>exact⟨[],.nil,.nil,by simp,by simp,by rw[k1];simp,_,_,rfl,by simp⟩
         | oslp h3 _=>rw[k1]at h3;cases h3
       obtain⟨ys,hR,ha,hna,hwd,hnb,av,cap,hvxe,hcap⟩:=hrow;subst hvxe hlen
       by_cases h0:l2.length=0
       · have hl20:l2=[]:=KP.1 h0
         subst hl20;rw[z7]at he;have hs:=k4 l ie g (RepOB.row_any k2)
         rw[QU k1]at hs;refine QW k3 (jZ (qa5 S.tb hvx (by simpa using hvy) hE hcap fun hf=>?_))
         refine⟨V,_,Gh.refl hf,Sub.refl _,I,_,_,he,hs,hrx,?_⟩
         have:=IPf.moved (l':=l) (ie':=ie) (g:=j4 m) hn hnb
         rw[QU k1]at this;exact this
       · obtain⟨a2,rfl,hcell⟩:=n5.resolve_left h0
         refine jZ (qa6 S.tb hvx hvy hE hsm (S.ze _ _ hz) hzl (fun w hw=>hcell X w hw) n2 hone hR k3 (by omega) hmm fun v' Gr' hR' hf=>?_)
         obtain⟨b,ct,cap2,rfl,b1,b2,b3⟩:=qpy (V:=V) (I:=I) (l:=l++l2) hR' (by omega) (by simp) (by rw[Wf];exact ha.append n1)
          (fun q hq=>by rw[Wf,zS]at hq;exact hq.elim (hna q) (n3 q)) (fun q hq=>(zS.1 hq).elim (hwd q) (n4 q))
         have hs:=k4 (l++l2) (.row b p.2 ct) Gr' b3
         refine⟨V,_,Gh.refl hf,Sub.refl _,_,_,_,he,hs,?_,IPf.moved hn hnb⟩
         have:=RepS.osl (V:=V) (I:=I.set m (.row b p.2 ct)) (n:=m) (off:=0) (len:=(l++l2).length) (b:=b) (k:=p.2) (ct:=ct) (cap:=cap2) (by rw[Vj (zu.1 k1).1]) (by simp;omega) b2 ⟨by rw[zb];exact b1.1,by rw[zt];exact b1.2⟩
         rw[Ve,zb]at this;rw[zb];exact this
    · simp at he
  · simp at he
theorem qwr(S:Sound P E.T){x y:Operand}{ts:Array TypeId}{t:Nat}{sy:SV}(h:Pre true E V I st L G xs)(hx:qhi x=true)(hy:jm E st V I L y)(hsy:opd E st y=some sy)(hts:ts = #[t,t])
 (he:apN E st sy t k=some r):Opr P n X L V G ⟨ds,.call { callee:=.builtin .append,args:=#[x,y],argTypes:=ts },ty,pos,af,gd⟩ (jv true r k V I st L G):=by
 subst hts;have hvx:ev L x=some (.slice none 0 0):=by
  unfold qhi at hx;split at hx
  · rfl
  · simp at hx
 obtain⟨vy,hvy,hry⟩:=hy sy hsy;unfold apN at he;simp only[YQ]at he;replace he:=qf he;obtain⟨p,hp,he⟩:=he
 replace he:=qf he;obtain⟨z,hz,he⟩:=he
 have hE:=S.el t (p.1,p.2) hp
 cases hck:(E.T.sml p.1&&Nat.beq z.length p.2)with
 | false=>rw[hck]at he;simp at he
 | true=>
  rw[hck]at he;simp only[zg]at he;simp only[zp]at hck;have hsm:=S.sml _ hck.1;have hzl:=zd hck.2;replace he:=qf he;obtain⟨y',hy',he⟩:=he
  replace he:=qf he;obtain⟨l2,hl2,he⟩:=he
  obtain⟨a,c,news,rfl,n1,n2,n3,n4,n5⟩:=qkR h.mr hry hy' hl2;have hS:=h.full rfl;have hone:=Jt n1 n3;cases hck2:Nat.ble l2.length 549755813888 with
  | false=>rw[hck2]at he;simp at he
  | true=>
   rw[hck2]at he;simp only[zg]at he;have hmm:=zx hck2;by_cases h0:l2.length=0
   · have hl20:l2=[]:=KP.1 h0
     subst hl20;refine jZ (qa5 S.tb hvx (by simpa using hvy) hE (zI 0) fun hf=>?_)
     have hs:=hS.new (Is:=[.vrow]) (Hs:=[.row false p.1 p.2 []]) (g:=[]) (.cons (g:=[]) .vrow .nil)
     exact⟨V,_,Gh.refl hf,Sub.refl _,I++[.vrow],_,_,he,hs,.oslv (by rw[← hS.len];simp),IPf.app hS.len⟩
   · obtain⟨a2,rfl,hcell⟩:=n5.resolve_left h0
     refine jZ (qa6 S.tb hvx hvy hE hsm (S.ze _ _ hz) hzl (fun w hw=>hcell X w hw) n2 hone (RowC.nil (e:=p.1) (k:=p.2)) (zr _) (by omega) (by omega) fun v' Gr' hR' hf=>?_)
     obtain⟨b,ct,cap2,rfl,b1,b2,b3⟩:=qpy (V:=V) (I:=I) (l:=l2) hR' (by omega) (by simp) n1 n3 n4
     have hs:=hS.new (Is:=[.row b p.2 ct]) (Hs:=[.row false p.1 p.2 l2]) (g:=Gr') (by
      have:=GRel.cons (RepOB.row_any (I':=I++[.row b p.2 ct]) b3) (GRel.nil (V:=V) (I:=I++[.row b p.2 ct]))
      simpa using this)
     refine⟨V,_,Gh.refl hf,Sub.refl _,I++[.row b p.2 ct],_,_,he,hs,?_,IPf.app hS.len⟩
     have:=RepS.osl (V:=V) (I:=I++[.row b p.2 ct]) (n:=st.H.length) (off:=0) (len:=l2.length) (b:=b) (k:=p.2) (ct:=ct) (cap:=cap2) (by rw[← hS.len];simp) (by omega) b2 ⟨by have:=b1.1;omega,by have:=b1.2;omega⟩
     rw[Ve]at this;rw[zt];exact this
theorem qpz{V:qc}{z:T}{zv:List Value}(hz:RepA V z.cells zv)(p q:Nat)(hpq:p≤q):RepA V ((List.replicate p z).flatMap T.cells) ((madeCells zv.toArray (q*zv.length)).toList.take (p*zv.length)):=by
 have hw:∀x∈List.replicate p z,x.cells.length=zv.length:=fun x hx=>by rw[(Vc.1 hx).2];exact hz.length
 have gen:∀(l:List T) (vs:List Value),l.length=vs.length→(∀(i:Nat) (x:T) (v:Value),l[i]?=some x→vs[i]?=some v→Rep V x v)→RepA V l vs:=by
  intro l;induction l with
  | nil=>intro vs h _;cases vs with|nil=>exact .nil|cons _ _=>simp at h
  | cons x l ih=>
   intro vs h hr;cases vs with
   | nil=>simp at h
   | cons v vs=>exact .cons (hr 0 x v rfl rfl) (ih vs (by simpa using h) fun i y u hy hu=>hr (i+1) y u (by simpa using hy) (by simpa using hu))
 have hle:p*zv.length≤q*zv.length:=zG _ hpq
 refine gen _ _ ?_ fun i x v hi hv=>?_
 · rw[QT hw];simp[size_madeCells,Vg hle]
 · by_cases hk:zv.length=0
   · have:zv=[]:=KP.1 hk
     subst this;simp at hv
   · have hk':0<zv.length:=by omega
     have hlt:i<p*zv.length:=by
      have:=(zu.1 hi).1
      rwa [QT hw,WO]at this
     have hd:i / zv.length<p:=Wa (by rw[zL];exact hlt)
     have hm:i % zv.length<zv.length:=Vd _ hk'
     have he:i / zv.length*zv.length+i % zv.length=i:=by rw[zL];exact Vb _ _
     have h1:=qph (l:=List.replicate p z) (k:=zv.length) (i:=i / zv.length) (x:=z) hw (by rw[K9,z6 hd]) (i % zv.length) hm
     rw[he]at h1;rw[h1]at hi;obtain⟨u,hu,hru⟩:=hz.get hi;have h2:v=u:=by
      rw[zZ,z6 hlt]at hv;have:(madeCells zv.toArray (q*zv.length)).toList[i]?=zv[i % zv.length]?:=by
       rw[Wp];simp only[madeCells,Array.getElem?_map,Array.getElem?_range,show i<q*zv.length by omega,VG,VQ,Ky];rw[zA hm];simp[hm]
      rw[this,hu]at hv;simpa using hv.symm
     rw[h2];exact hru
theorem qpA(T:Tabs P){t e k m cap b off:Nat}{ob:TypeId}{x:Operand}{zv cur r:List Value}{ts:Array TypeId}{G':Own}(hx:ev L x=some (.slice (some ⟨b,off,none⟩) m cap))(ht:ts[0]?=some t)(hm:m≠0)(hE:T.el t=some (e,k))(hz:T.ze e=some zv)
 (h1:∀u∈(madeCells zv.toArray (m*zv.length)).toList,u.oneCell'=true) (hu:Upd G b (.cells cur.toArray ob (0,0)) (.cells r.toArray ob (0,0)) G') (hp:Qh cur off (madeCells zv.toArray (m*zv.length)).toList=some r) (k':Q (.tuple #[]) V G') :
 Opr P n X L V G ⟨ds,.call { callee:=.builtin .clear,args:=#[x],argTypes:=ts },ty,pos,af,gd⟩ Q:=fun a ha w hw=>by
 obtain⟨hu',_⟩:=yZ (T.el_ok _ _ hE)
 obtain⟨z,hz1,hz2⟩:=qd1 (T.ze_ok _ _ hz) w
 have hg:=hw.own _ hu.has.mem;have hs:=qoG (P:=P) (w:=w) hg hp h1
 have e:Builtin.zeroCells zv.toArray m=madeCells zv.toArray (m*zv.length):=by simp[Builtin.zeroCells,madeCells]
 obtain⟨m',rfl⟩:∃m',m=m'+1:=⟨m-1,by omega⟩
 refine .inl ⟨_,_,V,G',.inl ?_,k',hw.upd hu⟩
 simp[execOp,resolve,invoke,builtin,Builtin.clear_,ht,ha.ev hx,Fly.run_underlying hu',hz1,hz2,e,hs]
theorem qnL(T:Tabs P){t e k cap:Nat}{x:Operand}{a:Option Addr}{ts:Array TypeId}(hx:ev L x=some (.slice a 0 cap))(ht:ts[0]?=some t)(hE:T.el t=some (e,k))(k':Q (.tuple #[]) V G) :
 Opr P n X L V G ⟨ds,.call { callee:=.builtin .clear,args:=#[x],argTypes:=ts },ty,pos,af,gd⟩ Q:=by
 obtain⟨hu,_⟩:=yZ (T.el_ok _ _ hE)
 refine qP (fun a' w ha=>?_) k'
 cases a <;> simp[execOp,resolve,invoke,builtin,Builtin.clear_,ht,ha.ev hx,Fly.run_underlying hu]
theorem qpB{V:qc}{E:Env}{zv:List Value}{z:T}{e:Nat}(hc:zv.all qct=true)(hzv:E.T.ze e=some zv)(hz:qcY E e=some z):RepA V z.cells zv∧∀x∈z.cells,x.isAgg=false:=by
 unfold qcY at hz;replace hz:=qf hz;obtain⟨q,hq,hz⟩:=hz
 rw[hzv]at hz;simp only[zm]at hz;obtain⟨z1,z2⟩:=qas (V:=V) (hs:=E.T.zs e) hc
 have hcells:z.cells=zCs zv (E.T.zs e):=by
  cases hg:q.1 with
  | true=>rw[hg]at hz;simp at hz;subst hz;rfl
  | false=>
   rw[hg]at hz;simp only[zo]at hz;split at hz
   · rename_i w hw
     simp at hz;subst hz;have:w.isAgg=false:=z2 w (by rw[hw];simp)
     rw[hw];cases w <;> first|rfl|(simp[T.isAgg]at this)
   · simp at hz
 rw[hcells];exact⟨z1,z2⟩
theorem qws(S:Sound P E.T){x:Operand}{ts:Array TypeId}{t:Nat}{sv:SV}(h:Pre true E V I st L G xs)(hx:jm E st V I L x)(hsv:opd E st x=some sv)(ht:ts[0]?=some t)(he:clO E st sv t (fun st'=>k (.tup []) st')=some r) :
 Opr P n X L V G ⟨ds,.call { callee:=.builtin .clear,args:=#[x],argTypes:=ts },ty,pos,af,gd⟩ (jv true r k V I st L G):=by
 obtain⟨v,hv,hr⟩:=hx sv hsv;unfold clO at he;split at he
 · rename_i m off len
   replace he:=qf he;obtain⟨p,hp,he⟩:=he
   replace he:=qf he;obtain⟨z,hz,he⟩:=he
   split at he
   · rename_i fx e w l hn
     cases hck:(Nat.beq w p.2&&Nat.beq z.cells.length w&&Nat.ble (off+len) l.length)with
     | false=>rw[hck]at he;simp at he
     | true=>
      rw[hck]at he;simp only[zg]at he;simp only[zp]at hck;obtain⟨⟨hw,hzw⟩,hle⟩:=hck;have hw:=zd hw;have hzw:=zd hzw;have hle:=zx hle;have hE:=S.el t (p.1,p.2) hp
      obtain⟨zv,hzv⟩:∃zv,E.T.ze p.1=some zv:=by
       unfold qcY at hz;replace hz:=qf hz;obtain⟨q,hq,hz⟩:=hz
       replace hz:=qf hz;obtain⟨zv,hzv,hz⟩:=hz
       exact⟨zv,hzv⟩
      obtain⟨z1,z2⟩:=qpB (V:=V) (S.zc _ _ hzv) hzv hz
      have hzl:zv.length=w:=by rw[← z1.length];exact hzw
      have hS:=h.full rfl;obtain⟨ie,g,G2,k1,k2,k3,k4⟩:=hS.turn hn;have rep_len:∀ {q:T},q∈List.replicate len z→q.cells.length=w:=fun hq=>by rw[(Vc.1 hq).2];exact hzw
      by_cases h0:len=0
      · have same:l.take off++(List.replicate len z++l.drop (off+len))=l:=by subst h0;simp
        rw[same]at he;have hset:({ st with H:=st.H.set m (OB.row fx e w l) }:St)=st:=by rw[QU hn]
        rw[hset]at he;have hk:k (.tup []) st=some r:=he
        have:∃a cap,v = .slice a 0 cap:=by
         cases hr with
         | osl _ _ _ _=>exact⟨_,_,by rw[h0]⟩
         | osl0 _ _=>exact⟨_,_,rfl⟩
         | oslv _=>exact⟨_,_,rfl⟩
         | oslp _ _=>exact⟨_,_,by rw[h0]⟩
        obtain⟨a,cap,rfl⟩:=this;exact qnL S.tb hv ht hE (h.post hk (.tup .nil))
      · cases hr with
        | osl0 _ _=>exact absurd rfl h0
        | oslv _=>exact absurd rfl h0
        | oslp hI _=>cases k2 <;> (rw[hI]at k1;cases k1)
        | @osl _ _ _ b kk ct cap hI q1 q2 q3=>
         cases k2 with
         | vrow=>rw[hI]at k1;cases k1
         | @row _ _ _ b' ct' _ cur a1 a2 a3 a4 a5 a6=>
          rw[hI]at k1;simp only[za,IE.row.injEq]at k1;obtain⟨rfl,rfl,rfl⟩:=k1;have hm:=qpz z1 len len (zI _)
          have hml:(madeCells zv.toArray (len*zv.length)).toList.length=len*kk:=by rw[Ks,size_madeCells,hzl]
          rw[zP (by rw[Ks,size_madeCells];omega)]at hm;have hna:∀y∈(List.replicate len z).flatMap T.cells,y.isAgg=false:=fun y hy=>by
           obtain⟨u,hu,hy⟩:=KU.1 hy;rw[(Vc.1 hu).2]at hy;exact z2 y hy
          have hlk:(off+len)*kk≤l.length*kk:=zG _ hle
          have hadd:(off+len)*kk=off*kk+len*kk:=zR ..
          have hlc:l.length*kk≤cur.size:=by rw[a1];exact zG _ a3
          have hput:=qg9 cur.toList (off*kk) (madeCells zv.toArray (len*zv.length)).toList (by rw[hml,Ks];omega)
          rw[hml,← hadd]at hput;have hA:(cur.toList.take (off*kk)).length=off*kk:=by rw[Ka,Ks];omega
          have hval:(cur.toList.take (off*kk)++(madeCells zv.toArray (len*zv.length)).toList++cur.toList.drop ((off+len)*kk)).take (l.length*kk)=cur.toList.take (off*kk)++((madeCells zv.toArray (len*zv.length)).toList++(cur.toList.drop ((off+len)*kk)).take (l.length*kk-(off+len)*kk)):=by
           have gen:∀(A B C:List Value) (q:Nat),A.length≤q→B.length≤q-A.length→(A++B++C).take q=A++(B++C.take (q-A.length-B.length)):=fun A B C q h1 h2=>by
            rw[zw,List.take_append,zP h1,List.take_append,zP h2]
           rw[gen _ _ _ _ (by rw[hA];omega) (by rw[hA,hml];omega),hA,hml,show l.length*kk-off*kk-len*kk=l.length*kk-(off+len)*kk by omega]
          refine QW k3 (jZ (qpA S.tb hv ht h0 hE (S.ze _ _ hzv) (Jt hm hna) (by rw[← Vq (xs:=cur)];exact .here) hput fun hf=>?_))
          have hl':(l.take off++(List.replicate len z++l.drop (off+len))).length=l.length:=by simp;omega
          have hs:=k4 (.row fx e kk (l.take off++(List.replicate len z++l.drop (off+len)))) [(b,.cells (cur.toList.take (off*kk)++(madeCells zv.toArray (len*zv.length)).toList++cur.toList.drop ((off+len)*kk)).toArray e (0,0))] (.row
           (by rw[Ky,zb,zb,hA,hml,KA,Ks];omega) a2 (by rw[hl'];exact a3)
           (by
             rw[hl',Wf,Wf,JS off a6,yY (off+len) a6];show RepA V _ ((cur.toList.take (off*kk)++(madeCells zv.toArray (len*zv.length)).toList++cur.toList.drop ((off+len)*kk)).take (l.length*kk))
             rw[hval];have p1:RepA V ((l.flatMap T.cells).take (off*kk)) (cur.toList.take (off*kk)):=by
              have:=a4.take (off*kk)
              rwa [List.take_take,Vg (by omega)]at this
             have p3:RepA V ((l.flatMap T.cells).drop ((off+len)*kk)) ((cur.toList.drop ((off+len)*kk)).take (l.length*kk-(off+len)*kk)):=by
              have:=a4.drop ((off+len)*kk)
              rwa [List.drop_take]at this
             exact p1.append (hm.append p3))
           (fun q hq=>by
             rw[Wf,Wf,JS off a6,yY (off+len) a6]at hq;rcases zS.1 hq with hq|hq
             · exact a5 q (V8 hq)
             · rcases zS.1 hq with hq|hq
               · exact hna q hq
               · exact a5 q (KY hq))
           (fun q hq=>by
             rcases zS.1 hq with hq|hq
             · exact a6 q (V8 hq)
             · rcases zS.1 hq with hq|hq
               · exact rep_len hq
               · exact a6 q (KY hq)))
          exact⟨V,_,Gh.refl hf,Sub.refl _,I,_,_,he,hs,.tup .nil,IPf.setrow hn⟩
   · simp at he
 · simp at he
theorem qpC(T:Tabs P){Q:Value→qc→Own→Prop}{t e k:Nat}{x y:Operand}{z:List Value}{κ κ':IntKind}{p q:Int}(hx:ev L x=some (.int κ p))(hy:ev L y=some (.int κ' q))(hE:T.el t=some (e,k))(hz:T.ze e=some z)(h0:0≤p)(h1:p≤q)(h2:q≤549755813888)(hb:P.bytesOf e≤256)
 (k':∀b,V b=none→Q (.slice (some ⟨b,0,none⟩) p.toNat q.toNat) (addV V b (.cells (madeCells z.toArray (q.toNat*k)) e (0,0))) G):Opr P n X L V G ⟨ds,.makeSlice t x y,ty,pos,af,gd⟩ Q:=fun a ha w hw=>by
 obtain⟨hu,g,hT⟩:=yZ (T.el_ok _ _ hE)
 have hze:=T.ze_ok _ _ hz;unfold Ze at hze;split at hze
 · rename_i i hi
   cases hz0:i.zero with
   | none=>simp[hz0]at hze
   | some zv=>
    simp only[hz0,VQ,za]at hze;have hsz:i.size=k:=by
     have:=(jK hT w).2.2
     simpa[hi]using this
    have hby:i.bytes≤256:=by simpa[Program.bytesOf,hi]using hb
    have hmul:(i.bytes:Int)*q≤281474976710656:=by
     have h3:(i.bytes:Int)*q≤256*q:=Int.mul_le_mul_of_nonneg_right (by omega) (by omega)
     omega
    have hr:=run_make (P:=P) w t e i zv hu hi hz0 κ κ' p q h0 h1 hmul (by omega)
    have hc:zv.cells=z.toArray:=by rw[← Vq (xs:=zv.cells),hze]
    rw[hsz,hc]at hr;refine .inl ⟨_,_,addV V w.heap.size (.cells (madeCells z.toArray (q.toNat*k)) e (0,0)),G,.inl ?_,k' w.heap.size ?_,(hw.alloc (.cells (madeCells z.toArray (q.toNat*k)) e)).freeze⟩
    · simp only[execOp,ha.ev hx,ha.ev hy,Sem.run_bind,hr,Result.andThen]
      rfl
    · cases h:V w.heap.size with
      | none=>rfl
      | some o=>exact absurd (hw.vlt (r:=w.heap.size) (by simp[h])) (by omega)
 · cases hze
theorem qto{x y:T}{v:Value}{V:qc}(h:okZ x y=true)(hr:Rep V y v):Rep V x v∧x.isAgg=false:=by
 unfold okZ at h;split at h
 · have:=eq_of_beq h;subst this;exact⟨hr,rfl⟩
 · have:=KM h;subst this;exact⟨hr,rfl⟩
 · have:=KM h;subst this;exact⟨hr,rfl⟩
 · have:=zd h;subst this;exact⟨.ql hr,rfl⟩
 · cases h
theorem qiU{V:qc}:∀ {l m:List T} {vs:List Value},qoY l m=true→RepA V m vs→RepA V l vs∧∀y∈l,y.isAgg=false
 | [],[],_,_,hr=>⟨hr,fun _ h=>by cases h⟩
 | x::l,y::m,_,h,.cons hr hr'=>by
  rw[qoY,zp]at h;obtain⟨a,b⟩:=qto h.1 hr;obtain⟨c,d⟩:=qiU h.2 hr';exact⟨.cons a c,fun z hz=>by
   rcases zK.1 hz with rfl|hz
   · exact b
   · exact d z hz⟩
 | [],_::_,_,h,_=>by cases h
 | _::_,[],_,h,_=>by cases h
theorem qym(S:Sound P E.T){t:Nat}{x y:Operand}(h:Pre fr E V I st L G xs)(hx:jm E st V I L x)(hy:jm E st V I L y)(he:qho E fr st t x y k=some r):Opr P n X L V G ⟨ds,.makeSlice t x y,ty,pos,af,gd⟩ (jv fr r k V I st L G):=by
 unfold qho at he;replace he:=qf he;obtain⟨sx,hsx,he⟩:=he
 replace he:=qf he;obtain⟨sy,hsy,he⟩:=he
 obtain⟨vx,hvx,hrx⟩:=hx sx hsx;obtain⟨vy,hvy,hry⟩:=hy sy hsy;cases fr with
 | false=>
  simp only[zo]at he;unfold mkF at he;replace he:=qf he;obtain⟨p,hp,he⟩:=he
  replace he:=qf he;obtain⟨a,ha,he⟩:=he
  replace he:=qf he;obtain⟨b,hb,he⟩:=he
  obtain⟨κ,rfl⟩:=YI ha;obtain⟨κ',rfl⟩:=YI hb;have:=jY hrx;subst this
  have:=jY hry;subst this
  cases hck:(E.T.sml p.1&&decide (0≤a)&&decide (a≤b)&&decide (b≤549755813888))with
  | false=>rw[hck]at he;simp at he
  | true=>
   rw[hck]at he;simp only[zg]at he;simp only[zp,zY]at hck;obtain⟨⟨⟨c1,c2⟩,c3⟩,c4⟩:=hck;replace he:=qf he;obtain⟨z,hz,he⟩:=he
   unfold qcY at hz;replace hz:=qf hz;obtain⟨q,hq,hz⟩:=hz
   replace hz:=qf hz;obtain⟨zv,hzv,hz⟩:=hz
   have hE:=S.el t (p.1,p.2) hp
   obtain⟨z1,z2⟩:=qas (V:=V) (hs:=E.T.zs p.1) (S.zc _ _ hzv)
   have hcells:z.cells=zCs zv (E.T.zs p.1):=by
    cases hg:q.1 with
    | true=>rw[hg]at hz;simp at hz;subst hz;rfl
    | false=>
     rw[hg]at hz;simp only[zo]at hz;split at hz
     · rename_i w hw
       simp at hz;subst hz;have:w.isAgg=false:=z2 w (by rw[hw];simp)
       rw[hw];cases w <;> first|rfl|(simp[T.isAgg]at this)
     · simp at hz
   have hzr:RepA V z.cells zv:=by rw[hcells];exact z1
   cases hzw:Nat.beq z.cells.length p.2 with
   | false=>rw[hzw]at he;simp at he
   | true=>
   rw[hzw]at he;simp only[zg]at he;have hzl:zv.length=p.2:=by rw[← hzr.length];exact zd hzw
   refine qpC S.tb hvx hvy hE (S.ze _ _ hzv) c2 c3 c4 (S.sml _ c1) fun bb hb=>?_
   have fin:∀(z':T),RepA V z'.cells zv→(∀y∈z'.cells,y.isAgg=false)→Rep (addV V bb (.cells (madeCells zv.toArray (b.toNat*p.2)) p.1 (0,0))) (.sl p.2 (List.replicate a.toNat z')) (.slice (some ⟨bb,0,none⟩) a.toNat b.toNat):=by
    intro z' hz' hna;have hm:=qpz hz' a.toNat b.toNat (by omega)
    rw[hzl]at hm;have:=Rep.sl (V:=addV V bb (.cells (madeCells zv.toArray (b.toNat*p.2)) p.1 (0,0))) (k:=p.2) (l:=List.replicate a.toNat z') (vs:=(madeCells zv.toArray (b.toNat*p.2)).toList.take (a.toNat*p.2)) (a:=some ⟨bb,0,none⟩) (cap:=b.toNat) (hm.mono (Sub.addV hb))
     (fun y hy=>by obtain⟨w,hw,hy⟩:=KU.1 hy;rw[(Vc.1 hw).2]at hy;exact hna y hy)
     (fun y hy=>by rw[(Vc.1 hy).2,hz'.length,hzl]) (by simp;omega) (by unfold maxLen;omega)
     (.inr ⟨bb,0,rfl,fun j c hj=>⟨_,_,_,addV_same _ _ _,by
       rw[zZ]at hj;split at hj
       · simpa using hj
       · cases hj⟩⟩)
    rwa [WO]at this
   split at he
   · refine⟨Sub.addV hb,rfl,_,he,?_⟩
     exact .t (fin z hzr (fun y hy=>by rw[hcells]at hy;exact z2 y hy))
   · rename_i u hu
     replace he:=qf he;obtain⟨z0,hz0,he⟩:=he
     cases hok:qoY (view u z0).cells z.cells with
     | false=>rw[hok]at he;simp at he
     | true=>
      rw[hok,zg]at he;refine⟨Sub.addV hb,rfl,_,he,?_⟩
      have h1:=qiU hok hzr;have:=fin (view u z0) h1.1 h1.2
      exact .t (.ql (by rw[VX];exact this))
 | true=>
  have hS:=h.full rfl;simp only[zg]at he;unfold mkO at he;replace he:=qf he;obtain⟨p,hp,he⟩:=he
  replace he:=qf he;obtain⟨a,ha,he⟩:=he
  replace he:=qf he;obtain⟨b,hb,he⟩:=he
  obtain⟨κ,rfl⟩:=YI ha;obtain⟨κ',rfl⟩:=YI hb;have:=jY hrx;subst this
  have:=jY hry;subst this
  cases hck:(E.T.sml p.1&&decide (0≤a)&&decide (a≤b)&&decide (b≤549755813888))with
  | false=>rw[hck]at he;simp at he
  | true=>
   rw[hck]at he;simp only[zg]at he;simp only[zp,zY]at hck;obtain⟨⟨⟨c1,c2⟩,c3⟩,c4⟩:=hck;replace he:=qf he;obtain⟨z,hz,he⟩:=he
   unfold qcY at hz;replace hz:=qf hz;obtain⟨q,hq,hz⟩:=hz
   replace hz:=qf hz;obtain⟨zv,hzv,hz⟩:=hz
   have hE:=S.el t (p.1,p.2) hp
   obtain⟨z1,z2⟩:=qas (V:=V) (hs:=E.T.zs p.1) (S.zc _ _ hzv)
   have hcells:z.cells=zCs zv (E.T.zs p.1):=by
    cases hg:q.1 with
    | true=>rw[hg]at hz;simp at hz;subst hz;rfl
    | false=>
     rw[hg]at hz;simp only[zo]at hz;split at hz
     · rename_i w hw
       simp at hz;subst hz;have:w.isAgg=false:=z2 w (by rw[hw];simp)
       rw[hw];cases w <;> first|rfl|(simp[T.isAgg]at this)
     · simp at hz
   have hzr:RepA V z.cells zv:=by rw[hcells];exact z1
   cases hzw:Nat.beq z.cells.length p.2 with
   | false=>rw[hzw]at he;simp at he
   | true=>
   rw[hzw]at he;simp only[zg]at he;have hzl:zv.length=p.2:=by rw[← hzr.length];exact zd hzw
   refine jZ (qpl S.tb hvx hvy hE (S.ze _ _ hzv) c2 c3 c4 (S.sml _ c1) fun bb hf=>?_)
   have hm:=qpz hzr a.toNat b.toNat (by omega)
   rw[hzl]at hm;have hs:=hS.new (Is:=[.row bb p.2 b.toNat]) (Hs:=[.row false p.1 p.2 (List.replicate a.toNat z)]) (g:=[(bb,.cells (madeCells zv.toArray (b.toNat*p.2)) p.1 (0,0))])
    (.cons (g:=[(bb,.cells (madeCells zv.toArray (b.toNat*p.2)) p.1 (0,0))]) (G:=[]) (.row (by simp[size_madeCells]) (by unfold maxLen;omega) (by simp;omega) (by simpa using hm)
      (fun y hy=>by obtain⟨w,hw,hy⟩:=KU.1 hy;rw[(Vc.1 hw).2,hcells]at hy;exact z2 y hy)
      (fun y hy=>by rw[(Vc.1 hy).2,hzr.length,hzl])) .nil)
   refine⟨V,_,Gh.refl hf,Sub.refl _,I++[.row bb p.2 b.toNat],_,_,he,hs,?_,IPf.app hS.len⟩
   have:=RepS.osl (V:=V) (I:=I++[.row bb p.2 b.toNat]) (n:=st.H.length) (off:=0) (len:=a.toNat) (b:=bb) (k:=p.2) (ct:=b.toNat) (cap:=b.toNat) (by rw[← hS.len];simp) (by omega) (by unfold maxLen;omega) ⟨by omega,by omega⟩
   rw[Ve]at this;exact this
end
end Su
end
section
namespace Su
open Go Fly
def YJ:List Value→Value
 | [v]=>v
 | l=>.tuple l.toArray
def J5(P:Program)(T:Tbl)(S:Sound P T)(ev:Zy):Prop :=
 ∀(O:Type) f args H (k:List SV→List OB→Option O) (y:O),ev O f args H k=some y→S.tb.go f=true∧∀V I G vs,GOK T V→GR V I H G→RepSs V I args vs →
  jk P f vs.toArray V G fun v V' G'=>∃rs H',k rs H'=some y∧∃I' rvs,GR V' I' H' G'∧RepSs V' I' rs rvs∧v=YJ rvs∧IPf H I H' I'
def qav(P:Program)(T:Tbl)(S:Sound P T)(f:Nat)(p:PrimD):Prop :=
 S.tb.go f=true∧match p.own with
  | none=>(∀xs y,p.g xs=some y→∀V vs,GOK T V→RepA V xs vs→jk P f vs.toArray V [] fun v V' _=>∃rvs,RepA V' (p.enc y) rvs∧v=YJ rvs) ∧
   ∀j,p.fresh=some j→∀xs y,p.g xs=some y→∀V vs,GOK T V→RepA V xs vs→jk P f vs.toArray V [] fun v V' G'=>∀w l,p.enc y=[.sl w l]→w=j.2→∃ie,RepOB V' [ie] (.row false j.1 j.2 l) ie G'∧RepS V' [ie] (.osl 0 0 l.length) v
  | some j=>(∀xs y,p.gT xs=some y→∀V vs,GOK T V→RepA V xs vs→jk P f vs.toArray V [] fun v V' _=>∃rvs,RepA V' (p.enc y) rvs∧v=YJ rvs)∧∀xs y,p.g xs=some y→∀svs os,qhl j xs=some (svs,os)→∀V I G vs,GOK T V→jQ V G→GR V I os G→RepSs V I svs vs→jk P f vs.toArray V G fun v V' _=>∃rvs,RepA V' (p.enc y) rvs∧v=YJ rvs
def JC(P:Program)(T:Tbl)(S:Sound P T)(pr:Nat→Option PrimD):Prop:=∀f p,pr f=some p→qav P T S f p
def qbO(P:Program)(E:Env)(S:Sound P E.T):Prop:=J5 P E.T S E.call∧JC P E.T S E.prim
theorem YW{P:Program}{n:Nat}{X:Cx}{L:Lo}{V:qc}{G:Own}{o:Oper}{Q:Value→qc→Own→Prop}
 (h:Opr P n X L V G o fun v V' G'=>∃V'' G'',(∀w,Holds X V' G' w→Holds X V'' G'' w)∧(jQ V'' G''→Q v V'' G'')):Opr P n X L V G o Q:=by
 intro a ha w hw;rcases h a ha w hw with⟨v,w',V2,G2,h1,⟨V3,G3,h2,h3⟩,h4⟩|⟨f,args,w',h1,h2⟩
 · have:=h2 w' h4
   exact .inl ⟨v,w',V3,G3,h1,h3 (jQ.cons this),this⟩
 · refine .inr ⟨f,args,w',h1,h2.mono ?_⟩
   rintro e w'' ⟨v,V2,G2,he,⟨V3,G3,h3,h4⟩,h5⟩
   have:=h3 w'' h5
   exact⟨v,V3,G3,he,h4 (jQ.cons this),this⟩
theorem QJ{V:qc}{I:List IE}{l:List SV}{vs:List Value}(h:RepSs V I l vs):RepS V I (yO l) (YJ vs):=by
 cases h with
 | nil=>exact .tup .nil
 | cons h h'=>
  cases h' with
  | nil=>exact h
  | cons k k'=>exact .tup (.cons h (.cons k k'))
theorem SR.mono{V V':qc}{I:List IE}{st:St}{L:Lo}{G:Own}(h:SR V I st L G)(hs:Sub V V'):SR V' I st L G:=by
 obtain⟨G0,h1,h2⟩:=h.mem;refine⟨⟨G0,h1.mono hs (Ile.refl _),h2⟩,fun d sv hd hb=>?_⟩
 obtain⟨v,hv,hr⟩:=h.slot d sv hd hb;exact⟨v,hv,hr.mono hs (Ile.refl _)⟩
theorem RepSs.split{V:qc}{I:List IE}:∀ {l l':List SV} {vs:List Value},RepSs V I (l++l') vs→∃v1 v2,vs=v1++v2∧RepSs V I l v1∧RepSs V I l' v2
 | [],l',vs,h=>⟨[],vs,rfl,.nil,h⟩
 | x::l,l',_,.cons h h'=>by
  obtain⟨v1,v2,e,h1,h2⟩:=RepSs.split h';exact⟨_::v1,v2,by rw[e];rfl,.cons h h1,h2⟩
noncomputable def J6(V:qc)(G:Own):qc:=fun r=>match lkG G r with
 | some o=>some o
 | none=>V r
theorem qbP{α:Type}:∀ {G:List (Nat×α)} {b:Nat} {o:α},lkG G b=some o→(b,o)∈G
 | [],_,_,h=>by simp at h
 | (k,o')::G,b,o,h=>by
  rw[yM]at h;cases hb:Nat.beq k b with
  | true=>rw[hb]at h;simp at h;subst h;rw[zd hb];exact zM ..
  | false=>rw[hb]at h;exact zE _ (qbP h)
theorem qnM{V:qc}{G:Own}(hf:jQ V G){b:Nat}{o:Obj}(h:(b,o)∈G):J6 V G b=some o:=by
 unfold J6;cases hl:lkG G b with
 | none=>
  exfalso;have:∀ {G:Own},(b,o)∈G→lkG G b≠none:=by
   intro G h;induction G with
   | nil=>cases h
   | cons p G ih=>
    obtain⟨k,o'⟩:=p;rw[yM];cases hb:Nat.beq k b with
    | true=>simp
    | false=>
     rcases zK.1 h with e|h
     · simp only[Km]at e;rw[e.1,Vk]at hb;cases hb
     · exact ih h
  exact this h hl
 | some o'=>simp only[];rw[hf.uniq (qbP hl) h]
theorem YX{V:qc}{G:Own}(hf:jQ V G):Sub V (J6 V G):=by
 intro r o hr;unfold J6;cases hl:lkG G r with
 | none=>exact hr
 | some o'=>have:=hf.1 _ (qbP hl);simp only[]at this;rw[this]at hr;cases hr
theorem qkS{X:Cx}{V:qc}{G:Own}{w:World}(h:Holds X V G w):qaS (J6 V G) w:=by
 intro r o hr;unfold J6 at hr;cases hl:lkG G r with
 | none=>rw[hl]at hr;exact h.view r o hr
 | some o'=>rw[hl]at hr;simp at hr;subst hr;exact h.own _ (qbP hl)
theorem ql1{V:qc}{I:List IE}{H:List OB}{G:Own}(hf:jQ V G)(hM:MR V I H G){sv:SV}{v:Value}{x:T}(hr:RepS V I sv v)(hs:qit H sv=some x):Rep (J6 V G) x v:=by
 unfold qit at hs;split at hs
 · simp only[za]at hs;subst hs
   cases hr with|t hr=>exact hr.mono (YX hf)
 · rename_i m off len
   split at hs
   · rename_i fx e w l hn
     replace hs:=qf hs;obtain⟨q,hq,hs⟩:=hs
     simp only[za]at hs;subst hs;have empty:len=0→∀a cap,cap≤maxLen→Rep (J6 V G) (.sl w q) (.slice a 0 cap):=by
      intro h0 a cap hc;have:q=[]:=by rw[(ZU hq).1,h0];simp
      subst this;exact .sl (l:=[]) (vs:=[]) .nil (by simp) (by simp) (by simp) hc (.inl rfl)
     rcases hM.row hn with⟨b,ct,cur,a1,a2,a3,a4,a5,a6,a7,a8⟩|⟨a1,rfl⟩
     · cases hr with
       | @osl _ _ _ b' k' ct' cap' hI h3 h4 h5=>
        rw[a1]at hI;simp only[za,IE.row.injEq]at hI;obtain⟨rfl,rfl,rfl⟩:=hI;exact qlW (qnM hf a2.mem) a4 a5 (a6.mono (YX hf)) a7 a8 hq h5
       | osl0 h3 h4=>exact empty rfl _ _ h4
       | oslv h3=>exact empty rfl _ _ (by simp[maxLen])
       | oslp h3 _=>rw[a1]at h3;cases h3
     · cases hr with
       | osl hI _ _ _=>rw[a1]at hI;cases hI
       | osl0 h3 h4=>exact empty rfl _ _ h4
       | oslv h3=>exact empty rfl _ _ (by simp[maxLen])
       | oslp h3 _=>rw[a1]at h3;cases h3
   · simp at hs
 · simp at hs
theorem qgg{V:qc}{I:List IE}{H:List OB}{G:Own}(hf:jQ V G)(hM:MR V I H G):∀ {l:List SV} {vs:List Value} {xs:List T},RepSs V I l vs→qaY H l=some xs→RepA (J6 V G) xs vs
 | _,_,xs,.nil,e=>by simp only[qaY,za]at e;subst e;exact .nil
 | x::l,_,xs,.cons h h',e=>by
  simp only[qaY]at e;replace e:=qf e;obtain⟨a,ha,e⟩:=e
  replace e:=qf e;obtain⟨b,hb,e⟩:=e
  simp only[za]at e;subst e;exact .cons (ql1 hf hM h ha) (qgg hf hM h' hb)
theorem qpD{V:qc}{I:List IE}{H:List OB}{G:Own}(hf:jQ V G)(hM:MR V I H G){sv:SV}{v:Value}{x:T}(hr:RepS V I sv v)(hs:qiu H sv=some x):Rep (J6 V G) x v:=by
 unfold qiu at hs;split at hs
 · replace hs:=qf hs;obtain⟨ts,hts,hs⟩:=hs
   cases hn:qfA ts with
   | false=>rw[hn]at hs;simp at hs
   | true=>
    rw[hn]at hs;simp only[zg,za]at hs;subst hs;cases hr with|st hr=>exact .agg (qgg hf hM hr hts) (qhz hn)
 · exact ql1 hf hM hr hs
theorem qbQ{V:qc}{I:List IE}{H:List OB}{G:Own}(hf:jQ V G)(hM:MR V I H G):∀ {l:List SV} {vs:List Value} {xs:List T},RepSs V I l vs→qbu H l=some xs→RepA (J6 V G) xs vs
 | _,_,xs,.nil,e=>by simp only[qbu,za]at e;subst e;exact .nil
 | x::l,_,xs,.cons h h',e=>by
  simp only[qbu]at e;replace e:=qf e;obtain⟨a,ha,e⟩:=e
  replace e:=qf e;obtain⟨b,hb,e⟩:=e
  simp only[za]at e;subst e;exact .cons (qpD hf hM h ha) (qbQ hf hM h' hb)
theorem qwt{V V':qc}{x:T}{v:Value}(h:Rep V x v)(hs:scT x=true):Rep V' x v:=by
 have one:∀ {y:T} {u:Value},Rep V y u→sc1 y=true→Rep V' y u:=by
  intro y u hy hs;cases hy with
  | s h=>exact .s h
  | agg _ _=>simp[sc1]at hs
  | sl _ _ _ _ _ _=>simp[sc1]at hs
  | ql _=>simp[sc1]at hs
  | pt _ _ _=>simp[sc1]at hs
  | fn _ _=>simp[sc1]at hs
 cases h with
 | s h=>exact .s h
 | agg h hc=>
  refine .agg ?_ hc
  simp only[scT]at hs;clear hc;rename_i l vs;induction l generalizing vs with
  | nil=>cases h;exact .nil
  | cons y l ih=>
   simp only[WH,zp]at hs;cases h with|cons h h'=>exact .cons (one h hs.1) (ih h' hs.2)
 | sl _ _ _ _ _ _=>simp[scT,sc1]at hs
 | ql _=>simp[scT,sc1]at hs
 | pt _ _ _=>simp[scT,sc1]at hs
 | fn _ _=>simp[scT,sc1]at hs
theorem qdD{V V':qc}:∀ {l:List T} {vs:List Value},RepA V l vs→l.all scT=true→RepA V' l vs
 | _,_,.nil,_=>.nil
 | _,_,.cons h h',hs=>by
  simp only[WH,zp]at hs;exact .cons (qwt h hs.1) (qdD h' hs.2)
section
variable {fr:Bool} {P:Program} {E:Env} {n:Nat} {X:Cx} {L:Lo} {V:qc} {I:List IE} {G:Own} {st:St} {O:Type} {r:O} {k:SV→St→Option O} {xs:List Operand} {Q:Value→qc→Own→Prop}
variable {ty:TypeId} {pos:String} {af:Array Edge} {gd:Option (Nat×Bool)} {ds:Option Tmp}
theorem opds_ok{st:St}:∀(l:List Operand) (svs:List SV),(∀x∈l,jm E st V I L x)→qfC E st l=some svs→∃vs,evs L l=some vs∧RepSs V I svs vs:=by
 intro l;induction l with
 | nil=>intro svs _ e;simp[qfC]at e;subst e;exact⟨[],rfl,.nil⟩
 | cons x l ih=>
  intro svs hm e;simp only[qfC]at e;replace e:=qf e;obtain⟨s,hs,e⟩:=e
  replace e:=qf e;obtain⟨q,hq,e⟩:=e
  simp at e;subst e;obtain⟨v,hv,hr⟩:=hm x (zM ..) s hs
  obtain⟨vs,hvs,hrs⟩:=ih q (fun y hy=>hm y (zE _ hy)) hq
  exact⟨v::vs,by simp[evs,hv,hvs],.cons hr hrs⟩
theorem qhB(T:Tabs P){f:Nat}{c:Operand}{first cap:List Value}{as:List Operand}{vs:List Value}{ts:Array TypeId}{R:Value→Prop}
 (hc:ev L c=some (.func (.func f) first.toArray cap.toArray)) (hx:evs L as=some vs) (hg:T.go f=true)
 (hF:jk P f (first++vs++cap).toArray (J6 V G) [] fun v _ _=>R v) (k':∀v,R v→Q v V G) :
 Opr P n X L V G ⟨ds,.call { callee:=.value c,args:=as.toArray,argTypes:=ts },ty,pos,af,gd⟩ Q:=fun a ha w hw=>by
 refine .inr ⟨f,(first++vs++cap).toArray,w,?_,?_⟩
 · have hm:=Jm ha as vs hx
   simp[execOp,resolve,Deferred.ofValue,ha.ev hc,invoke,qoI (T.go_ok f hg),hm]
 · refine(hF w (qkS hw) (fun _ h=>by cases h) (fun _ h=>by cases h) VN).mono ?_
   rintro e w' ⟨v,V',G',rfl,hh,hr⟩
   have old:∀b,b<w.heap.size→w'.heap[b]?=w.heap[b]?:=fun b hb=>hh.ext.block b hb (by simp[keys])
   refine⟨v,V,G,rfl,k' v hr,⟨⟨hh.ext.os.trans hw.ext.os,hh.ext.tape.trans hw.ext.tape,hh.ext.output.trans hw.ext.output,KF hw.ext.size hh.ext.size,fun b hb hm=>?_⟩,fun b o hb=>?_,fun p hp=>?_,hw.free,hw.nodup,hw.sub,hw.newer⟩⟩
   · rw[old b (Kv hb hw.ext.size)];exact hw.ext.block b hb hm
   · rw[old b (hw.vlt (by simp[hb]))];exact hw.view b o hb
   · rw[old p.1 (hw.lt hp)];exact hw.own p hp
theorem qpE(S:Sound P E.T)(hC:J5 P E.T S E.call){c:Operand}{f:Nat}{first cap:List Value}{as:List Operand}{vs:List Value}{ts:Array TypeId}{svs:List SV}(h:Pre fr E V I st L G xs)
 (hc:ev L c=some (.func (.func f) first.toArray cap.toArray)) (hx:evs L as=some vs) (hr:RepSs V I svs (first++vs++cap))
 (he:((Zz fr st svs).bind fun p=>(qfW E.call f p.1).bind fun r=>k (yO (mpT r)) p.2)=some r) :
 Opr P n X L V G ⟨ds,.call { callee:=.value c,args:=as.toArray,argTypes:=ts },ty,pos,af,gd⟩ (jv fr r k V I st L G):=by
 replace he:=qf he;obtain⟨p,hp,he⟩:=he
 replace he:=qf he;obtain⟨q,hq,he⟩:=he
 unfold qfW at hq;replace hq:=qf hq;obtain⟨cr,hcr,hq⟩:=hq
 replace hq:=qf hq;obtain⟨z,hz,hq⟩:=hq
 simp only[za]at hq;subst hq;obtain⟨V1,G1,g1,r1⟩:=qbJ h hr (xs:=p.1) (st':=p.2) (by rw[hp])
 have h1:=h.step g1;obtain⟨hg,hF⟩:=hC _ f (mpT p.1) [] _ _ hcr
 have hF:=hF V1 [] [] _ h1.gok ⟨[],.nil,zr _⟩ (RepSs.ofT r1)
 refine J4 g1 (YW (qr S.tb hc hx hg hF (zr G1) fun v V' G' hsub hR=>?_))
 obtain⟨rs,H',hrs,I',rvs,m1,m2,rfl,_⟩:=hR;simp only[za]at hrs;subst hrs;by_cases hfr:jQ V' (G'++G1)
 · have hfr':jQ V' G':=⟨fun p hp=>hfr.1 p (zS.2 (.inl hp)),by
    have:=hfr.2;rw[Kr,VM]at this;exact this.1⟩
   obtain⟨V2,G2,g2,s2,r2,_⟩:=(QV (I:=I') (L:=[]) 64).2 ⟨[],[],H'⟩ z.2 rs z.1 (by rw[hz]) V' G' rvs m2 ⟨m1,fun d sv hd _=>by simp[St.look]at hd⟩ hfr'
   refine⟨V2,G1,fun w hw=>(g2.holdsF G1 X w hw).sublist (Ws _ _),fun hf=>?_⟩
   have hrep:∀ {J:List IE},RepS V2 J (yO (mpT z.1)) (YJ rvs):=QJ (RepSs.ofT r2)
   cases fr with
   | true=>
    have hS:=(h1.full rfl).mono (hsub.trans g2.sub)
    exact⟨V2,G1,Gh.refl hf,hsub.trans g2.sub,I,_,_,he,hS,hrep,IPf.refl _ _⟩
   | false=>
    obtain⟨rfl,rfl,hst⟩:=g1.no rfl;rw[hst]at he ⊢;exact⟨hsub.trans g2.sub,rfl,_,he,hrep⟩
 · exact⟨V',G'++G1,fun w hw=>hw,fun hf=>absurd hf hfr⟩
theorem qnN(S:Sound P E.T)(hC:J5 P E.T S E.call){c:Operand}{f:Nat}{first cap:List Value}{as:List Operand}{vs:List Value}{ts:Array TypeId}{svs:List SV}(h:Pre true E V I st L G xs)
 (hc:ev L c=some (.func (.func f) first.toArray cap.toArray)) (hx:evs L as=some vs) (hr:RepSs V I svs (first++vs++cap))
 (he:((Zz true st svs).bind fun p=>qcw E.call f p.1 fun r=>k (yO (mpT r)) p.2)=some r) :
 Opr P n X L V G ⟨ds,.call { callee:=.value c,args:=as.toArray,argTypes:=ts },ty,pos,af,gd⟩ (jv true r k V I st L G):=by
 replace he:=qf he;obtain⟨p,hp,he⟩:=he
 unfold qcw at he;obtain⟨V1,G1,g1,r1⟩:=qbJ h hr (xs:=p.1) (st':=p.2) (by rw[hp])
 have h1:=h.step g1;obtain⟨hg,hF⟩:=hC _ f (mpT p.1) [] _ _ he
 have hF:=hF V1 [] [] _ h1.gok ⟨[],.nil,zr _⟩ (RepSs.ofT r1)
 refine J4 g1 (YW (qr S.tb hc hx hg hF (zr G1) fun v V' G' hsub hR=>?_))
 obtain⟨rs,H',hk,I',rvs,m1,m2,rfl,_⟩:=hR;replace hk:=qam hk
 replace hk:=qf hk;obtain⟨z,hz,hk⟩:=hk
 by_cases hfr:jQ V' (G'++G1)
 · have hfr':jQ V' G':=⟨fun p hp=>hfr.1 p (zS.2 (.inl hp)),by
    have:=hfr.2;rw[Kr,VM]at this;exact this.1⟩
   obtain⟨V2,G2,g2,s2,r2,_⟩:=(QV (I:=I') (L:=[]) 64).2 ⟨[],[],H'⟩ z.2 rs z.1 (by rw[hz]) V' G' rvs m2 ⟨m1,fun d sv hd _=>by simp[St.look]at hd⟩ hfr'
   refine⟨V2,G1,fun w hw=>(g2.holdsF G1 X w hw).sublist (Ws _ _),fun hf=>?_⟩
   have hrep:∀ {J:List IE},RepS V2 J (yO (mpT z.1)) (YJ rvs):=QJ (RepSs.ofT r2)
   have hS:=(h1.full rfl).mono (hsub.trans g2.sub)
   exact⟨V2,G1,Gh.refl hf,hsub.trans g2.sub,I,_,_,hk,hS,hrep,IPf.refl _ _⟩
 · exact⟨V',G'++G1,fun w hw=>hw,fun hf=>absurd hf hfr⟩
theorem qiV(S:Sound P E.T){q:PrimD}{qg:List T→Option q.ρ}{c:Operand}{f:Nat}{first cap:List Value}{as:List Operand}{vs:List Value}{ts:Array TypeId}{svs:List SV}(h:Pre fr E V I st L G xs)
 (hq:S.tb.go f=true∧∀xs y,qg xs=some y→∀V vs,GOK E.T V→RepA V xs vs→jk P f vs.toArray V [] fun v V' _=>∃rvs,RepA V' (q.enc y) rvs∧v=YJ rvs)
 (hc:ev L c=some (.func (.func f) first.toArray cap.toArray)) (hx:evs L as=some vs) (hr:RepSs V I svs (first++vs++cap))
 (he:((Zz fr st svs).bind fun p=>(qg p.1).bind fun y=>k (yO (mpT (q.enc y))) p.2)=some r) :
 Opr P n X L V G ⟨ds,.call { callee:=.value c,args:=as.toArray,argTypes:=ts },ty,pos,af,gd⟩ (jv fr r k V I st L G):=by
 replace he:=qf he;obtain⟨p,hp,he⟩:=he
 replace he:=qf he;obtain⟨y,hy,he⟩:=he
 obtain⟨V1,G1,g1,r1⟩:=qbJ h hr (xs:=p.1) (st':=p.2) (by rw[hp])
 have h1:=h.step g1;have hF:=hq.2 p.1 y hy V1 _ h1.gok r1;refine J4 g1 (YW (qr S.tb hc hx hq.1 hF (zr G1) fun v V' G' hsub hR=>?_))
 obtain⟨rvs,m2,rfl⟩:=hR;refine⟨V',G1,fun w hw=>hw.sublist (Ws _ _),fun hf=>?_⟩
 have hrep:∀ {J:List IE},RepS V' J (yO (mpT (q.enc y))) (YJ rvs):=QJ (RepSs.ofT m2)
 cases fr with
 | true=>
  have hS:=(h1.full rfl).mono hsub
  exact⟨V',G1,Gh.refl hf,hsub,I,_,_,he,hS,hrep,IPf.refl _ _⟩
 | false=>
  obtain⟨rfl,rfl,hst⟩:=g1.no rfl;rw[hst]at he ⊢;exact⟨hsub,rfl,_,he,hrep⟩
theorem qpF{V:qc}{I':List IE}{ie:IE}{m len:Nat}{v:Value}(hI':I'[m]?=some ie)(h:RepS V [ie] (.osl 0 0 len) v):RepS V I' (.osl m 0 len) v:=by
 cases h with
 | osl hI b1 b2 b3=>simp only[Vp,za]at hI;subst hI;exact .osl hI' b1 b2 b3
 | osl0 b0 _=>exact absurd rfl b0
 | oslv hI=>simp only[Vp,za]at hI;subst hI;exact .oslv hI'
 | oslp hI b1=>simp only[Vp,za]at hI;subst hI;exact .oslp hI' b1
theorem qpG(S:Sound P E.T){q:PrimD}{j:Nat×Nat}{c:Operand}{f:Nat}{first cap:List Value}{as:List Operand}{vs:List Value}{ts:Array TypeId}{svs:List SV}(h:Pre true E V I st L G xs)
 (hq:S.tb.go f=true∧∀xs y,q.g xs=some y→∀V vs,GOK E.T V→RepA V xs vs→jk P f vs.toArray V [] fun v V' G'=>∀w l,q.enc y=[.sl w l]→w=j.2→∃ie,RepOB V' [ie] (.row false j.1 j.2 l) ie G'∧RepS V' [ie] (.osl 0 0 l.length) v)
 (hc:ev L c=some (.func (.func f) first.toArray cap.toArray)) (hx:evs L as=some vs) (hr:RepSs V I svs (first++vs++cap))
 (he:((Zz true st svs).bind fun p=>(q.g p.1).bind fun y=>qkr j (q.enc y) p.2 k)=some r) :
 Opr P n X L V G ⟨ds,.call { callee:=.value c,args:=as.toArray,argTypes:=ts },ty,pos,af,gd⟩ (jv true r k V I st L G):=by
 replace he:=qf he;obtain⟨p,hp,he⟩:=he
 replace he:=qf he;obtain⟨y,hy,he⟩:=he
 obtain⟨V1,G1,g1,r1⟩:=qbJ h hr (xs:=p.1) (st':=p.2) (by rw[hp])
 have h1:=h.step g1;have hF:=hq.2 p.1 y hy V1 _ h1.gok r1;refine J4 g1 (YW (qr S.tb hc hx hq.1 hF (zr G1) fun v V' G' hsub hR=>?_))
 unfold qkr at he;split at he
 · rename_i w l henc
   cases hw:Nat.beq w j.2 with
   | false=>rw[hw]at he;simp at he
   | true=>
    rw[hw,zg]at he;obtain⟨ie,m1,m2⟩:=hR w l henc (zd hw)
    refine⟨V',G'++G1,fun w hw=>hw,fun hf=>?_⟩
    have hS:=(h1.full rfl).mono hsub
    have hlen:=hS.len;have hs:=hS.new (Is:=[ie]) (Hs:=[.row false j.1 j.2 l]) (g:=G') (by
     have:=GRel.cons (RepOB.row_any (I':=I++[ie]) m1) (GRel.nil (V:=V') (I:=I++[ie]))
     simpa using this)
    refine⟨V',G'++G1,Gh.refl hf,hsub,I++[ie],_,_,he,hs,?_,IPf.app hlen⟩
    have hI':(I++[ie])[p.2.H.length]?=some ie:=by rw[← hlen];simp
    exact qpF hI' m2
 · simp at he
theorem qc5{I':List IE}{n len m:Nat}{z:T}{ie:IE}(hI:I[n]?=some ie)(hI':I'[m]?=some ie):∀ {cs:List SV} {j:Nat} {ts:List T} {vs:List Value},cs[j]?=some (.osl n 0 len)→asTs (cs.set j (.t z))=some ts→RepSs V I cs vs →
 RepSs V I' ((mpT ts).set j (.osl m 0 len)) vs∧ts[j]?=some z
 | [],j,_,_,h,_,_=>by simp at h
 | c::cs,0,ts,_,h,e,.cons hr hrs=>by
  simp at h;subst h;simp only[WD,asTs]at e;replace e:=qf e;obtain⟨r,hq,e⟩:=e
  simp only[za]at e;subst e;refine⟨?_,rfl⟩
  simp only[mpT,WD];refine .cons ?_ (RepSs.ofT (hrs.asTs hq))
  cases hr with
  | osl h h1 h2 h3=>rw[hI]at h;simp only[za]at h;subst h;exact .osl hI' h1 h2 h3
  | osl0 h0 _=>exact absurd rfl h0
  | oslv h=>rw[hI]at h;simp only[za]at h;subst h;exact .oslv hI'
  | oslp h h1=>rw[hI]at h;simp only[za]at h;subst h;exact .oslp hI' h1
 | c::cs,j+1,ts,_,h,e,.cons hr hrs=>by
  simp only[K8]at h;simp only[WB]at e;cases c <;> simp only[asTs,reduceCtorEq]at e
  rename_i x;replace e:=qf e;obtain⟨r,hq,e⟩:=e
  simp only[za]at e;subst e;obtain⟨q1,q2⟩:=qc5 hI hI' h hq hrs;refine⟨?_,by simpa using q2⟩
  simp only[mpT,WB];cases hr with|t hr=>exact .cons (.t hr) q1
theorem qtp{j:Nat×Nat}{svs:List SV}{vs:List Value}{kk:Nat→List T→Option O}(hr:RepSs V I svs vs)(he:qlH st j svs kk=some r) :
 ∃n e w l xs svs',st.H[n]?=some (.row false e w l)∧kk n xs=some r∧qhl j xs=some (svs',[.row false e w l])∧∀ie,I[n]?=some ie→RepSs V [ie] svs' vs:=by
 unfold qlH at he;split at he
 · rename_i n len vs'
   split at he
   · rename_i e w l hn
     cases hb:(Nat.beq e j.2&&Nat.beq len l.length)with
     | false=>rw[hb]at he;simp at he
     | true=>
      rw[hb]at he;simp only[zg]at he;simp only[zp]at hb;have hlen:=zd hb.2;have he2:=zd hb.1;replace he:=qf he;obtain⟨xs,hxs,he⟩:=he
      refine⟨n,e,w,l,_,.osl 0 0 len::mpT xs,hn,he,by rw[hlen,he2];rfl,fun ie hI=>?_⟩
      cases hr with|cons h1 h2=>
      refine .cons ?_ (RepSs.ofT (h2.asTs hxs))
      cases h1 with
      | osl h h1 h2 h3=>rw[hI]at h;simp only[za]at h;subst h;exact .osl rfl h1 h2 h3
      | osl0 h0 _=>exact absurd rfl h0
      | oslv h=>rw[hI]at h;simp only[za]at h;subst h;exact .oslv rfl
      | oslp h h1=>rw[hI]at h;simp only[za]at h;subst h;exact .oslp rfl h1
   · simp at he
 · rename_i cs vs'
   split at he
   · rename_i n len hj
     split at he
     · rename_i e w l hn
       cases hb:(Nat.beq e j.2&&Nat.beq len l.length)with
       | false=>rw[hb]at he;simp at he
       | true=>
        rw[hb]at he;simp only[zg]at he;simp only[zp]at hb;have:=zd hb.2;subst this
        have he2:=zd hb.1;replace he:=qf he;obtain⟨ts,hts,he⟩:=he
        replace he:=qf he;obtain⟨xs,hxs,he⟩:=he
        cases hr with|cons h1 h2=>
        cases h1 with|st h1=>
        have hts':ts[j.1]?=some (.sl w l):=by
         have aux:∀ {cs:List SV} {j:Nat} {ts:List T},j<cs.length→asTs (cs.set j (.t (.sl w l)))=some ts→ts[j]?=some (.sl w l):=by
          intro cs;induction cs with
          | nil=>intro j ts h;simp at h
          | cons c cs ih=>
           intro j ts h e;cases j with
           | zero=>
            simp only[WD,asTs]at e;replace e:=qf e;obtain⟨r,hq,e⟩:=e
            simp only[za]at e;subst e;rfl
           | succ j=>
            simp only[WB]at e;cases c <;> simp only[asTs,reduceCtorEq]at e
            replace e:=qf e;obtain⟨r,hq,e⟩:=e
            simp only[za]at e;subst e;simpa using ih (by simpa using h) hq
         exact aux (zu.1 hj).1 hts
        refine⟨n,e,w,l,_,.st ((mpT ts).set j.1 (.osl 0 0 l.length))::mpT xs,hn,he,by simp only[qhl,hts',he2],fun ie hI=>?_⟩
        obtain⟨q1,_⟩:=qc5 (I':=[ie]) (m:=0) hI rfl hj hts h1
        exact .cons (.st q1) (RepSs.ofT (h2.asTs hxs))
     · simp at he
   · simp at he
 · simp at he
theorem qpH(S:Sound P E.T)(hC:J5 P E.T S E.call){c:Operand}{f:Nat}{first cap:List Value}{as:List Operand}{vs:List Value}{ts:Array TypeId}{svs:List SV}(h:Pre fr E V I st L G xs)
 (hc:ev L c=some (.func (.func f) first.toArray cap.toArray)) (hx:evs L as=some vs) (hr:RepSs V I svs (first++vs++cap))
 (he:((qbu st.H svs).bind fun xs=>(qfW E.call f xs).bind fun r=>bif r.all scT then k (yO (mpT r)) st else none)=some r) :
 Opr P n X L V G ⟨ds,.call { callee:=.value c,args:=as.toArray,argTypes:=ts },ty,pos,af,gd⟩ (jv fr r k V I st L G):=by
 replace he:=qf he;obtain⟨p,hp,he⟩:=he
 replace he:=qf he;obtain⟨q,hq,he⟩:=he
 cases hsc:q.all scT with
 | false=>rw[hsc]at he;simp at he
 | true=>
  rw[hsc]at he;simp only[zg]at he;unfold qfW at hq;replace hq:=qf hq;obtain⟨cr,hcr,hq⟩:=hq
  replace hq:=qf hq;obtain⟨z,hz,hq⟩:=hq
  simp only[za]at hq;subst hq;have r1:=qbQ h.free h.mr hr hp;obtain⟨hg,hF⟩:=hC _ f (mpT p) [] _ _ hcr
  have hF:=hF (J6 V G) [] [] _ (h.gok.mono (YX h.free)) ⟨[],.nil,zr _⟩ (RepSs.ofT r1)
  refine qhB S.tb hc hx hg (R:=fun v=>RepS V I (yO (mpT z.1)) v) ?_ fun v hv=>h.post he hv
  intro w h1 h2 h3 h4;refine(hF w h1 h2 h3 h4).mono ?_
  rintro e w' ⟨v,V',G',rfl,hh,rs,H',hrs,I',rvs,m1,m2,rfl,_⟩
  simp only[za]at hrs;subst hrs;refine⟨_,V',G',rfl,hh,?_⟩
  have hfr':jQ V' G':=jQ.cons hh
  obtain⟨V2,G2,g2,s2,r2,_⟩:=(QV (I:=I') (L:=[]) 64).2 ⟨[],[],H'⟩ z.2 rs z.1 (by rw[hz]) V' G' rvs m2 ⟨m1,fun d sv hd _=>by simp[St.look]at hd⟩ hfr'
  exact QJ (RepSs.ofT (qdD r2 hsc))
theorem qnO(S:Sound P E.T){q:PrimD}{c:Operand}{f:Nat}{first cap:List Value}{as:List Operand}{vs:List Value}{ts:Array TypeId}{svs:List SV}(h:Pre fr E V I st L G xs)
 (hq:S.tb.go f=true∧∀xs y,q.g xs=some y→∀V vs,GOK E.T V→RepA V xs vs→jk P f vs.toArray V [] fun v V' _=>∃rvs,RepA V' (q.enc y) rvs∧v=YJ rvs)
 (hc:ev L c=some (.func (.func f) first.toArray cap.toArray)) (hx:evs L as=some vs) (hr:RepSs V I svs (first++vs++cap))
 (he:((qbu st.H svs).bind fun xs=>(q.g xs).bind fun y=>bif(q.enc y).all scT then k (yO (mpT (q.enc y))) st else none)=some r) :
 Opr P n X L V G ⟨ds,.call { callee:=.value c,args:=as.toArray,argTypes:=ts },ty,pos,af,gd⟩ (jv fr r k V I st L G):=by
 replace he:=qf he;obtain⟨p,hp,he⟩:=he
 replace he:=qf he;obtain⟨y,hy,he⟩:=he
 cases hsc:(q.enc y).all scT with
 | false=>rw[hsc]at he;simp at he
 | true=>
  rw[hsc]at he;simp only[zg]at he;have r1:=qbQ h.free h.mr hr hp;have hF:=hq.2 p y hy (J6 V G) _ (h.gok.mono (YX h.free)) r1
  refine qhB S.tb hc hx hq.1 (R:=fun v=>RepS V I (yO (mpT (q.enc y))) v) ?_ fun v hv=>h.post he hv
  intro w h1 h2 h3 h4;refine(hF w h1 h2 h3 h4).mono ?_
  rintro e w' ⟨v,V',G',rfl,hh,rvs,h5,rfl⟩
  exact⟨_,V',G',rfl,hh,QJ (RepSs.ofT (qdD h5 hsc))⟩
theorem qnP(S:Sound P E.T)(hC:J5 P E.T S E.call){c:Operand}{f:Nat}{first cap:List Value}{as:List Operand}{vs:List Value}{ts:Array TypeId}{svs:List SV}(h:Pre true E V I st L G xs)
 (hc:ev L c=some (.func (.func f) first.toArray cap.toArray)) (hx:evs L as=some vs) (hr:RepSs V I svs (first++vs++cap))
 (he:((qbu st.H svs).bind fun xs=>qcw E.call f xs fun r=>bif r.all scT then k (yO (mpT r)) st else none)=some r) :
 Opr P n X L V G ⟨ds,.call { callee:=.value c,args:=as.toArray,argTypes:=ts },ty,pos,af,gd⟩ (jv true r k V I st L G):=by
 replace he:=qf he;obtain⟨p,hp,he⟩:=he
 unfold qcw at he;have r1:=qbQ h.free h.mr hr hp;obtain⟨hg,hF⟩:=hC _ f (mpT p) [] _ _ he
 have hF:=hF (J6 V G) [] [] _ (h.gok.mono (YX h.free)) ⟨[],.nil,zr _⟩ (RepSs.ofT r1)
 refine qhB S.tb hc hx hg (R:=fun v=>∃z:List T,k (yO (mpT z)) st=some r∧RepS V I (yO (mpT z)) v) ?_ fun v hv=>by obtain⟨z,hk,hv⟩:=hv;exact h.post hk hv
 intro w h1 h2 h3 h4;refine(hF w h1 h2 h3 h4).mono ?_
 rintro e w' ⟨v,V',G',rfl,hh,rs,H',hk,I',rvs,m1,m2,rfl,_⟩
 replace hk:=qam hk
 replace hk:=qf hk;obtain⟨z,hz,hk⟩:=hk
 refine⟨_,V',G',rfl,hh,?_⟩
 replace hk:(bif z.1.all scT then k (yO (mpT z.1)) st else none)=some r:=hk
 cases hsc:z.1.all scT with
 | false=>rw[hsc]at hk;simp at hk
 | true=>
  rw[hsc,zg]at hk;have hfr':jQ V' G':=jQ.cons hh
  obtain⟨V2,G2,g2,s2,r2,_⟩:=(QV (I:=I') (L:=[]) 64).2 ⟨[],[],H'⟩ z.2 rs z.1 (by rw[hz]) V' G' rvs m2 ⟨m1,fun d sv hd _=>by simp[St.look]at hd⟩ hfr'
  exact⟨z.1,hk,QJ (RepSs.ofT (qdD r2 hsc))⟩
end
end Su
end
