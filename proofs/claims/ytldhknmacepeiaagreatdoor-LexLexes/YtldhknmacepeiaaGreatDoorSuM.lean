/-
  An evaluator of the program's functions over trees of values, proved sound. No condition.
-/
import Derived.Test.YtldhknmacepeiaaGreatDoorSuK
set_option linter.unusedVariables false
set_option linter.unusedSimpArgs false
section
namespace Su
open Go Fly
section
variable {fr:Bool} {P:Program} {E:Env} {n:Nat} {X:Cx} {L:Lo} {V:qb} {I:List IE} {G:Own} {st:St} {O:Type} {r:O} {k:SV→St→Option O} {xs:List Operand} {Q:Value→qb→Own→Prop}
variable {ty:TypeId} {pos:String} {af:Array Edge} {gd:Option (Nat×Bool)} {ds:Option Tmp}
def bnd(E:Env)(st:St)(L:Lo)(d:Int)(x:Option Operand)(j:Int):Prop :=
 match x with
 | none=>j=d
 | some x=>∃κ,ev L x=some (.int κ j)
theorem Zw{d j:Int}{x:Option Operand}(hx:∀y,x=some y→qX E st V I L y)(h:qbV E st d x=some j):bnd E st L d x j:=by
 cases x with
 | none=>simp[qbV]at h;exact h.symm
 | some x=>
  simp only[qbV]at h;replace h:=qa h;obtain⟨s,hs,h⟩:=h
  obtain⟨κ,rfl⟩:=JK h;obtain⟨v,hv,hr⟩:=hx x rfl _ hs;have:=jM hr;subst this
  exact⟨κ,hv⟩
theorem YZ(a:Option Addr)(c k:Nat):JI a 0 c k=a:=by
 unfold JI;split
 · rfl
 · cases a <;> simp[Addr.add]
theorem Zx(T:Tabs P){t e kk:Nat}{x:Operand}{lo hi:Option Operand}{a:Option Addr}{len cap:Nat}{i j:Int}(hx:ev L x=some (.slice a len cap))(hE:T.el t=some (e,kk))(hl:bnd E st L 0 lo i)(hh:bnd E st L len hi j)
 (h0:0≤i) (h1:i≤j) (h2:j≤(len:Int)) (hc:len≤cap) (k':Q (.slice (JI a i.toNat cap kk) (j-i).toNat (cap-i.toNat)) V G):Opr P n X L V G ⟨ds,.slice t x lo hi none,ty,pos,af,gd⟩ Q:=by
 obtain⟨hu,g,hT⟩:=yY (T.el_ok _ _ hE)
 have e1:(j-i).toNat=j.toNat-i.toNat:=by omega
 rw[e1]at k';cases lo with
 | none=>
  have:i=0:=hl
  subst this;rw[show(0:Int).toNat=0 from rfl,YZ,We,We]at k';cases hi with
  | none=>
   have:j=len:=hh
   subst this;rw[zg]at k';refine qC (fun ac w ha=>?_) k'
   have e1:(a.map fun q:Addr=>q.add 0)=a:=by cases a <;> simp[Addr.add]
   simp[execOp,ha.ev hx,Instr.sliceAt,Instr.slice,Fly.run_underlying hu,Instr.sliceBounds,Instr.sliceBound,asIntOf,(jQ hT w).2.1,e1,hc]
  | some y=>
   obtain⟨κ,hy⟩:=hh;exact qmj T hx hy hE (by omega) (by omega) k'
 | some z=>
  obtain⟨κ,hz⟩:=hl;cases hi with
  | none=>
   have:j=len:=hh
   subst this;rw[zg]at k';exact qmk T hx hz hE h0 (by omega) k'
  | some y=>
   obtain⟨κ',hy⟩:=hh;exact qjo T hx hz hy hE h0 h1 (by omega) k'
theorem qgI{t:TypeId}{x:Operand}{lo hi:Option Operand}{s:ByteArray}{i j:Int}(hx:ev L x=some (.string s))(hu:P.underlying t=some .string)(hl:bnd E st L 0 lo i)(hh:bnd E st L s.size hi j)
 (h0:0≤i) (h1:i≤j) (h2:j≤(s.size:Int)) (k':Q (.string (s.extract i.toNat j.toNat)) V G):Opr P n X L V G ⟨ds,.slice t x lo hi none,ty,pos,af,gd⟩ Q:=by
 cases lo with
 | none=>
  have:i=0:=hl
  subst this;cases hi with
  | none=>
   have:j=s.size:=hh
   subst this;refine qC (fun ac w ha=>?_) k'
   simp[execOp,ha.ev hx,Instr.sliceAt,Instr.slice,Fly.run_underlying hu,Instr.sliceBounds,Instr.sliceBound,asIntOf]
  | some y=>
   obtain⟨κ,hy⟩:=hh;refine qC (fun ac w ha=>?_) k'
   have h3:0≤j:=by omega
   simp[execOp,ha.ev hx,ha.ev hy,Instr.sliceAt,Instr.slice,Fly.run_underlying hu,Instr.sliceBounds,Instr.sliceBound,asIntOf,h3,h2]
 | some z=>
  obtain⟨κ,hz⟩:=hl;cases hi with
  | none=>
   have:j=s.size:=hh
   subst this;refine qC (fun ac w ha=>?_) k'
   simp[execOp,ha.ev hx,ha.ev hz,Instr.sliceAt,Instr.slice,Fly.run_underlying hu,Instr.sliceBounds,Instr.sliceBound,asIntOf,h0,h1]
  | some y=>
   obtain⟨κ',hy⟩:=hh;exact qhY hx hz hy hu h0 h1 h2 k'
theorem qmG(T:Tabs P){t e kk:Nat}{x h m:Operand}{a:Option Addr}{len cap:Nat}{i:Int}{κ κ':IntKind}(hx:ev L x=some (.slice a len cap))(hE:T.el t=some (e,kk))(hh:ev L h=some (.int κ 0))(hm:ev L m=some (.int κ' i))
 (h0:0≤i) (h1:i≤(cap:Int)) (k':∀b,Q (.slice b 0 i.toNat) V G):Opr P n X L V G ⟨ds,.slice t x none (some h) (some m),ty,pos,af,gd⟩ Q:=by
 obtain⟨hu,g,hT⟩:=yY (T.el_ok _ _ hE)
 refine qC (fun ac w ha=>?_) (k' (if i.toNat=0 then a else a.map fun q:Addr=>q.add 0))
 simp[execOp,ha.ev hx,ha.ev hh,ha.ev hm,Instr.sliceAt,Instr.slice,Fly.run_underlying hu,Instr.sliceBounds,Instr.sliceBound,asIntOf,h0,h1,(jQ hT w).2.1]
theorem qai(T:Tabs P){t e kk:Nat}{x h m:Operand}{a:Option Addr}{len cap:Nat}{i j:Int}{κ κ':IntKind}(hx:ev L x=some (.slice a len cap))(hE:T.el t=some (e,kk))(hh:ev L h=some (.int κ j))(hm:ev L m=some (.int κ' i))
 (h0:0≤j) (h1:j≤i) (h2:i≤(cap:Int)) (k':Q (.slice a j.toNat i.toNat) V G):Opr P n X L V G ⟨ds,.slice t x none (some h) (some m),ty,pos,af,gd⟩ Q:=by
 obtain⟨hu,g,hT⟩:=yY (T.el_ok _ _ hE)
 have e0:(if i.toNat=0 then a else a.map fun q:Addr=>q.add 0)=a:=by
  split
  · rfl
  · cases a with
    | none=>rfl
    | some q=>simp[Addr.add]
 refine qC (fun ac w ha=>?_) (by rw[← e0]at k';exact k')
 have h3:0≤i:=by omega
 simp[execOp,ha.ev hx,ha.ev hh,ha.ev hm,Instr.sliceAt,Instr.slice,Fly.run_underlying hu,Instr.sliceBounds,Instr.sliceBound,asIntOf,h0,h1,h2,h3,(jQ hT w).2.1]
 all_goals (intro hlt;omega)
theorem qou(S:Sound P E.T){t:Nat}{x:Operand}{lo hi mx:Option Operand}(h:Pre fr E V I st L G xs)(hx:qX E st V I L x)(hlo:∀y,lo=some y→qX E st V I L y)(hhi:∀y,hi=some y→qX E st V I L y)(hmx:∀y,mx=some y→qX E st V I L y)(he:qc6 E st t x lo hi mx k=some r) :
 Opr P n X L V G ⟨ds,.slice t x lo hi mx,ty,pos,af,gd⟩ (ji fr r k V I st L G):=by
 unfold qc6 at he;split at he
 case h_2 m=>
  unfold qxZ at he;split at he
  case h_2=>simp at he
  rename_i hh;replace he:=qa he;obtain⟨sv,hsv,he⟩:=he
  replace he:=qa he;obtain⟨sh,hsh,he⟩:=he
  replace he:=qa he;obtain⟨sm,hsm,he⟩:=he
  replace he:=qa he;obtain⟨j,hj,he⟩:=he
  replace he:=qa he;obtain⟨i,hi',he⟩:=he
  replace he:=qa he;obtain⟨p,hp,he⟩:=he
  obtain⟨v,hv,hr⟩:=hx sv hsv;obtain⟨vh,hvh,hrh⟩:=hhi hh rfl sh hsh;obtain⟨vm,hvm,hrm⟩:=hmx m rfl sm hsm;obtain⟨κ,rfl⟩:=JK hj;obtain⟨κ',rfl⟩:=JK hi';have:=jM hrh;subst this
  have:=jM hrm;subst this
  split at he
  · rename_i n0 off len
    cases hoz:E.T.oz E.f with
    | false=>
     rw[hoz]at he;simp only[zj]at he;split at he
     · rename_i fx e' w l hn
       cases hck:(Nat.beq w p.2&&(decide (0≤j)&&(decide (j≤i)&&decide (i≤(len:Int)))))with
       | false=>rw[hck]at he;simp at he
       | true=>
        rw[hck,zf]at he;simp only[zk,zD]at hck;obtain⟨_,h0,h1,h2⟩:=hck;cases hr with
        | @osl _ _ _ b k' ct cap hI q1 q2 q3=>
         refine qai S.tb hv (S.el t (p.1,p.2) hp) hvh hvm h0 h1 (by omega) (h.post he ?_)
         exact .osl hI (by omega) q2 ⟨by omega,by omega⟩
        | osl0 q1 q2=>
         have hj0:j.toNat=0:=by omega
         have hi0:i.toNat=0:=by omega
         refine qai S.tb hv (S.el t (p.1,p.2) hp) hvh hvm h0 h1 (by omega) (h.post he ?_)
         rw[hj0,hi0];exact .osl0 q1 (VX _)
        | oslv q1=>
         have hj0:j.toNat=0:=by omega
         have hi0:i.toNat=0:=by omega
         refine qai S.tb hv (S.el t (p.1,p.2) hp) hvh hvm h0 h1 (by omega) (h.post he ?_)
         rw[hj0,hi0];exact .oslv q1
        | oslp hI q2=>
         rcases h.mr.row hn with⟨b',ct',cur,a1,_⟩ | ⟨a1,_⟩ <;> (rw[hI]at a1;cases a1)
     · simp at he
    | true=>
    rw[hoz]at he;simp only[zf]at he;cases hck:(decide (j=0)&&(decide (0≤i)&&decide (i≤(len:Int))))with
    | false=>rw[hck]at he;simp at he
    | true=>
     rw[hck,zf]at he;simp only[zk,zD]at hck;obtain⟨rfl,h0,h1⟩:=hck;have:∃a cap,v = .slice a len cap∧len≤cap∧cap≤maxLen:=by
      cases hr with
      | osl _ h1 h2 h3=>exact⟨_,_,rfl,by omega,by omega⟩
      | osl0 _ h2=>exact⟨_,_,rfl,by omega,h2⟩
      | oslv _=>exact⟨_,_,rfl,zw _,by omega⟩
      | oslp _ h2=>exact⟨_,_,rfl,zw _,h2⟩
     obtain⟨a,cap,rfl,c1,c2⟩:=this;exact qmG S.tb hv (S.el t (p.1,p.2) hp) hvh hvm h0 (by omega) fun b=>h.post he (.t (.sl (l:=[]) (vs:=[]) .nil (by simp) (by simp) (by simp) (by omega) (.inl rfl)))
  · simp at he
 replace he:=qa he;obtain⟨sv,hsv,he⟩:=he
 obtain⟨v,hv,hr⟩:=hx sv hsv;unfold slO at he;split at he
 · rename_i hk
   replace he:=qa he;obtain⟨s,hs,he⟩:=he
   replace he:=qa he;obtain⟨i,hi',he⟩:=he
   replace he:=qa he;obtain⟨j,hj',he⟩:=he
   have:=qb1 hs;subst this
   have hr0:=hr;have:=jM hr;subst this
   cases hck:(decide (0≤i)&&decide (i≤j)&&decide (j≤(s.size:Int)))with
   | false=>rw[hck]at he;simp at he
   | true=>
    rw[hck]at he;simp only[zf]at he;simp only[zk,zD]at hck;exact qgI hv (S.str _ hk) (Zw hlo hi') (Zw hhi hj') hck.1.1 hck.1.2 hck.2 (h.post he (.t (.s (by have:=qkP hr0;have h2:=hck.2;have h1:=hck.1.2;show Nat.ble _ _=true;rw[K9,ByteArray.size_extract];omega))))
 · replace he:=qa he;obtain⟨p,hp,he⟩:=he
   have hE:=S.el t (p.1,p.2) hp
   have tree:∀ {l:List T} {i j:Int} {y:T},qbV E st 0 lo=some i→qbV E st l.length hi=some j→0≤i→i≤j→j≤l.length→RepS V I (.t (.sl p.2 l)) v →
    (∀w,Rep V (.sl p.2 ((l.drop i.toNat).take (j-i).toNat)) w→Rep V y w)→k (.t y) st=some r→Opr P n X L V G ⟨ds,.slice t x lo hi none,ty,pos,af,gd⟩ (ji fr r k V I st L G):=by
    intro l i j y hi' hj' h0 h1 h2 hr hy he;have hb1:=Zw hlo hi';have hb2:=Zw hhi hj';cases hr with | t hr=>cases hr with | @sl _ _ vs a cap a1 a2 a3 a4 a5 a6=>
    refine Zx S.tb hv hE hb1 hb2 h0 h1 h2 a4 (h.post he (.t (hy _ ?_)))
    have hlen:((l.drop i.toNat).take (j-i).toNat).length=(j-i).toNat:=by simp;omega
    have hmem:∀y∈(l.drop i.toNat).take (j-i).toNat,y∈l:=fun y hy=>KU (VC hy)
    have:=Rep.sl (V:=V) (k:=p.2) (l:=(l.drop i.toNat).take (j-i).toNat) (vs:=(vs.drop (i.toNat*p.2)).take ((j-i).toNat*p.2)) (a:=JI a i.toNat cap p.2) (cap:=cap-i.toNat)
     (by rw[Q8 _ (fun y hy=>a3 y (KU hy)),yx _ a3];exact(a1.drop _).take _)
     (fun y hy=>by obtain⟨z,hz,hy⟩:=KM.1 hy;exact a2 y (KM.2 ⟨z,hmem z hz,hy⟩))
     (fun y hy=>a3 y (hmem y hy)) (by omega) (by omega) (by
       by_cases hc:cap=i.toNat
       · refine .inl (KD.1 (by omega))
       · rcases a6 with a6 | ⟨b,off,rfl,a6⟩
         · subst a6;exact .inl (by simp)
         · refine .inr ⟨b,off+i.toNat*p.2,by rw[JI,zp hc];simp[Qc],fun q c hq=>?_⟩
           have:=a6 _ _ (qjN hq)
           rwa [← Ku]at this)
    rw[hlen]at this;exact this
   split at he
   · rename_i m off len
     split at he
     · rename_i fx e w l hn
       replace he:=qa he;obtain⟨i,hi',he⟩:=he
       replace he:=qa he;obtain⟨j,hj',he⟩:=he
       cases hck:(Nat.beq w p.2&&decide (0≤i)&&decide (i≤j)&&decide (j≤(len:Int)))with
       | false=>rw[hck]at he;simp at he
       | true=>
        rw[hck]at he;simp only[zf]at he;simp only[zk,zD]at hck;obtain⟨⟨⟨hw,h0⟩,h1⟩,h2⟩:=hck;have:=zh hw;subst this
        have hb1:=Zw hlo hi';have hb2:=Zw hhi hj';cases hr with
        | @osl _ _ _ b k' ct cap hI h3 h4 h5=>
         rcases h.mr.row hn with⟨b',ct',cur,a1,a2,a3,a4,a5,a6,a7,a8⟩ | ⟨a1,rfl⟩
         · rw[hI]at a1
           simp only[zb,IE.row.injEq]at a1;obtain⟨rfl,rfl,rfl⟩:=a1;refine Zx S.tb hv hE hb1 hb2 h0 h1 h2 (by omega) (h.post he ?_)
           by_cases hz:cap=i.toNat
           · by_cases ho:off+i.toNat=0
             · have hi0:i.toNat=0:=by omega
               have ho0:off=0:=by omega
               rw[hi0,YZ,ho0,zF];have:=RepS.osl (V:=V) (I:=I) (n:=m) (off:=0) (len:=(j-i).toNat) (cap:=cap-i.toNat) hI (by omega) h4 ⟨by omega,by omega⟩
               rw[hi0]at this;simpa using this
             · have:(j-i).toNat=0:=by omega
               rw[this];exact .osl0 ho (by omega)
           · have:=RepS.osl (V:=V) (I:=I) (n:=m) (off:=off+i.toNat) (len:=(j-i).toNat) (cap:=cap-i.toNat) hI (by omega) h4 ⟨by omega,by omega⟩
             rw[JI,zp (by omega)];simp only[Wq,Qc];rw[zR]at this;exact this
         · rw[hI]at a1;cases a1
        | osl0 h3 h4=>
         have hi0:i.toNat=0:=by omega
         have hj0:(j-i).toNat=0:=by omega
         refine Zx S.tb hv hE hb1 hb2 h0 h1 h2 (by omega) (h.post he ?_)
         rw[hi0,hj0,Ks];exact .osl0 h3 (by omega)
        | oslv h3=>
         have hi0:i.toNat=0:=by simp at h2;omega
         have hj0:(j-i).toNat=0:=by simp at h2;omega
         refine Zx S.tb hv hE hb1 hb2 h0 h1 h2 (by omega) (h.post he ?_)
         rw[hi0,hj0,YZ,Ks];exact .oslv h3
        | oslp hI _=>rcases h.mr.row hn with⟨b',ct',cur,a1,_⟩ | ⟨a1,_⟩ <;> (rw[hI]at a1;cases a1)
     · simp at he
   · rename_i u k' l
     replace he:=qa he;obtain⟨i,hi',he⟩:=he
     replace he:=qa he;obtain⟨j,hj',he⟩:=he
     cases hck:(Nat.beq k' p.2&&(decide (0≤i)&&decide (i≤j)&&decide (j≤(l.length:Int))))with
     | false=>rw[hck]at he;simp at he
     | true=>
      rw[hck]at he;simp only[zf]at he;simp only[zk,zD]at hck;obtain⟨hw,⟨h0,h1⟩,h2⟩:=hck;have:=zh hw;subst this
      refine tree (l:=l.map (view u)) (i:=i) (j:=j) (y:=.ql u p.2 ((l.drop i.toNat).take (j-i).toNat)) hi' (by rw[zx];exact hj') h0 h1 (by rw[zx];exact h2) (by cases hr with | t hr=>cases hr with | ql hr=>exact .t hr) (fun w hw=>.ql (by rw[List.map_take,List.map_drop];exact hw)) he
   · replace he:=qa he;obtain⟨l,hl,he⟩:=he
     replace he:=qa he;obtain⟨i,hi',he⟩:=he
     replace he:=qa he;obtain⟨j,hj',he⟩:=he
     have hr:=qaS hl hr;cases hck:(decide (0≤i)&&decide (i≤j)&&decide (j≤(l.length:Int)))with
     | false=>rw[hck]at he;simp at he
     | true=>
      rw[hck]at he;simp only[zf]at he;simp only[zk,zD]at hck;obtain⟨⟨h0,h1⟩,h2⟩:=hck;exact tree hi' hj' h0 h1 h2 hr (fun w hw=>hw) he
end
end Su
end
section
namespace Su
open Go Fly
theorem SR.turn{V:qb}{I:List IE}{st:St}{L:Lo}{G:Own}(h:SR V I st L G){n:Nat}{ob:OB}(hn:st.H[n]?=some ob) :
 ∃ie g G1,I[n]?=some ie∧RepOB V I ob ie g∧G.Perm (g++G1)∧∀ob' g',RepOB V I ob' ie g'→SR V I ⟨st.K,st.Tm,st.H.set n ob'⟩ L (g'++G1):=by
 obtain⟨G0,h1,h2⟩:=h.mem;obtain⟨ie,g,G1,k1,k2,k3,k4⟩:=h1.focus hn;refine⟨ie,g,G1,k1,k2,h2.trans k3,fun ob' g' hr=>?_⟩
 obtain⟨G2,j1,j2⟩:=k4 ob' ie g' hr;rw[Qh k1]at j1;exact⟨⟨G2,j1,j2.symm⟩,fun d sv hd hb=>h.slot d sv hd hb⟩
theorem qcE{V:qb}{I:List IE}{n:Nat}(ie':IE):YF V V I (I.set n ie') (jO n):=by
 intro x v hx h1 h2 h3';have other:∀m,Nat.beq m n=false→(I.set n ie')[m]?=I[m]?:=fun m hb=>by
  rw[Kj]
  rintro rfl;simp at hb
 cases hx with
 | t h=>exact .t h
 | un=>exact .un
 | bad=>exact .bad
 | @ref m off b h=>
  simp only[jO];cases hb:Nat.beq m n with
  | true=>exact .bad
  | false=>exact .ref (by rw[other m hb];exact h)
 | @osl m off len b k ct cap h h3 h4 h5=>
  simp only[jO];cases hb:Nat.beq m n with
  | true=>exact .bad
  | false=>exact .osl (by rw[other m hb];exact h) h3 h4 h5
 | @osl0 m off cap a h0 h=>
  simp only[jO];cases hb:Nat.beq m n with
  | true=>exact .bad
  | false=>exact .osl0 h0 h
 | @oslv m h=>
  simp only[jO];cases hb:Nat.beq m n with
  | true=>exact .bad
  | false=>exact .oslv (by rw[other m hb];exact h)
 | @oslp m len b h h3=>
  simp only[jO];cases hb:Nat.beq m n with
  | true=>exact .bad
  | false=>exact .oslp (by rw[other m hb];exact h) h3
 | @ep m i off b k ct h=>
  simp only[jO];cases hb:Nat.beq m n with
  | true=>exact .bad
  | false=>exact .ep (by rw[other m hb];exact h)
 | clo h h'=>exact absurd rfl (h1 _ _ _)
 | tup h=>exact absurd rfl (h2 _)
 | st h=>exact absurd rfl (h3' _)
theorem qcF(n:Nat)(x:SV)(h:jt x=true):jt (jO n x)=true:=by
 cases x <;> simp only[jO] <;> try exact h
 all_goals (cases Nat.beq _ _ <;> rfl)
theorem RepOB.row_any{V:qb}{I I':List IE}{fx:Bool}{e k:Nat}{l:List T}{ie:IE}{g:Own}(h:RepOB V I (.row fx e k l) ie g):RepOB V I' (.row fx e k l) ie g:=by
 cases h with
 | row h1 h2 h3 h4 h5 h6=>exact .row h1 h2 h3 h4 h5 h6
 | vrow=>exact .vrow
theorem SR.moved{V:qb}{I:List IE}{st:St}{L:Lo}{G:Own}(h:SR V I st L G){n:Nat}{fx:Bool}{e k:Nat}{l:List T}(hn:st.H[n]?=some (.row fx e k l)) :
 ∃ie g G1,I[n]?=some ie∧RepOB V I (.row fx e k l) ie g∧G.Perm (g++G1)∧∀(l':List T) (ie':IE) (g':Own),RepOB V I (.row fx e k l') ie' g'→SR V (I.set n ie') { st.mp (jO n)with H:=(st.mp (jO n)).H.set n (.row fx e k l') } L (g'++G1):=by
 obtain⟨G0,h1,h2⟩:=h.mem;obtain⟨ie,g,G1,k1,k2,k3,k4⟩:=h1.focus hn;refine⟨ie,g,G1,k1,k2,h2.trans k3,fun l' ie' g' hr=>?_⟩
 obtain⟨G2,j1,j2⟩:=k4 (.row fx e k l') ie' g' hr
 have hleaf:=qcE (V:=V) (I:=I) (n:=n) ie'
 have j3:=j1.map (Sub.refl _) hleaf (qcF n)
 rw[WG]at j3;exact⟨⟨G2,j3,j2.symm⟩,Jj hleaf rfl h.slot⟩
section
variable {fr:Bool} {P:Program} {E:Env} {n:Nat} {X:Cx} {L:Lo} {V:qb} {I:List IE} {G:Own} {st:St} {O:Type} {r:O} {k:SV→St→Option O} {xs:List Operand} {Q:Value→qb→Own→Prop}
variable {ty:TypeId} {pos:String} {af:Array Edge} {gd:Option (Nat×Bool)} {ds:Option Tmp}
theorem QL{V:qb}:∀ {l:List T} {vs:List Value},RepA V l vs→(∀x∈l,x.isAgg=false)→∀u∈vs,u.oneCell'=true
 | _,_,.nil,_,u,h=>by simp at h
 | _,_,.cons h h',hc,u,hu=>by
  rcases zN.1 hu with rfl | hu
  · exact(h.one (hc _ (zE ..))).1
  · exact QL h' (fun y hy=>hc y (zq _ hy)) u hu
theorem qdW{g:Bool}{kk:Nat}{sv:SV}{v:Value}{c:List SV}{st':St}(h:Pre fr E V I st L G xs)(hr:RepS V I sv v)(e:cellsOf fr st g kk sv=some (c,st')) :
 ∃V' G' us,GhF fr I L V G st V' G' st'∧RepSs V' I c us∧(∀s∈c,jt s=true)∧v.cells=us.toArray∧(∀u∈us,u.oneCell'=true)∧us.length=kk:=by
 unfold cellsOf at e;cases g with
 | true=>
  simp only[zf]at e;split at e
  · rename_i l
    cases hb:(Nat.beq l.length kk&&QV l)with
    | false=>rw[hb]at e;simp at e
    | true=>
     rw[hb]at e;simp only[zf,zb,Km]at e;obtain⟨rfl,rfl⟩:=e;simp only[zk]at hb;cases hr with | st h1=>
     obtain⟨b1,b2⟩:=qaX h1 hb.2;exact⟨V,G,_,h.ghrefl,h1,b1,rfl,b2,by rw[← h1.length];exact zh hb.1⟩
  replace e:=qa e;obtain⟨p,hp,e⟩:=e
  obtain⟨V1,G1,g1,r1⟩:=qdc h hr (x:=p.1) (st':=p.2) (by rw[hp])
  split at e
  · rename_i l hl
    cases hb:Nat.beq l.length kk with
    | false=>rw[hb]at e;simp at e
    | true=>
     rw[hb]at e;simp only[zf,zb,Km]at e;obtain⟨rfl,rfl⟩:=e;rw[hl]at r1;cases r1 with | @agg _ vs a1 a2=>
     have:=zh hb
     exact⟨V1,G1,vs,g1,RepSs.ofT a1,YX a2,rfl,QL a1 a2,by rw[← a1.length];exact this⟩
  · simp at e
 | false=>
  simp only[zj]at e;cases ho:(JS sv&&Nat.beq kk 1)with
  | false=>rw[ho]at e;simp at e
  | true=>
   rw[ho]at e;simp only[zf,zb,Km]at e;obtain⟨rfl,rfl⟩:=e;simp only[zk]at ho;obtain⟨h1,h2,h3⟩:=YW hr ho.1;exact⟨V,G,[v],h.ghrefl,.cons hr .nil,by simpa using h3,h2,by simpa using h1,(zh ho.2).symm⟩
theorem qdX(T:Tabs P){t:TypeId}{x y:Operand}{b off kk:Nat}{v:Value}{l vs r:List Value}{e:TypeId}{g:Bool}{G':Own}(hx:ev L x=some (.pointer (some ⟨b,off,none⟩)))(hy:ev L y=some v)(hc:v.cells=vs.toArray)
 (h1:∀u∈vs,u.oneCell'=true) (ht:T.ty t=some (g,kk)) (hk:vs.length=kk) (hu:Upd G b (.cells l.toArray e (0,0)) (.cells r.toArray e (0,0)) G') (hp:yC l off vs=some r) (k':Q undef V G') :
 Opr P n X L V G ⟨ds,.store t x y,ty,pos,af,gd⟩ Q:=qnL T hx hy hc h1 ht hk hu hp k'
theorem qfr{α:Type}:∀ {a b c r:List α},jx a c=some r→jx (a++b) c=some (r++b)
 | a,b,[],r,e=>by
  have:r=a:=by cases a <;> simp[jx]at e <;> first | exact e.symm | exact e
  subst this;cases r <;> cases b <;> simp[jx]
 | [],b,x::c,r,e=>by simp[jx]at e
 | y::a,b,x::c,r,e=>by
  simp only[jx]at e;replace e:=qa e;obtain⟨r',hr,e⟩:=e
  simp at e;subst e;simp[jx,qfr hr]
theorem qh3{α:Type}:∀ {a b:List α} {o:Nat} {c r:List α},yi a o c=some r→yi (a++b) o c=some (r++b)
 | a,b,0,c,r,e=>by
  have e':jx a c=some r:=by cases a <;> simpa[yi]using e
  have:=qfr (b:=b) e'
  cases h:a++b <;> rw[h]at this <;> simpa[yi]using this
 | [],b,o+1,c,r,e=>by simp[yi]at e
 | y::a,b,o+1,c,r,e=>by
  simp only[yi]at e;replace e:=qa e;obtain⟨r',hr,e⟩:=e
  simp at e;subst e;simp[yi,qh3 hr]
theorem qfs{α:Type}:∀ {a b:List α} {o:Nat} {c r:List α},yi b o c=some r→yi (a++b) (a.length+o) c=some (a++r)
 | [],b,o,c,r,e=>by simpa using e
 | y::a,b,o,c,r,e=>by
  rw[zy,show a.length+1+o=(a.length+o)+1 by omega,Ve];simp only[yi,qfs e,zd,Ve]
theorem qjO{x y:T}{off:Nat}{cs:List T}(h:qxV x off cs=some y)(hc:∀z∈cs,z.isAgg=false):yi x.cells off cs=some y.cells:=by
 unfold qxV at h;split at h
 · replace h:=qa h;obtain⟨q,hq,h⟩:=h
   simp at h;subst h;simpa[T.cells]using hq
 · rename_i hx
   split at h
   · rename_i c
     cases hca:c.isAgg with
     | true=>rw[hca]at h;simp at h
     | false=>
      rw[hca]at h;simp at h;subst h;have e1:x.cells=[x]:=by cases x <;> first | rfl | (exfalso;exact hx _ rfl)
      have e2:c.cells=[c]:=by cases c <;> first | rfl | (simp[T.isAgg]at hca)
      rw[e1,e2];simp[yi,jx]
   · simp at h
theorem qft{α:Type}:∀ {a b:List α},a.length=b.length→jx a b=some b
 | [],[],_=>by simp[jx]
 | [],_::_,h=>by simp at h
 | _::_,[],h=>by simp at h
 | _::a,v::b,h=>by simp only[jx,qft (a:=a) (b:=b) (by simpa using h)];rfl
theorem qdY{w:Nat}{x y c:T}{off:Nat}(h:qnZ w x off c=some y)(hx:x.cells.length=w)(hc:∀z∈c.cells,z.isAgg=false):yi x.cells off c.cells=some y.cells:=by
 unfold qnZ at h;cases hb:(Nat.beq off 0&&(Nat.beq c.cells.length w&&c.isAgg))with
 | true=>
  rw[hb,zf,zb]at h;subst h;simp only[zk]at hb;have e1:=zh hb.1;have e2:=zh hb.2.1;subst e1;have:=qft (a:=x.cells) (b:=c.cells) (by omega)
  cases hx:x.cells <;> rw[hx]at this <;> simpa[yi]using this
 | false=>rw[hb,zj]at h;exact qjO h hc
theorem qdZ{w off:Nat}{cs:List T}{x y:T}(h:yi x.cells off cs=some y.cells):∀ {l:List T} {i:Nat},l[i]?=some x→(∀z∈l,z.cells.length=w)→yi (l.flatMap T.cells) (i*w+off) cs=some ((l.set i y).flatMap T.cells)
 | [],i,hi,_=>by simp at hi
 | z::l,0,hi,hw=>by
  simp at hi;subst hi;rw[Kt,K7,zF,Wn,Kt];exact qh3 h
 | z::l,i+1,hi,hw=>by
  simp at hi;have ih:=qdZ h hi (fun q hq=>hw q (zq _ hq))
  rw[Kt,Wp,Kt];have hz:=hw z (zE ..)
  have:=qfs (a:=z.cells) ih
  rwa [hz,show w+(i*w+off)=(i+1)*w+off by rw[zR];omega]at this
theorem qd0:∀ {a b c r:List Value},jX a c=some r→jX (a++b) c=some (r++b)
 | a,b,[],r,e=>by
  have:r=a:=by cases a <;> simp[jX]at e <;> first | exact e.symm | exact e
  subst this;cases r <;> cases b <;> simp[jX]
 | [],b,x::c,r,e=>by simp[jX]at e
 | y::a,b,x::c,r,e=>by
  simp only[jX]at e;cases hq:jX a c with
  | none=>rw[hq]at e;simp at e
  | some q=>rw[hq]at e;simp at e;subst e;simp[jX,qd0 (b:=b) hq]
theorem qb3:∀ {a b:List Value} {o:Nat} {c r:List Value},yC a o c=some r→yC (a++b) o c=some (r++b)
 | a,b,0,c,r,e=>by
  have e':jX a c=some r:=by cases a <;> simpa[yC]using e
  have:=qd0 (b:=b) e'
  cases h:a++b <;> rw[h]at this <;> simpa[yC]using this
 | [],b,o+1,c,r,e=>by simp[yC]at e
 | y::a,b,o+1,c,r,e=>by
  simp only[yC]at e;cases hq:yC a o c with
  | none=>rw[hq]at e;simp at e
  | some q=>rw[hq]at e;simp at e;subst e;simp[yC,qb3 (b:=b) hq]
theorem IPf.set{H:List OB}{I:List IE}{n:Nat}{l l':List SV}(hn:H[n]?=some (.cells l)):IPf H I (H.set n (.cells l')) I :=
 ⟨fun _ _ h=>h,fun m e k x hm=>⟨rfl,x,by
   rw[Kj]
   · exact hm
   · rintro rfl;rw[hn]at hm;cases hm⟩,zw _⟩
theorem IPf.setrow{H:List OB}{I:List IE}{n e k:Nat}{fx:Bool}{l l':List T}(hn:H[n]?=some (.row fx e k l)):IPf H I (H.set n (.row fx e k l')) I :=
 ⟨fun _ _ h=>h,fun m e' k' x hm=>⟨rfl,by
   by_cases hmn:n=m
   · subst hmn
     rw[hn]at hm;simp only[zb,OB.row.injEq]at hm;obtain⟨rfl,rfl,rfl,rfl⟩:=hm;exact⟨l',by rw[VG (zn.1 hn).1]⟩
   · exact⟨x,by rw[Kj hmn];exact hm⟩⟩,zw _⟩
theorem qa0{V:qb}{I I':List IE}(hI:Ile I I'):∀ {l:List SV} {us:List Value} {hs:List (Option (Nat×Nat))} {nn:Nat},RepSs V I l us→(∀s∈l,jt s=true)→(∀j,j<(Qr nn l hs).2.length→I'[nn+j]?=some .vrow) →
 RepSs V I' (Qr nn l hs).1 us∧(∀s∈(Qr nn l hs).1,jt s=true)∧GRel V I' (List.replicate (Qr nn l hs).2.length .vrow) (Qr nn l hs).2 []
 | l,us,[],nn,h,hc,_=>by
  have e:Qr nn l []=(l,[]):=by cases l <;> rfl
  rw[e];exact⟨h.mono (Sub.refl _) hI,hc,.nil⟩
 | [],us,o::hs,nn,h,hc,_=>⟨h.mono (Sub.refl _) hI,hc,.nil⟩
 | x::l,_,none::hs,nn,.cons h h',hc,hv=>by
  obtain⟨i1,i2,i3⟩:=qa0 hI (hs:=hs) (nn:=nn) h' (fun s hs=>hc s (by simp[hs])) hv
  exact⟨.cons (h.mono (Sub.refl _) hI) i1,fun s hs=>by
   rcases zN.1 hs with rfl | hs
   · exact hc _ (by simp)
   · exact i2 s hs,i3⟩
 | x::l,_,some p::hs,nn,.cons h h',hc,hv=>by
  by_cases hx:x = .t (.s (.slice none 0 0))
  · subst hx
    have hv':∀j,j<(Qr (nn+1) l hs).2.length+1→I'[nn+j]?=some .vrow:=hv
    obtain⟨i1,i2,i3⟩:=qa0 hI (hs:=hs) (nn:=nn+1) h' (fun s hs=>hc s (by simp[hs])) (fun j hj=>by
     have:=hv' (j+1) (by omega)
     rwa [show nn+1+j=nn+(j+1) by omega])
    have h0:=hv' 0 (by omega)
    have:=jM h;subst this
    refine⟨.cons (.oslv (by simpa using h0)) i1,fun s hs=>?_,?_⟩
    · rcases zN.1 hs with rfl | hs
      · rfl
      · exact i2 s hs
    · show GRel V I' (List.replicate ((Qr (nn+1) l hs).2.length+1) .vrow) (.row false p.1 p.2 []::(Qr (nn+1) l hs).2) []
      rw[VH];exact .cons (g:=[]) (G:=[]) .vrow i3
  · have e:Qr nn (x::l) (some p::hs)=(x::(Qr nn l hs).1,(Qr nn l hs).2):=by
     simp only[Qr]
    rw[e]at hv ⊢;obtain⟨i1,i2,i3⟩:=qa0 hI (hs:=hs) (nn:=nn) h' (fun s hs=>hc s (by simp[hs])) hv
    exact⟨.cons (h.mono (Sub.refl _) hI) i1,fun s hs=>by
     rcases zN.1 hs with rfl | hs
     · exact hc _ (by simp)
     · exact i2 s hs,i3⟩
theorem qov{V:qb}{I:List IE}{b:Bool}{c:List SV×St}{hs:List (Option (Nat×Nat))}{L:Lo}{G:Own}{us:List Value}(h:SR V I c.2 L G)(hr:RepSs V I c.1 us)(hc:∀s∈c.1,jt s=true) :
 ∃I',SR V I' (qhR b c hs).2 L G∧RepSs V I' (qhR b c hs).1 us∧(∀s∈(qhR b c hs).1,jt s=true)∧IPf c.2.H I (qhR b c hs).2.H I'∧Ile I I':=by
 cases b with
 | false=>exact⟨I,h,hr,hc,IPf.refl _ _,Ile.refl I⟩
 | true=>
  have hlen:=h.len;obtain⟨j1,j2,j3⟩:=qa0 (V:=V) (I:=I) (I':=I++List.replicate (Qr c.2.H.length c.1 hs).2.length .vrow) (Ile.app _ _) (hs:=hs) (nn:=c.2.H.length) hr hc (fun j hj=>by
   rw[zO (by omega),Vg,zr (by omega)])
  have h3:=h.new (g:=[]) j3
  exact⟨_,h3,j1,j2,IPf.app hlen,Ile.app _ _⟩
theorem qow(S:Sound P E.T){t:Nat}{a x:Operand}(h:Pre fr E V I st L G xs)(ha:qX E st V I L a)(hx:qX E st V I L x)(he:qaM E fr st t a x k=some r):Opr P n X L V G ⟨ds,.store t a x,ty,pos,af,gd⟩ (ji fr r k V I st L G):=by
 unfold qaM at he;cases fr with
 | false=>simp at he
 | true=>
  simp only[zf]at he;replace he:=qa he;obtain⟨sa,hsa,he⟩:=he
  replace he:=qa he;obtain⟨sx,hsx,he⟩:=he
  obtain⟨va,hva,hra⟩:=ha sa hsa;obtain⟨vx,hvx,hrx⟩:=hx sx hsx;unfold stO at he;replace he:=qa he;obtain⟨p,hp,he⟩:=he
  have hT:=S.ty t (p.1,p.2) hp
  split at he
  · rename_i m off
    replace he:=qa he;obtain⟨c,hc,he⟩:=he
    obtain⟨V1,G1,us,g1,u1,u2,u3,u4,u5⟩:=qdW h hrx (c:=c.1) (st':=c.2) (by rw[hc])
    refine Jk g1 ?_
    have hS0:=(g1.yes rfl).1
    obtain⟨I1,hS,u1,u2,hip,hile⟩:=qov (b:=true&&(p.1&&E.T.bz E.f)) (hs:=E.T.zs t) hS0 u1 u2
    unfold stC at he;split at he
    · rename_i l hn
      replace he:=qa he;obtain⟨q,hq,he⟩:=he
      obtain⟨ie,g,G2,k1,k2,k3,k4⟩:=hS.turn hn;cases k2 with | @cells _ vs b e h1 h2=>
      cases hra with | ref hI=>
      replace hI:=hile _ _ hI
      rw[k1]at hI;simp only[zb,IE.blk.injEq]at hI;subst hI;obtain⟨rs,p1,p2⟩:=qkQ h1 u1 hq;refine Qk k3 (jN (qdX S.tb hva hvx u3 u4 hT u5 .here p1 fun hf=>?_))
      have hs:=k4 (.cells q) [(b,.cells rs.toArray e (0,0))] (.cells p2 fun s hs=>(qdb hq s hs).elim (h2 s) (u2 s))
      exact⟨V1,_,Gh.refl hf,Sub.refl _,I1,_,_,he,hs,.un,hip.trans (IPf.set hn)⟩
    · simp at he
  · rename_i m i off
    replace he:=qa he;obtain⟨c,hc,he⟩:=he
    obtain⟨V1,G1,g1,r1⟩:=qdc h hrx (x:=c.1) (st':=c.2) (by rw[hc])
    refine Jk g1 ?_
    have hS:=(g1.yes rfl).1
    split at he
    · rename_i fx e w l hn
      replace he:=qa he;obtain⟨z,hz,he⟩:=he
      replace he:=qkD he
      cases hck:((bif p.1 then c.1.isAgg else !c.1.isAgg)&&Nat.beq c.1.cells.length p.2)with
      | false=>rw[hck]at he;simp at he
      | true=>
       rw[hck]at he;simp only[zf]at he;replace he:=qa he;obtain⟨y,hy,he⟩:=he
       obtain⟨us,u1,u2,u3⟩:=r1.cells;obtain⟨ie,g,G2,k1,k2,k3,k4⟩:=hS.turn hn;cases k2 with
       | vrow=>simp at hz
       | @row _ _ _ b ct _ cur a1 a2 a3 a4 a5 a6=>
        cases hra with | @ep _ _ _ b' k' ct' hI=>
        rw[k1]at hI;simp only[zb,IE.row.injEq]at hI;obtain⟨hbb,hkk,hcc⟩:=hI;subst hbb hkk hcc
        have hput:=qdY hy (a6 z (Kp hz)) u3
        have hfp:=qdZ hput hz a6;obtain⟨rs,p1,p2⟩:=qdU a4 u2 hfp;have p3:=qb3 (b:=cur.toList.drop (l.length*w)) p1
        rw[KY]at p3;simp only[zk]at hck;have hul:us.length=p.2:=by rw[← u2.length];exact zh hck.2
        have hrsl:rs.length=l.length*w:=by
         rw[← p2.length,YY hfp,Qg a6]
        have hle:l.length*w≤cur.size:=by rw[a1];exact zu _ a3
        refine Qk k3 (jN (qdX S.tb hva hvx u1 (QL u2 u3) hT hul (by rw[← Vj (xs:=cur)];exact .here) p3 fun hf=>?_))
        have hs:=k4 (.row fx e w (l.set i y)) [(b,.cells (rs++cur.toList.drop (l.length*w)).toArray e (0,0))] (.row
         (by simp only[Vi,zJ,Kl,KH,hrsl];omega) a2 (by simpa using a3)
         (by simp only[List.length_set];rw[← hrsl,Wj];exact p2)
         (fun q hq=>(qdb hfp q hq).elim (a5 q) (u3 q))
         (fun q hq=>by
           rcases V9 hq with hq | rfl
           · exact a6 q hq
           · rw[YY hput];exact a6 z (Kp hz)))
        exact⟨V1,_,Gh.refl hf,Sub.refl _,I,_,_,he,hs,.un,IPf.setrow hn⟩
    · simp at he
  · simp at he
end
end Su
end
