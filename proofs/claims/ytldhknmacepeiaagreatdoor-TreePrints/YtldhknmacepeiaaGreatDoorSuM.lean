/-
  An evaluator, proved sound. No condition.
-/
import Derived.Test.YtldhknmacepeiaaGreatDoorSuK
set_option linter.unusedVariables false
set_option linter.unusedSimpArgs false
section
namespace Su
open Go Fly
section
variable {fr:Bool} {P:Program} {E:Env} {n:Nat} {X:Cx} {L:Lo} {V:qc} {I:List IE} {G:Own} {st:St} {O:Type} {r:O} {k:SV→St→Option O} {xs:List Operand} {Q:Value→qc→Own→Prop}
variable {ty:TypeId} {pos:String} {af:Array Edge} {gd:Option (Nat×Bool)} {ds:Option Tmp}
def bnd(E:Env)(st:St)(L:Lo)(d:Int)(x:Option Operand)(j:Int):Prop :=
 match x with
 | none=>j=d
 | some x=>∃κ,ev L x=some (.int κ j)
theorem qat{d j:Int}{x:Option Operand}(hx:∀y,x=some y→jm E st V I L y)(h:qcu E st d x=some j):bnd E st L d x j:=by
 cases x with
 | none=>simp[qcu]at h;exact h.symm
 | some x=>
  simp only[qcu]at h;replace h:=qf h;obtain⟨s,hs,h⟩:=h
  obtain⟨κ,rfl⟩:=YI h;obtain⟨v,hv,hr⟩:=hx x rfl _ hs;have:=jY hr;subst this
  exact⟨κ,hv⟩
theorem ZY(a:Option Addr)(c k:Nat):YF a 0 c k=a:=by
 unfold YF;split
 · rfl
 · cases a <;> simp[Addr.add]
theorem qau(T:Tabs P){t e kk:Nat}{x:Operand}{lo hi:Option Operand}{a:Option Addr}{len cap:Nat}{i j:Int}(hx:ev L x=some (.slice a len cap))(hE:T.el t=some (e,kk))(hl:bnd E st L 0 lo i)(hh:bnd E st L len hi j)
 (h0:0≤i) (h1:i≤j) (h2:j≤(len:Int)) (hc:len≤cap) (k':Q (.slice (YF a i.toNat cap kk) (j-i).toNat (cap-i.toNat)) V G):Opr P n X L V G ⟨ds,.slice t x lo hi none,ty,pos,af,gd⟩ Q:=by
 obtain⟨hu,g,hT⟩:=yZ (T.el_ok _ _ hE)
 have e1:(j-i).toNat=j.toNat-i.toNat:=by omega
 rw[e1]at k';cases lo with
 | none=>
  have:i=0:=hl
  subst this;rw[show(0:Int).toNat=0 from rfl,ZY,Vz,Vz]at k';cases hi with
  | none=>
   have:j=len:=hh
   subst this;rw[zn]at k';refine qP (fun ac w ha=>?_) k'
   have e1:(a.map fun q:Addr=>q.add 0)=a:=by cases a <;> simp[Addr.add]
   simp[execOp,ha.ev hx,Instr.sliceAt,Instr.slice,Fly.run_underlying hu,Instr.sliceBounds,Instr.sliceBound,asIntOf,(jK hT w).2.1,e1,hc]
  | some y=>
   obtain⟨κ,hy⟩:=hh;exact qni T hx hy hE (by omega) (by omega) k'
 | some z=>
  obtain⟨κ,hz⟩:=hl;cases hi with
  | none=>
   have:j=len:=hh
   subst this;rw[zn]at k';exact qnj T hx hz hE h0 (by omega) k'
  | some y=>
   obtain⟨κ',hy⟩:=hh;exact qkj T hx hz hy hE h0 h1 (by omega) k'
theorem qhA{t:TypeId}{x:Operand}{lo hi:Option Operand}{s:ByteArray}{i j:Int}(hx:ev L x=some (.string s))(hu:P.underlying t=some .string)(hl:bnd E st L 0 lo i)(hh:bnd E st L s.size hi j)
 (h0:0≤i) (h1:i≤j) (h2:j≤(s.size:Int)) (k':Q (.string (s.extract i.toNat j.toNat)) V G):Opr P n X L V G ⟨ds,.slice t x lo hi none,ty,pos,af,gd⟩ Q:=by
 cases lo with
 | none=>
  have:i=0:=hl
  subst this;cases hi with
  | none=>
   have:j=s.size:=hh
   subst this;refine qP (fun ac w ha=>?_) k'
   simp[execOp,ha.ev hx,Instr.sliceAt,Instr.slice,Fly.run_underlying hu,Instr.sliceBounds,Instr.sliceBound,asIntOf]
  | some y=>
   obtain⟨κ,hy⟩:=hh;refine qP (fun ac w ha=>?_) k'
   have h3:0≤j:=by omega
   simp[execOp,ha.ev hx,ha.ev hy,Instr.sliceAt,Instr.slice,Fly.run_underlying hu,Instr.sliceBounds,Instr.sliceBound,asIntOf,h3,h2]
 | some z=>
  obtain⟨κ,hz⟩:=hl;cases hi with
  | none=>
   have:j=s.size:=hh
   subst this;refine qP (fun ac w ha=>?_) k'
   simp[execOp,ha.ev hx,ha.ev hz,Instr.sliceAt,Instr.slice,Fly.run_underlying hu,Instr.sliceBounds,Instr.sliceBound,asIntOf,h0,h1]
  | some y=>
   obtain⟨κ',hy⟩:=hh;exact qiN hx hz hy hu h0 h1 h2 k'
theorem qnK(T:Tabs P){t e kk:Nat}{x h m:Operand}{a:Option Addr}{len cap:Nat}{i:Int}{κ κ':IntKind}(hx:ev L x=some (.slice a len cap))(hE:T.el t=some (e,kk))(hh:ev L h=some (.int κ 0))(hm:ev L m=some (.int κ' i))
 (h0:0≤i) (h1:i≤(cap:Int)) (k':∀b,Q (.slice b 0 i.toNat) V G):Opr P n X L V G ⟨ds,.slice t x none (some h) (some m),ty,pos,af,gd⟩ Q:=by
 obtain⟨hu,g,hT⟩:=yZ (T.el_ok _ _ hE)
 refine qP (fun ac w ha=>?_) (k' (if i.toNat=0 then a else a.map fun q:Addr=>q.add 0))
 simp[execOp,ha.ev hx,ha.ev hh,ha.ev hm,Instr.sliceAt,Instr.slice,Fly.run_underlying hu,Instr.sliceBounds,Instr.sliceBound,asIntOf,h0,h1,(jK hT w).2.1]
theorem qa8(T:Tabs P){t e kk:Nat}{x h m:Operand}{a:Option Addr}{len cap:Nat}{i j:Int}{κ κ':IntKind}(hx:ev L x=some (.slice a len cap))(hE:T.el t=some (e,kk))(hh:ev L h=some (.int κ j))(hm:ev L m=some (.int κ' i))
 (h0:0≤j) (h1:j≤i) (h2:i≤(cap:Int)) (k':Q (.slice a j.toNat i.toNat) V G):Opr P n X L V G ⟨ds,.slice t x none (some h) (some m),ty,pos,af,gd⟩ Q:=by
 obtain⟨hu,g,hT⟩:=yZ (T.el_ok _ _ hE)
 have e0:(if i.toNat=0 then a else a.map fun q:Addr=>q.add 0)=a:=by
  split
  · rfl
  · cases a with
    | none=>rfl
    | some q=>simp[Addr.add]
 refine qP (fun ac w ha=>?_) (by rw[← e0]at k';exact k')
 have h3:0≤i:=by omega
 simp[execOp,ha.ev hx,ha.ev hh,ha.ev hm,Instr.sliceAt,Instr.slice,Fly.run_underlying hu,Instr.sliceBounds,Instr.sliceBound,asIntOf,h0,h1,h2,h3,(jK hT w).2.1]
 all_goals (intro hlt;omega)
theorem qpu(S:Sound P E.T){t:Nat}{x:Operand}{lo hi mx:Option Operand}(h:Pre fr E V I st L G xs)(hx:jm E st V I L x)(hlo:∀y,lo=some y→jm E st V I L y)(hhi:∀y,hi=some y→jm E st V I L y)(hmx:∀y,mx=some y→jm E st V I L y)(he:qdw E st t x lo hi mx k=some r) :
 Opr P n X L V G ⟨ds,.slice t x lo hi mx,ty,pos,af,gd⟩ (jv fr r k V I st L G):=by
 unfold qdw at he;split at he
 case h_2 m=>
  unfold qwe at he;split at he
  case h_2=>simp at he
  rename_i hh;replace he:=qf he;obtain⟨sv,hsv,he⟩:=he
  replace he:=qf he;obtain⟨sh,hsh,he⟩:=he
  replace he:=qf he;obtain⟨sm,hsm,he⟩:=he
  replace he:=qf he;obtain⟨j,hj,he⟩:=he
  replace he:=qf he;obtain⟨i,hi',he⟩:=he
  replace he:=qf he;obtain⟨p,hp,he⟩:=he
  obtain⟨v,hv,hr⟩:=hx sv hsv;obtain⟨vh,hvh,hrh⟩:=hhi hh rfl sh hsh;obtain⟨vm,hvm,hrm⟩:=hmx m rfl sm hsm;obtain⟨κ,rfl⟩:=YI hj;obtain⟨κ',rfl⟩:=YI hi';have:=jY hrh;subst this
  have:=jY hrm;subst this
  split at he
  · rename_i n0 off len
    cases hoz:E.T.oz E.f with
    | false=>
     rw[hoz]at he;simp only[zo]at he;split at he
     · rename_i fx e' w l hn
       cases hck:(Nat.beq w p.2&&(decide (0≤j)&&(decide (j≤i)&&decide (i≤(len:Int)))))with
       | false=>rw[hck]at he;simp at he
       | true=>
        rw[hck,zg]at he;simp only[zp,zY]at hck;obtain⟨_,h0,h1,h2⟩:=hck;cases hr with
        | @osl _ _ _ b k' ct cap hI q1 q2 q3=>
         refine qa8 S.tb hv (S.el t (p.1,p.2) hp) hvh hvm h0 h1 (by omega) (h.post he ?_)
         exact .osl hI (by omega) q2 ⟨by omega,by omega⟩
        | osl0 q1 q2=>
         have hj0:j.toNat=0:=by omega
         have hi0:i.toNat=0:=by omega
         refine qa8 S.tb hv (S.el t (p.1,p.2) hp) hvh hvm h0 h1 (by omega) (h.post he ?_)
         rw[hj0,hi0];exact .osl0 q1 (Wv _)
        | oslv q1=>
         have hj0:j.toNat=0:=by omega
         have hi0:i.toNat=0:=by omega
         refine qa8 S.tb hv (S.el t (p.1,p.2) hp) hvh hvm h0 h1 (by omega) (h.post he ?_)
         rw[hj0,hi0];exact .oslv q1
        | oslp hI q2=>
         rcases h.mr.row hn with⟨b',ct',cur,a1,_⟩|⟨a1,_⟩ <;> (rw[hI]at a1;cases a1)
     · simp at he
    | true=>
    rw[hoz]at he;simp only[zg]at he;cases hck:(decide (j=0)&&(decide (0≤i)&&decide (i≤(len:Int))))with
    | false=>rw[hck]at he;simp at he
    | true=>
     rw[hck,zg]at he;simp only[zp,zY]at hck;obtain⟨rfl,h0,h1⟩:=hck;have:∃a cap,v = .slice a len cap∧len≤cap∧cap≤maxLen:=by
      cases hr with
      | osl _ h1 h2 h3=>exact⟨_,_,rfl,by omega,by omega⟩
      | osl0 _ h2=>exact⟨_,_,rfl,by omega,h2⟩
      | oslv _=>exact⟨_,_,rfl,zI _,by omega⟩
      | oslp _ h2=>exact⟨_,_,rfl,zI _,h2⟩
     obtain⟨a,cap,rfl,c1,c2⟩:=this;exact qnK S.tb hv (S.el t (p.1,p.2) hp) hvh hvm h0 (by omega) fun b=>h.post he (.t (.sl (l:=[]) (vs:=[]) .nil (by simp) (by simp) (by simp) (by omega) (.inl rfl)))
  · simp at he
 replace he:=qf he;obtain⟨sv,hsv,he⟩:=he
 obtain⟨v,hv,hr⟩:=hx sv hsv;unfold slO at he;split at he
 · rename_i hk
   replace he:=qf he;obtain⟨s,hs,he⟩:=he
   replace he:=qf he;obtain⟨i,hi',he⟩:=he
   replace he:=qf he;obtain⟨j,hj',he⟩:=he
   have:=qcD hs;subst this
   have hr0:=hr;have:=jY hr;subst this
   cases hck:(decide (0≤i)&&decide (i≤j)&&decide (j≤(s.size:Int)))with
   | false=>rw[hck]at he;simp at he
   | true=>
    rw[hck]at he;simp only[zg]at he;simp only[zp,zY]at hck;exact qhA hv (S.str _ hk) (qat hlo hi') (qat hhi hj') hck.1.1 hck.1.2 hck.2 (h.post he (.t (.s (by have:=qlT hr0;have h2:=hck.2;have h1:=hck.1.2;show Nat.ble _ _=true;rw[Wj,ByteArray.size_extract];omega))))
 · replace he:=qf he;obtain⟨p,hp,he⟩:=he
   have hE:=S.el t (p.1,p.2) hp
   have tree:∀ {l:List T} {i j:Int} {y:T},qcu E st 0 lo=some i→qcu E st l.length hi=some j→0≤i→i≤j→j≤l.length→RepS V I (.t (.sl p.2 l)) v →
    (∀w,Rep V (.sl p.2 ((l.drop i.toNat).take (j-i).toNat)) w→Rep V y w)→k (.t y) st=some r→Opr P n X L V G ⟨ds,.slice t x lo hi none,ty,pos,af,gd⟩ (jv fr r k V I st L G):=by
    intro l i j y hi' hj' h0 h1 h2 hr hy he;have hb1:=qat hlo hi';have hb2:=qat hhi hj';cases hr with|t hr=>cases hr with|@sl _ _ vs a cap a1 a2 a3 a4 a5 a6=>
    refine qau S.tb hv hE hb1 hb2 h0 h1 h2 a4 (h.post he (.t (hy _ ?_)))
    have hlen:((l.drop i.toNat).take (j-i).toNat).length=(j-i).toNat:=by simp;omega
    have hmem:∀y∈(l.drop i.toNat).take (j-i).toNat,y∈l:=fun y hy=>KY (V8 hy)
    have:=Rep.sl (V:=V) (k:=p.2) (l:=(l.drop i.toNat).take (j-i).toNat) (vs:=(vs.drop (i.toNat*p.2)).take ((j-i).toNat*p.2)) (a:=YF a i.toNat cap p.2) (cap:=cap-i.toNat)
     (by rw[JS _ (fun y hy=>a3 y (KY hy)),yY _ a3];exact(a1.drop _).take _)
     (fun y hy=>by obtain⟨z,hz,hy⟩:=KU.1 hy;exact a2 y (KU.2 ⟨z,hmem z hz,hy⟩))
     (fun y hy=>a3 y (hmem y hy)) (by omega) (by omega) (by
       by_cases hc:cap=i.toNat
       · refine .inl (KP.1 (by omega))
       · rcases a6 with a6|⟨b,off,rfl,a6⟩
         · subst a6;exact .inl (by simp)
         · refine .inr ⟨b,off+i.toNat*p.2,by rw[YF,zQ hc];simp[j8],fun q c hq=>?_⟩
           have:=a6 _ _ (qkP hq)
           rwa [← Kp]at this)
    rw[hlen]at this;exact this
   split at he
   · rename_i m off len
     split at he
     · rename_i fx e w l hn
       replace he:=qf he;obtain⟨i,hi',he⟩:=he
       replace he:=qf he;obtain⟨j,hj',he⟩:=he
       cases hck:(Nat.beq w p.2&&decide (0≤i)&&decide (i≤j)&&decide (j≤(len:Int)))with
       | false=>rw[hck]at he;simp at he
       | true=>
        rw[hck]at he;simp only[zg]at he;simp only[zp,zY]at hck;obtain⟨⟨⟨hw,h0⟩,h1⟩,h2⟩:=hck;have:=zd hw;subst this
        have hb1:=qat hlo hi';have hb2:=qat hhi hj';cases hr with
        | @osl _ _ _ b k' ct cap hI h3 h4 h5=>
         rcases h.mr.row hn with⟨b',ct',cur,a1,a2,a3,a4,a5,a6,a7,a8⟩|⟨a1,rfl⟩
         · rw[hI]at a1
           simp only[za,IE.row.injEq]at a1;obtain⟨rfl,rfl,rfl⟩:=a1;refine qau S.tb hv hE hb1 hb2 h0 h1 h2 (by omega) (h.post he ?_)
           by_cases hz:cap=i.toNat
           · by_cases ho:off+i.toNat=0
             · have hi0:i.toNat=0:=by omega
               have ho0:off=0:=by omega
               rw[hi0,ZY,ho0,zt];have:=RepS.osl (V:=V) (I:=I) (n:=m) (off:=0) (len:=(j-i).toNat) (cap:=cap-i.toNat) hI (by omega) h4 ⟨by omega,by omega⟩
               rw[hi0]at this;simpa using this
             · have:(j-i).toNat=0:=by omega
               rw[this];exact .osl0 ho (by omega)
           · have:=RepS.osl (V:=V) (I:=I) (n:=m) (off:=off+i.toNat) (len:=(j-i).toNat) (cap:=cap-i.toNat) hI (by omega) h4 ⟨by omega,by omega⟩
             rw[YF,zQ (by omega)];simp only[VQ,j8];rw[zR]at this;exact this
         · rw[hI]at a1;cases a1
        | osl0 h3 h4=>
         have hi0:i.toNat=0:=by omega
         have hj0:(j-i).toNat=0:=by omega
         refine qau S.tb hv hE hb1 hb2 h0 h1 h2 (by omega) (h.post he ?_)
         rw[hi0,hj0,KQ];exact .osl0 h3 (by omega)
        | oslv h3=>
         have hi0:i.toNat=0:=by simp at h2;omega
         have hj0:(j-i).toNat=0:=by simp at h2;omega
         refine qau S.tb hv hE hb1 hb2 h0 h1 h2 (by omega) (h.post he ?_)
         rw[hi0,hj0,ZY,KQ];exact .oslv h3
        | oslp hI _=>rcases h.mr.row hn with⟨b',ct',cur,a1,_⟩|⟨a1,_⟩ <;> (rw[hI]at a1;cases a1)
     · simp at he
   · rename_i u k' l
     replace he:=qf he;obtain⟨i,hi',he⟩:=he
     replace he:=qf he;obtain⟨j,hj',he⟩:=he
     cases hck:(Nat.beq k' p.2&&(decide (0≤i)&&decide (i≤j)&&decide (j≤(l.length:Int))))with
     | false=>rw[hck]at he;simp at he
     | true=>
      rw[hck]at he;simp only[zg]at he;simp only[zp,zY]at hck;obtain⟨hw,⟨h0,h1⟩,h2⟩:=hck;have:=zd hw;subst this
      refine tree (l:=l.map (view u)) (i:=i) (j:=j) (y:=.ql u p.2 ((l.drop i.toNat).take (j-i).toNat)) hi' (by rw[zV];exact hj') h0 h1 (by rw[zV];exact h2) (by cases hr with|t hr=>cases hr with|ql hr=>exact .t hr) (fun w hw=>.ql (by rw[List.map_take,List.map_drop];exact hw)) he
   · replace he:=qf he;obtain⟨l,hl,he⟩:=he
     replace he:=qf he;obtain⟨i,hi',he⟩:=he
     replace he:=qf he;obtain⟨j,hj',he⟩:=he
     have hr:=qbF hl hr;cases hck:(decide (0≤i)&&decide (i≤j)&&decide (j≤(l.length:Int)))with
     | false=>rw[hck]at he;simp at he
     | true=>
      rw[hck]at he;simp only[zg]at he;simp only[zp,zY]at hck;obtain⟨⟨h0,h1⟩,h2⟩:=hck;exact tree hi' hj' h0 h1 h2 hr (fun w hw=>hw) he
end
end Su
end
section
namespace Su
open Go Fly
theorem SR.turn{V:qc}{I:List IE}{st:St}{L:Lo}{G:Own}(h:SR V I st L G){n:Nat}{ob:OB}(hn:st.H[n]?=some ob) :
 ∃ie g G1,I[n]?=some ie∧RepOB V I ob ie g∧G.Perm (g++G1)∧∀ob' g',RepOB V I ob' ie g'→SR V I ⟨st.K,st.Tm,st.H.set n ob'⟩ L (g'++G1):=by
 obtain⟨G0,h1,h2⟩:=h.mem;obtain⟨ie,g,G1,k1,k2,k3,k4⟩:=h1.focus hn;refine⟨ie,g,G1,k1,k2,h2.trans k3,fun ob' g' hr=>?_⟩
 obtain⟨G2,j1,j2⟩:=k4 ob' ie g' hr;rw[QU k1]at j1;exact⟨⟨G2,j1,j2.symm⟩,fun d sv hd hb=>h.slot d sv hd hb⟩
theorem qc3{V:qc}{I:List IE}{n:Nat}(ie':IE):qV V V I (I.set n ie') (j4 n):=by
 intro x v hx h1 h2 h3';have other:∀m,Nat.beq m n=false→(I.set n ie')[m]?=I[m]?:=fun m hb=>by
  rw[Kh]
  rintro rfl;simp at hb
 cases hx with
 | t h=>exact .t h
 | un=>exact .un
 | bad=>exact .bad
 | @ref m off b h=>
  simp only[j4];cases hb:Nat.beq m n with
  | true=>exact .bad
  | false=>exact .ref (by rw[other m hb];exact h)
 | @osl m off len b k ct cap h h3 h4 h5=>
  simp only[j4];cases hb:Nat.beq m n with
  | true=>exact .bad
  | false=>exact .osl (by rw[other m hb];exact h) h3 h4 h5
 | @osl0 m off cap a h0 h=>
  simp only[j4];cases hb:Nat.beq m n with
  | true=>exact .bad
  | false=>exact .osl0 h0 h
 | @oslv m h=>
  simp only[j4];cases hb:Nat.beq m n with
  | true=>exact .bad
  | false=>exact .oslv (by rw[other m hb];exact h)
 | @oslp m len b h h3=>
  simp only[j4];cases hb:Nat.beq m n with
  | true=>exact .bad
  | false=>exact .oslp (by rw[other m hb];exact h) h3
 | @ep m i off b k ct h=>
  simp only[j4];cases hb:Nat.beq m n with
  | true=>exact .bad
  | false=>exact .ep (by rw[other m hb];exact h)
 | clo h h'=>exact absurd rfl (h1 _ _ _)
 | tup h=>exact absurd rfl (h2 _)
 | st h=>exact absurd rfl (h3' _)
theorem qc4(n:Nat)(x:SV)(h:jG x=true):jG (j4 n x)=true:=by
 cases x <;> simp only[j4] <;> try exact h
 all_goals (cases Nat.beq _ _ <;> rfl)
theorem RepOB.row_any{V:qc}{I I':List IE}{fx:Bool}{e k:Nat}{l:List T}{ie:IE}{g:Own}(h:RepOB V I (.row fx e k l) ie g):RepOB V I' (.row fx e k l) ie g:=by
 cases h with
 | row h1 h2 h3 h4 h5 h6=>exact .row h1 h2 h3 h4 h5 h6
 | vrow=>exact .vrow
theorem SR.moved{V:qc}{I:List IE}{st:St}{L:Lo}{G:Own}(h:SR V I st L G){n:Nat}{fx:Bool}{e k:Nat}{l:List T}(hn:st.H[n]?=some (.row fx e k l)) :
 ∃ie g G1,I[n]?=some ie∧RepOB V I (.row fx e k l) ie g∧G.Perm (g++G1)∧∀(l':List T) (ie':IE) (g':Own),RepOB V I (.row fx e k l') ie' g'→SR V (I.set n ie') { st.mp (j4 n)with H:=(st.mp (j4 n)).H.set n (.row fx e k l') } L (g'++G1):=by
 obtain⟨G0,h1,h2⟩:=h.mem;obtain⟨ie,g,G1,k1,k2,k3,k4⟩:=h1.focus hn;refine⟨ie,g,G1,k1,k2,h2.trans k3,fun l' ie' g' hr=>?_⟩
 obtain⟨G2,j1,j2⟩:=k4 (.row fx e k l') ie' g' hr
 have hleaf:=qc3 (V:=V) (I:=I) (n:=n) ie'
 have j3:=j1.map (Sub.refl _) hleaf (qc4 n)
 rw[WF]at j3;exact⟨⟨G2,j3,j2.symm⟩,J3 hleaf rfl h.slot⟩
section
variable {fr:Bool} {P:Program} {E:Env} {n:Nat} {X:Cx} {L:Lo} {V:qc} {I:List IE} {G:Own} {st:St} {O:Type} {r:O} {k:SV→St→Option O} {xs:List Operand} {Q:Value→qc→Own→Prop}
variable {ty:TypeId} {pos:String} {af:Array Edge} {gd:Option (Nat×Bool)} {ds:Option Tmp}
theorem Jt{V:qc}:∀ {l:List T} {vs:List Value},RepA V l vs→(∀x∈l,x.isAgg=false)→∀u∈vs,u.oneCell'=true
 | _,_,.nil,_,u,h=>by simp at h
 | _,_,.cons h h',hc,u,hu=>by
  rcases zK.1 hu with rfl|hu
  · exact(h.one (hc _ (zM ..))).1
  · exact Jt h' (fun y hy=>hc y (zE _ hy)) u hu
theorem qeC{g:Bool}{kk:Nat}{sv:SV}{v:Value}{c:List SV}{st':St}(h:Pre fr E V I st L G xs)(hr:RepS V I sv v)(e:cellsOf fr st g kk sv=some (c,st')) :
 ∃V' G' us,GhF fr I L V G st V' G' st'∧RepSs V' I c us∧(∀s∈c,jG s=true)∧v.cells=us.toArray∧(∀u∈us,u.oneCell'=true)∧us.length=kk:=by
 unfold cellsOf at e;cases g with
 | true=>
  simp only[zg]at e;split at e
  · rename_i l
    cases hb:(Nat.beq l.length kk&&JF l)with
    | false=>rw[hb]at e;simp at e
    | true=>
     rw[hb]at e;simp only[zg,za,Km]at e;obtain⟨rfl,rfl⟩:=e;simp only[zp]at hb;cases hr with|st h1=>
     obtain⟨b1,b2⟩:=qbK h1 hb.2;exact⟨V,G,_,h.ghrefl,h1,b1,rfl,b2,by rw[← h1.length];exact zd hb.1⟩
  replace e:=qf e;obtain⟨p,hp,e⟩:=e
  obtain⟨V1,G1,g1,r1⟩:=qdC h hr (x:=p.1) (st':=p.2) (by rw[hp])
  split at e
  · rename_i l hl
    cases hb:Nat.beq l.length kk with
    | false=>rw[hb]at e;simp at e
    | true=>
     rw[hb]at e;simp only[zg,za,Km]at e;obtain⟨rfl,rfl⟩:=e;rw[hl]at r1;cases r1 with|@agg _ vs a1 a2=>
     have:=zd hb
     exact⟨V1,G1,vs,g1,RepSs.ofT a1,ZW a2,rfl,Jt a1 a2,by rw[← a1.length];exact this⟩
  · simp at e
 | false=>
  simp only[zo]at e;cases ho:(YR sv&&Nat.beq kk 1)with
  | false=>rw[ho]at e;simp at e
  | true=>
   rw[ho]at e;simp only[zg,za,Km]at e;obtain⟨rfl,rfl⟩:=e;simp only[zp]at ho;obtain⟨h1,h2,h3⟩:=ZV hr ho.1;exact⟨V,G,[v],h.ghrefl,.cons hr .nil,by simpa using h3,h2,by simpa using h1,(zd ho.2).symm⟩
theorem qeD(T:Tabs P){t:TypeId}{x y:Operand}{b off kk:Nat}{v:Value}{l vs r:List Value}{e:TypeId}{g:Bool}{G':Own}(hx:ev L x=some (.pointer (some ⟨b,off,none⟩)))(hy:ev L y=some v)(hc:v.cells=vs.toArray)
 (h1:∀u∈vs,u.oneCell'=true) (ht:T.ty t=some (g,kk)) (hk:vs.length=kk) (hu:Upd G b (.cells l.toArray e (0,0)) (.cells r.toArray e (0,0)) G') (hp:Qh l off vs=some r) (k':Q undef V G') :
 Opr P n X L V G ⟨ds,.store t x y,ty,pos,af,gd⟩ Q:=qoH T hx hy hc h1 ht hk hu hp k'
theorem qgd{α:Type}:∀ {a b c r:List α},jL a c=some r→jL (a++b) c=some (r++b)
 | a,b,[],r,e=>by
  have:r=a:=by cases a <;> simp[jL]at e <;> first|exact e.symm|exact e
  subst this;cases r <;> cases b <;> simp[jL]
 | [],b,x::c,r,e=>by simp[jL]at e
 | y::a,b,x::c,r,e=>by
  simp only[jL]at e;replace e:=qf e;obtain⟨r',hr,e⟩:=e
  simp at e;subst e;simp[jL,qgd hr]
theorem qiT{α:Type}:∀ {a b:List α} {o:Nat} {c r:List α},yN a o c=some r→yN (a++b) o c=some (r++b)
 | a,b,0,c,r,e=>by
  have e':jL a c=some r:=by cases a <;> simpa[yN]using e
  have:=qgd (b:=b) e'
  cases h:a++b <;> rw[h]at this <;> simpa[yN]using this
 | [],b,o+1,c,r,e=>by simp[yN]at e
 | y::a,b,o+1,c,r,e=>by
  simp only[yN]at e;replace e:=qf e;obtain⟨r',hr,e⟩:=e
  simp at e;subst e;simp[yN,qiT hr]
theorem qge{α:Type}:∀ {a b:List α} {o:Nat} {c r:List α},yN b o c=some r→yN (a++b) (a.length+o) c=some (a++r)
 | [],b,o,c,r,e=>by simpa using e
 | y::a,b,o,c,r,e=>by
  rw[zf,show a.length+1+o=(a.length+o)+1 by omega,zD];simp only[yN,qge e,zm,zD]
theorem qkQ{x y:T}{off:Nat}{cs:List T}(h:qwa x off cs=some y)(hc:∀z∈cs,z.isAgg=false):yN x.cells off cs=some y.cells:=by
 unfold qwa at h;split at h
 · replace h:=qf h;obtain⟨q,hq,h⟩:=h
   simp at h;subst h;simpa[T.cells]using hq
 · rename_i hx
   split at h
   · rename_i c
     cases hca:c.isAgg with
     | true=>rw[hca]at h;simp at h
     | false=>
      rw[hca]at h;simp at h;subst h;have e1:x.cells=[x]:=by cases x <;> first|rfl|(exfalso;exact hx _ rfl)
      have e2:c.cells=[c]:=by cases c <;> first|rfl|(simp[T.isAgg]at hca)
      rw[e1,e2];simp[yN,jL]
   · simp at h
theorem qgf{α:Type}:∀ {a b:List α},a.length=b.length→jL a b=some b
 | [],[],_=>by simp[jL]
 | [],_::_,h=>by simp at h
 | _::_,[],h=>by simp at h
 | _::a,v::b,h=>by simp only[jL,qgf (a:=a) (b:=b) (by simpa using h)];rfl
theorem qeE{w:Nat}{x y c:T}{off:Nat}(h:qoX w x off c=some y)(hx:x.cells.length=w)(hc:∀z∈c.cells,z.isAgg=false):yN x.cells off c.cells=some y.cells:=by
 unfold qoX at h;cases hb:(Nat.beq off 0&&(Nat.beq c.cells.length w&&c.isAgg))with
 | true=>
  rw[hb,zg,za]at h;subst h;simp only[zp]at hb;have e1:=zd hb.1;have e2:=zd hb.2.1;subst e1;have:=qgf (a:=x.cells) (b:=c.cells) (by omega)
  cases hx:x.cells <;> rw[hx]at this <;> simpa[yN]using this
 | false=>rw[hb,zo]at h;exact qkQ h hc
theorem qeF{w off:Nat}{cs:List T}{x y:T}(h:yN x.cells off cs=some y.cells):∀ {l:List T} {i:Nat},l[i]?=some x→(∀z∈l,z.cells.length=w)→yN (l.flatMap T.cells) (i*w+off) cs=some ((l.set i y).flatMap T.cells)
 | [],i,hi,_=>by simp at hi
 | z::l,0,hi,hw=>by
  simp at hi;subst hi;rw[Kx,Ve,zt,WD,Kx];exact qiT h
 | z::l,i+1,hi,hw=>by
  simp at hi;have ih:=qeF h hi (fun q hq=>hw q (zE _ hq))
  rw[Kx,WB,Kx];have hz:=hw z (zM ..)
  have:=qge (a:=z.cells) ih
  rwa [hz,show w+(i*w+off)=(i+1)*w+off by rw[zR];omega]at this
theorem qeG:∀ {a b c r:List Value},yx a c=some r→yx (a++b) c=some (r++b)
 | a,b,[],r,e=>by
  have:r=a:=by cases a <;> simp[yx]at e <;> first|exact e.symm|exact e
  subst this;cases r <;> cases b <;> simp[yx]
 | [],b,x::c,r,e=>by simp[yx]at e
 | y::a,b,x::c,r,e=>by
  simp only[yx]at e;cases hq:yx a c with
  | none=>rw[hq]at e;simp at e
  | some q=>rw[hq]at e;simp at e;subst e;simp[yx,qeG (b:=b) hq]
theorem qcF:∀ {a b:List Value} {o:Nat} {c r:List Value},Qh a o c=some r→Qh (a++b) o c=some (r++b)
 | a,b,0,c,r,e=>by
  have e':yx a c=some r:=by cases a <;> simpa[Qh]using e
  have:=qeG (b:=b) e'
  cases h:a++b <;> rw[h]at this <;> simpa[Qh]using this
 | [],b,o+1,c,r,e=>by simp[Qh]at e
 | y::a,b,o+1,c,r,e=>by
  simp only[Qh]at e;cases hq:Qh a o c with
  | none=>rw[hq]at e;simp at e
  | some q=>rw[hq]at e;simp at e;subst e;simp[Qh,qcF (b:=b) hq]
theorem IPf.set{H:List OB}{I:List IE}{n:Nat}{l l':List SV}(hn:H[n]?=some (.cells l)):IPf H I (H.set n (.cells l')) I :=
 ⟨fun _ _ h=>h,fun m e k x hm=>⟨rfl,x,by
   rw[Kh]
   · exact hm
   · rintro rfl;rw[hn]at hm;cases hm⟩,zI _⟩
theorem IPf.setrow{H:List OB}{I:List IE}{n e k:Nat}{fx:Bool}{l l':List T}(hn:H[n]?=some (.row fx e k l)):IPf H I (H.set n (.row fx e k l')) I :=
 ⟨fun _ _ h=>h,fun m e' k' x hm=>⟨rfl,by
   by_cases hmn:n=m
   · subst hmn
     rw[hn]at hm;simp only[za,OB.row.injEq]at hm;obtain⟨rfl,rfl,rfl,rfl⟩:=hm;exact⟨l',by rw[Vj (zu.1 hn).1]⟩
   · exact⟨x,by rw[Kh hmn];exact hm⟩⟩,zI _⟩
theorem qbN{V:qc}{I I':List IE}(hI:Ile I I'):∀ {l:List SV} {us:List Value} {hs:List (Option (Nat×Nat))} {nn:Nat},RepSs V I l us→(∀s∈l,jG s=true)→(∀j,j<(Q5 nn l hs).2.length→I'[nn+j]?=some .vrow) →
 RepSs V I' (Q5 nn l hs).1 us∧(∀s∈(Q5 nn l hs).1,jG s=true)∧GRel V I' (List.replicate (Q5 nn l hs).2.length .vrow) (Q5 nn l hs).2 []
 | l,us,[],nn,h,hc,_=>by
  have e:Q5 nn l []=(l,[]):=by cases l <;> rfl
  rw[e];exact⟨h.mono (Sub.refl _) hI,hc,.nil⟩
 | [],us,o::hs,nn,h,hc,_=>⟨h.mono (Sub.refl _) hI,hc,.nil⟩
 | x::l,_,none::hs,nn,.cons h h',hc,hv=>by
  obtain⟨i1,i2,i3⟩:=qbN hI (hs:=hs) (nn:=nn) h' (fun s hs=>hc s (by simp[hs])) hv
  exact⟨.cons (h.mono (Sub.refl _) hI) i1,fun s hs=>by
   rcases zK.1 hs with rfl|hs
   · exact hc _ (by simp)
   · exact i2 s hs,i3⟩
 | x::l,_,some p::hs,nn,.cons h h',hc,hv=>by
  by_cases hx:x = .t (.s (.slice none 0 0))
  · subst hx
    have hv':∀j,j<(Q5 (nn+1) l hs).2.length+1→I'[nn+j]?=some .vrow:=hv
    obtain⟨i1,i2,i3⟩:=qbN hI (hs:=hs) (nn:=nn+1) h' (fun s hs=>hc s (by simp[hs])) (fun j hj=>by
     have:=hv' (j+1) (by omega)
     rwa [show nn+1+j=nn+(j+1) by omega])
    have h0:=hv' 0 (by omega)
    have:=jY h;subst this
    refine⟨.cons (.oslv (by simpa using h0)) i1,fun s hs=>?_,?_⟩
    · rcases zK.1 hs with rfl|hs
      · rfl
      · exact i2 s hs
    · show GRel V I' (List.replicate ((Q5 (nn+1) l hs).2.length+1) .vrow) (.row false p.1 p.2 []::(Q5 (nn+1) l hs).2) []
      rw[We];exact .cons (g:=[]) (G:=[]) .vrow i3
  · have e:Q5 nn (x::l) (some p::hs)=(x::(Q5 nn l hs).1,(Q5 nn l hs).2):=by
     simp only[Q5]
    rw[e]at hv ⊢;obtain⟨i1,i2,i3⟩:=qbN hI (hs:=hs) (nn:=nn) h' (fun s hs=>hc s (by simp[hs])) hv
    exact⟨.cons (h.mono (Sub.refl _) hI) i1,fun s hs=>by
     rcases zK.1 hs with rfl|hs
     · exact hc _ (by simp)
     · exact i2 s hs,i3⟩
theorem qpv{V:qc}{I:List IE}{b:Bool}{c:List SV×St}{hs:List (Option (Nat×Nat))}{L:Lo}{G:Own}{us:List Value}(h:SR V I c.2 L G)(hr:RepSs V I c.1 us)(hc:∀s∈c.1,jG s=true) :
 ∃I',SR V I' (qiA b c hs).2 L G∧RepSs V I' (qiA b c hs).1 us∧(∀s∈(qiA b c hs).1,jG s=true)∧IPf c.2.H I (qiA b c hs).2.H I'∧Ile I I':=by
 cases b with
 | false=>exact⟨I,h,hr,hc,IPf.refl _ _,Ile.refl I⟩
 | true=>
  have hlen:=h.len;obtain⟨j1,j2,j3⟩:=qbN (V:=V) (I:=I) (I':=I++List.replicate (Q5 c.2.H.length c.1 hs).2.length .vrow) (Ile.app _ _) (hs:=hs) (nn:=c.2.H.length) hr hc (fun j hj=>by
   rw[Kl (by omega),K9,z6 (by omega)])
  have h3:=h.new (g:=[]) j3
  exact⟨_,h3,j1,j2,IPf.app hlen,Ile.app _ _⟩
theorem qpw(S:Sound P E.T){t:Nat}{a x:Operand}(h:Pre fr E V I st L G xs)(ha:jm E st V I L a)(hx:jm E st V I L x)(he:qbx E fr st t a x k=some r):Opr P n X L V G ⟨ds,.store t a x,ty,pos,af,gd⟩ (jv fr r k V I st L G):=by
 unfold qbx at he;cases fr with
 | false=>simp at he
 | true=>
  simp only[zg]at he;replace he:=qf he;obtain⟨sa,hsa,he⟩:=he
  replace he:=qf he;obtain⟨sx,hsx,he⟩:=he
  obtain⟨va,hva,hra⟩:=ha sa hsa;obtain⟨vx,hvx,hrx⟩:=hx sx hsx;unfold stO at he;replace he:=qf he;obtain⟨p,hp,he⟩:=he
  have hT:=S.ty t (p.1,p.2) hp
  split at he
  · rename_i m off
    replace he:=qf he;obtain⟨c,hc,he⟩:=he
    obtain⟨V1,G1,us,g1,u1,u2,u3,u4,u5⟩:=qeC h hrx (c:=c.1) (st':=c.2) (by rw[hc])
    refine J4 g1 ?_
    have hS0:=(g1.yes rfl).1
    obtain⟨I1,hS,u1,u2,hip,hile⟩:=qpv (b:=true&&(p.1&&E.T.bz E.f)) (hs:=E.T.zs t) hS0 u1 u2
    unfold stC at he;split at he
    · rename_i l hn
      replace he:=qf he;obtain⟨q,hq,he⟩:=he
      obtain⟨ie,g,G2,k1,k2,k3,k4⟩:=hS.turn hn;cases k2 with|@cells _ vs b e h1 h2=>
      cases hra with|ref hI=>
      replace hI:=hile _ _ hI
      rw[k1]at hI;simp only[za,IE.blk.injEq]at hI;subst hI;obtain⟨rs,p1,p2⟩:=qlU h1 u1 hq;refine QW k3 (jZ (qeD S.tb hva hvx u3 u4 hT u5 .here p1 fun hf=>?_))
      have hs:=k4 (.cells q) [(b,.cells rs.toArray e (0,0))] (.cells p2 fun s hs=>(qdB hq s hs).elim (h2 s) (u2 s))
      exact⟨V1,_,Gh.refl hf,Sub.refl _,I1,_,_,he,hs,.un,hip.trans (IPf.set hn)⟩
    · simp at he
  · rename_i m i off
    replace he:=qf he;obtain⟨c,hc,he⟩:=he
    obtain⟨V1,G1,g1,r1⟩:=qdC h hrx (x:=c.1) (st':=c.2) (by rw[hc])
    refine J4 g1 ?_
    have hS:=(g1.yes rfl).1
    split at he
    · rename_i fx e w l hn
      replace he:=qf he;obtain⟨z,hz,he⟩:=he
      replace he:=qlE he
      cases hck:((bif p.1 then c.1.isAgg else !c.1.isAgg)&&Nat.beq c.1.cells.length p.2)with
      | false=>rw[hck]at he;simp at he
      | true=>
       rw[hck]at he;simp only[zg]at he;replace he:=qf he;obtain⟨y,hy,he⟩:=he
       obtain⟨us,u1,u2,u3⟩:=r1.cells;obtain⟨ie,g,G2,k1,k2,k3,k4⟩:=hS.turn hn;cases k2 with
       | vrow=>simp at hz
       | @row _ _ _ b ct _ cur a1 a2 a3 a4 a5 a6=>
        cases hra with|@ep _ _ _ b' k' ct' hI=>
        rw[k1]at hI;simp only[za,IE.row.injEq]at hI;obtain⟨hbb,hkk,hcc⟩:=hI;subst hbb hkk hcc
        have hput:=qeE hy (a6 z (zO hz)) u3
        have hfp:=qeF hput hz a6;obtain⟨rs,p1,p2⟩:=qeA a4 u2 hfp;have p3:=qcF (b:=cur.toList.drop (l.length*w)) p1
        rw[Kw]at p3;simp only[zp]at hck;have hul:us.length=p.2:=by rw[← u2.length];exact zd hck.2
        have hrsl:rs.length=l.length*w:=by
         rw[← p2.length,ZX hfp,QT a6]
        have hle:l.length*w≤cur.size:=by rw[a1];exact zG _ a3
        refine QW k3 (jZ (qeD S.tb hva hvx u1 (Jt u2 u3) hT hul (by rw[← Vq (xs:=cur)];exact .here) p3 fun hf=>?_))
        have hs:=k4 (.row fx e w (l.set i y)) [(b,.cells (rs++cur.toList.drop (l.length*w)).toArray e (0,0))] (.row
         (by simp only[Ky,zb,KA,Ks,hrsl];omega) a2 (by simpa using a3)
         (by simp only[List.length_set];rw[← hrsl,K4];exact p2)
         (fun q hq=>(qdB hfp q hq).elim (a5 q) (u3 q))
         (fun q hq=>by
           rcases Wt hq with hq|rfl
           · exact a6 q hq
           · rw[ZX hput];exact a6 z (zO hz)))
        exact⟨V1,_,Gh.refl hf,Sub.refl _,I,_,_,he,hs,.un,IPf.setrow hn⟩
    · simp at he
  · simp at he
end
end Su
end
