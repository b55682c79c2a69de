/-
  An evaluator, proved sound. No condition.
-/
import Derived.Test.YtldhknmacepeiaaGreatDoorSuP0
import Derived.Test.YtldhknmacepeiaaGreatDoorFlyX
set_option linter.unusedVariables false
set_option linter.unusedSimpArgs false
section
namespace Su
open Go Fly
structure Sound (P:Program) (T:Tbl) where
 tb:Tabs P
 ty:∀t r,T.ty t=some r→tb.ty t=some r
 fo:∀t f r,T.fo t f=some r→tb.fo t f=some r
 al:∀t f r,T.fo t f=some r→qil P t=true
 el:∀t r,T.el t=some r→tb.el t=some r
 ze:∀t r,T.ze t=some r→tb.ze t=some r
 zc:∀t r,T.ze t=some r→r.all qct=true
 ik:∀t κ,T.kd t=some (.int κ)→tb.ik t=some κ
 bo:∀t,T.kd t=some .bool→P.underlying t=some .bool
 str:∀t,T.kd t=some .str→P.underlying t=some .string
 arr:∀t m g w,T.kd t=some (.arr m g w)→∃e,P.underlying t=some (.array m e)∧Ty P e=some (g,w)
 flat:∀t us,T.kd t=some (.flat us)→qcs P t=some us
 sml:∀t,T.sml t=true→P.bytesOf t≤256
 fns:∀f fn,T.fns f=some fn→P.funcs[f]?=some fn
 go:∀f fn,T.fns f=some fn→tb.go f=true
 mo:P.follows .mixedOrders=true
 ext:∀f κ,T.ext f=some κ→∀x y c:Int,inR .u64 x=true→inR .u64 y=true→inR .u64 c=true→c≤1→∀w,(callFunc f #[.int .u64 x,.int .u64 y,.int .u64 c]).run P w = .ok (.value (.tuple #[.int .u64 (qhj κ x y c),.int .u64 (qhk κ x y c)])) w
def qwl:Nat→Value→Bool
 | 0,.int .i64 _=>true
 | 1,.iface _ _=>true
 | _,_=>false
def GOK(T:Tbl)(V:qc):Prop:=(∀g x,T.glob g=some x→Rep V (.pt x 0) (.pointer (some ⟨g,0,none⟩))∧∃arr e f,V g=some (.cells arr e f)∧arr.size=x.cells.length)∧∀g c,T.gv g=some c→∃v e f,V g=some (.cells #[v] e f)∧qwl c v=true
def jm(E:Env)(st:St)(V:qc)(I:List IE)(L:Lo)(x:Operand):Prop:=∀sv,opd E st x=some sv→∃v,ev L x=some v∧RepS V I sv v
theorem qf{α β:Type}{a:Option α}{f:α→Option β}{r:β}(h:a.bind f=some r):∃x,a=some x∧f x=some r:=VJ.1 h
theorem qhx{V:qc}{v:Value}(h:qct v=true):Rep V (zC v) v∧(zC v).isAgg=false:=by
 unfold qct at h;split at h
 · exact⟨.sl (l:=[]) (vs:=[]) (a:=none) (cap:=0) .nil (by simp) (by simp) (zI _) (by simp[maxLen]) (.inl rfl),rfl⟩
 · rename_i hn
   have hz:zC v = .s v:=by unfold zC;split <;> first|(exfalso;exact hn rfl)|rfl
   rw[hz];exact⟨.s h,rfl⟩
theorem qlQ{V:qc}:∀ {l:List Value},l.all qct=true→RepA V (l.map T.s) l
 | [],_=>.nil
 | v::l,h=>by
  simp only[WH,zp]at h;have h1:qhf v=true:=by
   have:=h.1
   unfold qct at this;split at this
   · rfl
   · exact this
  exact .cons (.s h1) (qlQ (V:=V) h.2)
theorem qlR{V:qc}:∀ {l:List Value},l.all qct=true→RepA V (l.map zC) l∧∀x∈l.map zC,x.isAgg=false
 | [],_=>⟨.nil,by simp⟩
 | v::l,h=>by
  simp only[WH,zp]at h;have h1:=qhx (V:=V) h.1
  have h2:=qlR (V:=V) h.2
  exact⟨.cons h1.1 h2.1,by simpa using⟨h1.2,fun a ha=>h2.2 _ (KJ.2 ⟨a,ha,rfl⟩)⟩⟩
theorem qwm{V:qc}{v:Value}(h:cOk v=true):Rep V (zT v) v:=by
 unfold cOk at h;split at h
 · rename_i cs
   have h1:=qlR (V:=V) h
   simpa[zT]using Rep.agg h1.1 h1.2
 · rename_i hn
   have:zT v=zC v:=by unfold zT;split <;> first|(exfalso;exact hn _ rfl)|rfl
   rw[this];exact(qhx h).1
theorem qlS{E:Env}{st:St}{V:qc}{I:List IE}{L:Lo}(hG:GOK E.T V)(hs:∀d sv,st.look d=some sv→sv≠.bad→∃v,lk L d=some v∧RepS V I sv v)(x:Operand):jm E st V I L x:=by
 intro sv h;cases x with
 | tmp t=>
  simp only[opd]at h;replace h:=qf h;obtain⟨s0,h0,h⟩:=h
  have h2:s0=sv∧sv≠.bad:=by cases s0 <;> simp[nb]at h <;> subst h <;> exact⟨rfl,by simp⟩
  exact hs t sv (by rw[h0,h2.1]) h2.2
 | const v=>
  simp only[opd]at h;cases hc:cOk v with
  | false=>rw[hc]at h;simp at h
  | true=>rw[hc]at h;simp at h;subst h;exact⟨v,rfl,.t (qwm hc)⟩
 | global g=>
  simp only[opd]at h;replace h:=qf h;obtain⟨x,hx,h⟩:=h
  simp at h;subst h;exact⟨_,rfl,.t (hG.1 g x hx).1⟩
 | func f=>
  simp[opd]at h;subst h;exact⟨_,rfl,.t (.fn .nil .nil)⟩
theorem qa4{sv:SV}{b:Bool}(h:asB sv=some b):sv = .t (.s (.bool b)):=by
 unfold asB at h;split at h <;> simp at h;subst h;rfl
theorem YI{sv:SV}{n:Int}(h:asN sv=some n):∃κ,sv = .t (.s (.int κ n)):=by
 unfold asN at h;split at h <;> simp at h;subst h;exact⟨_,rfl⟩
theorem J2{κ:IntKind}{sv:SV}{n:Int}(h:asI κ sv=some n):sv = .t (.s (.int κ n)):=by
 unfold asI at h;split at h
 · rename_i κ' m
   by_cases hk:κ'=κ
   · subst hk;simp at h;subst h;rfl
   · simp[hk]at h
 · simp at h
theorem qcD{sv:SV}{b:ByteArray}(h:asS sv=some b):sv = .t (.s (.string b)):=by
 unfold asS at h;split at h <;> simp at h;subst h;rfl
theorem qbF{V:qc}{I:List IE}{k:Nat}{sv:SV}{l:List T}{v:Value}(h:qfD k sv=some l)(hr:RepS V I sv v):RepS V I (.t (.sl k l)) v:=by
 unfold qfD at h;split at h
 · rename_i k' m
   cases hk:Nat.beq k' k with
   | false=>rw[hk]at h;simp at h
   | true=>rw[hk]at h;simp at h;subst h;rw[← zd hk];exact hr
 · rename_i u k' m
   cases hk:Nat.beq k' k with
   | false=>rw[hk]at h;simp at h
   | true=>rw[hk]at h;simp at h;subst h;rw[← zd hk];cases hr with|t hr=>cases hr with|ql hr=>exact .t hr
 · simp at h
theorem qs7{α:Type}{l:List α}{f:α→T}{i:Int}{z:α}(h:idx l i=some z):idx (l.map f) i=some (f z):=by
 unfold idx at h ⊢
 by_cases h0:0≤i
 · simp only[h0,WX,zg]at h ⊢
   simp[h]
 · simp[h0]at h
theorem qbG{sv:SV}{l:List T}(h:asAgg sv=some l):sv = .t (.agg l):=by
 unfold asAgg at h;split at h <;> simp at h;subst h;rfl
theorem jY{V:qc}{I:List IE}{v w:Value}(h:RepS V I (.t (.s v)) w):w=v:=by
 cases h with|t h=>cases h with|s _=>rfl
theorem qbH{V:qc}{I:List IE}(b:Bool):RepS V I (mkB b) (.bool b):=.t (.s rfl)
theorem JB{V:qc}{I:List IE}{κ:IntKind}{n:Int}(h:inR κ n=true):RepS V I (mkI κ n) (.int κ n):=.t (.s h)
theorem qew{V:qc}{I:List IE}{κ:IntKind}{n:Int}{w:Value}(h:RepS V I (.t (.s (.int κ n))) w):inR κ n=true:=by
 cases h with|t h=>cases h with|s h=>exact h
theorem qlT{V:qc}{I:List IE}{b:ByteArray}{w:Value}(h:RepS V I (.t (.s (.string b))) w):b.size≤maxLen:=by
 cases h with|t h=>cases h with|s h=>exact zx h
theorem yT(κ:IntKind)(n:Int):inR κ (κ.wrap n)=true:=by
 cases κ <;> simp only[inR,IntKind.min,IntKind.max,IntKind.wrap,IntKind.bits,IntKind.signed,zp,zY] <;> simp <;> (try split) <;> omega
theorem qs8{κ:IntKind}{p q:Int}(h:inR κ p=true):inR κ (p.tmod q)=true:=by
 have h1:(p.tmod q).natAbs≤p.natAbs:=by rw[Int.natAbs_tmod];exact Nat.mod_le _ _
 have h2:0≤p→0≤p.tmod q:=fun h=>Int.tmod_nonneg _ h
 have h3:p≤0→p.tmod q≤0:=fun h=>by have:=Int.tmod_nonneg q (a:=-p) (by omega);rw[Int.neg_tmod]at this;omega
 cases κ <;> simp only[inR,IntKind.min,IntKind.max,IntKind.bits,IntKind.signed,zp,zY]at h ⊢ <;> simp at h ⊢ <;> omega
theorem qs9{κ:IntKind}{p:Int}(h:inR κ p=true)(k:Nat):inR κ (p.fdiv (2^k))=true:=by
 have hk:(0:Int)<2^k:=by have:=zU k;exact_mod_cast this
 have e:p.fdiv (2^k)=p / (2^k):=Vh _ (by omega)
 have h1:0≤p→0≤p / (2^k):=fun h=>Int.ediv_nonneg h (by omega)
 have h2:0≤p→p / (2^k)≤p:=fun h=>Int.ediv_le_self _ h
 have h3:p<0→p / (2^k)<0:=fun h=>Int.ediv_neg_of_neg_of_pos h hk
 have h4:p<0→p≤p / (2^k):=fun h=>by
  refine(Int.le_ediv_iff_mul_le hk).2 ?_
  have:p*(2^k)≤p*1:=Int.mul_le_mul_of_nonpos_left (by omega) (by omega)
  omega
 rw[e];cases κ <;> simp only[inR,IntKind.min,IntKind.max,IntKind.bits,IntKind.signed,zp,zY]at h ⊢ <;> simp at h ⊢ <;> omega
section
variable {P:Program} {E:Env} {n:Nat} {X:Cx} {L:Lo} {V:qc} {I:List IE} {G:Own} {Q:Value→qc→Own→Prop} {st:St} {O:Type} {r:O} {k:SV→St→Option O}
variable {ty:TypeId} {pos:String} {af:Array Edge} {gd:Option (Nat×Bool)} {ds:Option Tmp}
theorem qex{op:BinOp}{t u:TypeId}{x y:Operand}{κ:IntKind}{p q:Int}{sv:SV}(hx:ev L x=some (.int κ p))(hy:ev L y=some (.int κ q))(hp:inR κ p=true)(h:qiv op κ p q=some sv)
 (hQ:∀v,RepS V I sv v→Q v V G):Opr P n X L V G ⟨ds,.binOp op t x y u,ty,pos,af,gd⟩ Q:=by
 cases op <;> simp only[qiv,za,reduceCtorEq]at h
 case add=>subst h;exact qdW hx hy (hQ _ (JB (yT _ _)))
 case sub=>subst h;exact qkc hx hy (hQ _ (JB (yT _ _)))
 case mul=>subst h;exact qvW hx hy (hQ _ (JB (yT _ _)))
 case quo=>
  by_cases h0:q=0
  · simp[h0]at h
  · simp[h0]at h;subst h;exact qvX hx hy h0 (hQ _ (JB (yT _ _)))
 case rem=>
  by_cases h0:q=0
  · simp[h0]at h
  · simp[h0]at h;subst h
    exact qvY hx hy h0 (hQ _ (JB (qs8 hp)))
 case and=>subst h;exact qvZ hx hy (hQ _ (JB (yT _ _)))
 case or=>subst h;exact qyb hx hy (hQ _ (JB (yT _ _)))
 case xor=>subst h;exact qv0 hx hy (hQ _ (JB (yT _ _)))
 case andNot=>subst h;exact qnh hx hy (hQ _ (JB (yT _ _)))
 case eql=>subst h;exact jI hx hy (hQ _ (qbH _))
 case neq=>subst h;exact qg8 hx hy (hQ _ (qbH _))
 case lss=>subst h;exact jV hx hy (hQ _ (qbH _))
 case leq=>subst h;exact JA hx hy (hQ _ (qbH _))
 case gtr=>subst h;exact qaT hx hy (hQ _ (qbH _))
 case geq=>subst h;exact qke hx hy (hQ _ (qbH _))
theorem qc2{l:List T}{vs us:List Value}(h:RepA V l vs)(e:vals l=some us):vs=us:=by
 induction l generalizing vs us with
 | nil=>cases h;simp[vals]at e;exact e.symm
 | cons x l ih=>
  cases h with
  | cons h h'=>
   cases x <;> simp only[vals,reduceCtorEq]at e
   replace e:=qf e;obtain⟨r,hr,e⟩:=e
   simp only[za]at e;subst e;cases h with|s _=>rw[ih h' hr]
theorem qta(S:Sound P E.T){op:BinOp}{t u:TypeId}{x y:Operand}{a b:SV}{va vb:Value}{k:SV→Option O}(hx:ev L x=some va)(ha:RepS V I a va)(hy:ev L y=some vb)(hb:RepS V I b vb)
 (h:qoU E op t u a b k=some r) (hQ:∀v sv,k sv=some r→RepS V I sv v→Q v V G):Opr P n X L V G ⟨ds,.binOp op t x y u,ty,pos,af,gd⟩ Q:=by
 unfold qoU at h;split at h
 · rename_i κ hk
   cases hs:isSh op with
   | true=>
    rw[hs]at h;simp only[zg]at h;split at h
    · rename_i κ' hk'
      replace h:=qf h;obtain⟨p,hp,h⟩:=h
      replace h:=qf h;obtain⟨q,hq,h⟩:=h
      have:=J2 hp;subst this
      have:=J2 hq;subst this
      have hpr:=qew ha;have:=jY ha;subst this
      have:=jY hb;subst this
      by_cases h0:0≤q
      · simp only[h0,WX,zg]at h
        replace h:=qf h;obtain⟨sv,hsv,h⟩:=h
        cases op <;> simp only[shOp,za,reduceCtorEq]at hsv
        · subst hsv;exact qv1 hx hy h0 (hQ _ _ h (JB (yT _ _)))
        · subst hsv;exact qv2 hx hy h0 (hQ _ _ h (JB (qs9 hpr _)))
      · simp[h0]at h
    · simp at h
   | false=>
    rw[hs]at h;simp only[zo]at h;replace h:=qf h;obtain⟨p,hp,h⟩:=h
    replace h:=qf h;obtain⟨q,hq,h⟩:=h
    have:=J2 hp;subst this
    have:=J2 hq;subst this
    have hpr:=qew ha;have:=jY ha;subst this
    have:=jY hb;subst this
    cases hd:qv9 op with
    | true=>
     rw[hd]at h;by_cases h0:q=0
     · simp[h0]at h
     · simp only[zg,h0,decide_false,zo]at h
       cases op <;> simp only[qv9,Vs,reduceCtorEq]at hd
       · exact qex (op:=.quo) hx hy hpr (by simp only[qiv,h0,decide_false,zo];rfl) fun v hv=>hQ v _ h hv
       · exact qex (op:=.rem) hx hy hpr (by simp only[qiv,h0,decide_false,zo];rfl) fun v hv=>hQ v _ h hv
    | false=>
     rw[hd]at h;simp only[zo]at h;replace h:=qf h;obtain⟨sv,hsv,h⟩:=h
     exact qex hx hy hpr hsv fun v hv=>hQ v sv h hv
 · rename_i hk
   replace h:=qf h;obtain⟨p,hp,h⟩:=h
   replace h:=qf h;obtain⟨q,hq,h⟩:=h
   have:=qa4 hp;subst this
   have:=qa4 hq;subst this
   have:=jY ha;subst this
   have:=jY hb;subst this
   cases op <;> simp only[reduceCtorEq]at h
   · exact qoR hx hy (S.bo _ hk) (by rw[show(p == q)=decide (p=q) by cases p <;> cases q <;> rfl];exact hQ _ _ h (qbH _))
   · exact qsQ hx hy (S.bo _ hk) (by rw[show(p == q)=decide (p=q) by cases p <;> cases q <;> rfl];exact hQ _ _ h (qbH _))
 · rename_i hk
   replace h:=qf h;obtain⟨p,hp,h⟩:=h
   replace h:=qf h;obtain⟨q,hq,h⟩:=h
   have:=qcD hp;subst this
   have:=qcD hq;subst this
   have:=jY ha;subst this
   have:=jY hb;subst this
   cases op <;> simp only[reduceCtorEq]at h
   · cases hc:Nat.ble (p.size+q.size) 549755813888 with
     | false=>rw[hc]at h;simp at h
     | true=>
      rw[hc]at h;exact qhw hx hy (by have:=zx hc;omega) (hQ _ _ h (.t (.s (by show Nat.ble _ _=true;rw[Wj];have:=zx hc;simp[ByteArray.size_append,maxLen]at this ⊢;omega))))
   · exact qer hx hy (hQ _ _ h (qbH _))
   · exact qlN hx hy (hQ _ _ h (qbH _))
 · rename_i us hk
   replace h:=qf h;obtain⟨p,hp,h⟩:=h
   replace h:=qf h;obtain⟨q,hq,h⟩:=h
   replace h:=qf h;obtain⟨ps,hps,h⟩:=h
   replace h:=qf h;obtain⟨qs,hqs,h⟩:=h
   replace h:=qf h;obtain⟨b,hb',h⟩:=h
   have:=qbG hp;subst this
   have:=qbG hq;subst this
   cases ha with|t ha=>cases ha with|agg ha _=>
   cases hb with|t hb=>cases hb with|agg hb _=>
   have:=qc2 ha hps;subst this
   have:=qc2 hb hqs;subst this
   cases op <;> simp only[reduceCtorEq]at h
   · exact qv8 hx hy (S.flat _ _ hk) hb' (hQ _ _ h (qbH _))
   · exact qsR hx hy (S.flat _ _ hk) hb' (hQ _ _ h (qbH _))
 · simp at h
theorem qwn{op:UnOp}{t:TypeId}{x:Operand}{a:SV}{va:Value}{k:SV→Option O}(hx:ev L x=some va)(ha:RepS V I a va)
 (h:unO op a k=some r) (hQ:∀v sv,k sv=some r→RepS V I sv v→Q v V G):Opr P n X L V G ⟨ds,.unOp op t x,ty,pos,af,gd⟩ Q:=by
 unfold unO at h;split at h
 · replace h:=qf h;obtain⟨b,hb,h⟩:=h
   have:=qa4 hb;subst this
   have:=jY ha;subst this
   exact qck hx (hQ _ _ h (qbH _))
 · split at h
   · have:=jY ha;subst this
     exact qv3 hx (hQ _ _ h (JB (yT _ _)))
   · simp at h
 · simp at h
theorem qpe(S:Sound P E.T){op:BinOp}{t u:TypeId}{x y:Operand}(hx:jm E st V I L x)(hy:jm E st V I L y)(h:qo2 E st op t x y u k=some r)
 (hQ:∀v sv,k sv st=some r→RepS V I sv v→Q v V G):Opr P n X L V G ⟨ds,.binOp op t x y u,ty,pos,af,gd⟩ Q:=by
 replace h:=qf h;obtain⟨a,ha,h⟩:=h
 replace h:=qf h;obtain⟨b,hb,h⟩:=h
 obtain⟨va,hva,hra⟩:=hx a ha;obtain⟨vb,hvb,hrb⟩:=hy b hb;exact qta S hva hra hvb hrb h hQ
theorem qtb{op:UnOp}{t:TypeId}{x:Operand}(hx:jm E st V I L x)(h:evUn E st op x k=some r)
 (hQ:∀v sv,k sv st=some r→RepS V I sv v→Q v V G):Opr P n X L V G ⟨ds,.unOp op t x,ty,pos,af,gd⟩ Q:=by
 replace h:=qf h;obtain⟨a,ha,h⟩:=h
 obtain⟨va,hva,hra⟩:=hx a ha;exact qwn hva hra h hQ
theorem qnC(S:Sound P E.T){s d:TypeId}{x:Operand}(hx:jm E st V I L x)(h:qo3 E st s d x k=some r)
 (hQ:∀v sv,k sv st=some r→RepS V I sv v→Q v V G):Opr P n X L V G ⟨ds,.convert s d x,ty,pos,af,gd⟩ Q:=by
 replace h:=qf h;obtain⟨a,ha,h⟩:=h
 obtain⟨va,hva,hra⟩:=hx a ha;split at h
 · rename_i κ κ' hk hk'
   replace h:=qf h;obtain⟨m,hm,h⟩:=h
   have:=J2 hm;subst this
   have:=jY hra;subst this
   exact qdY S.tb hva (S.ik _ _ hk) (S.ik _ _ hk') (hQ _ _ h (JB (yT _ _)))
 · simp at h
theorem qnD{c x y:Operand}(hc:jm E st V I L c)(hx:jm E st V I L x)(hy:jm E st V I L y)(h:qo0 E st c x y k=some r)
 (hQ:∀v sv,k sv st=some r→RepS V I sv v→Q v V G):Opr P n X L V G ⟨ds,.pick c x y,ty,pos,af,gd⟩ Q:=by
 replace h:=qf h;obtain⟨a,ha,h⟩:=h
 obtain⟨va,hva,hra⟩:=hc a ha;replace h:=qf h;obtain⟨b,hb,h⟩:=h
 have:=qa4 hb;subst this
 have:=jY hra;subst this
 cases b with
 | true=>
  replace h:=qf h;obtain⟨c,hc,h⟩:=h
  obtain⟨vc,hvc,hrc⟩:=hx c hc;exact qY hva hvc (hQ _ _ h hrc)
 | false=>
  replace h:=qf h;obtain⟨c,hc,h⟩:=h
  obtain⟨vc,hvc,hrc⟩:=hy c hc;exact ja hva hvc (hQ _ _ h hrc)
theorem qtc{x:Operand}{i:Nat}(hx:jm E st V I L x)(h:evEx E st x i k=some r)
 (hQ:∀v sv,k sv st=some r→RepS V I sv v→Q v V G):Opr P n X L V G ⟨ds,.extract x i,ty,pos,af,gd⟩ Q:=by
 replace h:=qf h;obtain⟨a,ha,h⟩:=h
 obtain⟨va,hva,hra⟩:=hx a ha;unfold exO at h;split at h
 · replace h:=qf h;obtain⟨s,hs,h⟩:=h
   cases hra with|tup hr=>
   obtain⟨v,hv,hrv⟩:=hr.get hs;exact qdX hva hv (hQ _ _ h hrv)
 · simp at h
theorem qhy{x:Operand}{v:Value}(hx:ev L x=some v)(hv:(∃a,v = .pointer (some a)))(hQ:Q v V G):Opr P n X L V G ⟨ds,.nilCheck x,ty,pos,af,gd⟩ Q:=by
 obtain⟨a,rfl⟩:=hv;exact qP (fun ac w ha=>by simp[execOp,ha.ev hx]) hQ
theorem qpf{x:Operand}(hx:jm E st V I L x)(h:qvb E st x k=some r)
 (hQ:∀v sv,k sv st=some r→RepS V I sv v→Q v V G):Opr P n X L V G ⟨ds,.nilCheck x,ty,pos,af,gd⟩ Q:=by
 replace h:=qf h;obtain⟨a,ha,h⟩:=h
 obtain⟨va,hva,hra⟩:=hx a ha;unfold qwd at h;split at h
 · refine qhy hva ?_ (hQ _ _ h hra);cases hra;exact⟨_,rfl⟩
 · refine qhy hva ?_ (hQ _ _ h hra);cases hra;exact⟨_,rfl⟩
 · refine qhy hva ?_ (hQ _ _ h hra);cases hra with|t hr=>cases hr;exact⟨_,rfl⟩
 · simp at h
theorem qpg{s f o kk:Nat}{g:Bool}{x:Operand}{a:SV}{va:Value}{k:SV→Option O}(Tb:Tabs P)(hx:ev L x=some va)(ha:RepS V I a va)(hf:Tb.fo s f=some (o,g,kk))(h:qlF a o k=some r)
 (hQ:∀v sv,k sv=some r→RepS V I sv v→Q v V G):Opr P n X L V G ⟨ds,.fieldAddr s x f,ty,pos,af,gd⟩ Q:=by
 unfold qlF at h;split at h
 · cases ha with|t hr=>cases hr with|pt h1 h2 h3=>
   exact qb Tb hx hf (hQ _ _ h (.t (by rw[Kp];exact .pt h1 h2 h3)))
 · cases ha with|ref h1=>exact qb Tb hx hf (hQ _ _ h (.ref h1))
 · cases ha with|ep h1=>exact qb Tb hx hf (hQ _ _ h (by rw[Kp];exact .ep h1))
 · simp at h
theorem qtd(S:Sound P E.T){s f:Nat}{x:Operand}(hx:jm E st V I L x)(h:evFA E st s x f k=some r)
 (hQ:∀v sv,k sv st=some r→RepS V I sv v→Q v V G):Opr P n X L V G ⟨ds,.fieldAddr s x f,ty,pos,af,gd⟩ Q:=by
 replace h:=qf h;obtain⟨a,ha,h⟩:=h
 obtain⟨va,hva,hra⟩:=hx a ha;replace h:=qf h;obtain⟨q,hq,h⟩:=h
 exact qpg S.tb hva hra (S.fo _ _ _ hq) h hQ
end
end Su
end
section
namespace Su
open Go Fly
theorem QT{k:Nat}:∀ {l:List T},(∀x∈l,x.cells.length=k)→(l.flatMap T.cells).length=l.length*k
 | [],_=>by simp
 | x::l,h=>by
  have h1:=QT (l:=l) (fun y hy=>h y (zE _ hy))
  rw[Kx,zb,h x (by simp),h1,zf,zR,KR];omega
theorem yY{k:Nat}:∀(o:Nat) {l:List T},(∀x∈l,x.cells.length=k)→(l.drop o).flatMap T.cells=(l.flatMap T.cells).drop (o*k)
 | 0,l,_=>by simp
 | o+1,[],_=>by simp
 | o+1,x::l,h=>by
  have hx:=h x (by simp)
  simp only[List.drop_succ_cons,Kx,zR,KR];rw[yY o (l:=l) (fun y hy=>h y (zE _ hy)),← hx,Wh,← List.drop_drop,List.drop_left]
theorem JS{k:Nat}:∀(o:Nat) {l:List T},(∀x∈l,x.cells.length=k)→(l.take o).flatMap T.cells=(l.flatMap T.cells).take (o*k)
 | 0,l,_=>by simp
 | o+1,[],_=>by simp
 | o+1,x::l,h=>by
  have hx:=h x (by simp)
  simp only[List.take_succ_cons,Kx,zR,KR];have h1:=JS o (l:=l) (fun y hy=>h y (zE _ hy))
  have h2:List.take (o*k+k) x.cells=x.cells:=zP (by omega)
  rw[h1,List.take_append,hx,Vt,h2]
theorem qph{k i:Nat}{l:List T}{x:T}(h:∀x∈l,x.cells.length=k)(hi:l[i]?=some x)(j:Nat)(hj:j<k):(l.flatMap T.cells)[i*k+j]?=x.cells[j]?:=by
 have h1:=yY i h;rw[← KZ,← h1];have hd:l.drop i=x::l.drop (i+1):=by
  have hlt:i<l.length:=(zu.1 hi).1
  rw[Kj hlt]
  congr 1
  exact(zu.1 hi).2
 rw[hd,Kx,Ki];rw[h x (zO hi)];exact hj
theorem qdz{V:qc}{I:List IE}:∀ {l:List SV} {vs:List Value} {o k:Nat} {r:List SV},RepSs V I l vs→Qj l o k=some r→∃us,qaU vs o k=some us∧RepSs V I r us
 | l,vs,0,0,r,h,e=>by simp[Qj]at e;subst e;exact⟨[],by simp[qaU],.nil⟩
 | [],_,0,k+1,r,.nil,e=>by simp[Qj]at e
 | [],_,o+1,k,r,.nil,e=>by simp[Qj]at e
 | x::l,_,0,k+1,r,.cons (v:=v) h h',e=>by
  simp only[Qj]at e;replace e:=qf e;obtain⟨r',hr,e⟩:=e
  simp at e;subst e;obtain⟨us,h1,h2⟩:=qdz h' hr;exact⟨v::us,by simp[qaU,h1],.cons h h2⟩
 | x::l,_,o+1,k,r,.cons (v:=v) (vs:=vs) h h',e=>by
  have e':Qj l o k=some r:=by cases k <;> simpa[Qj]using e
  obtain⟨us,h1,h2⟩:=qdz h' e';refine⟨us,?_,h2⟩
  cases k <;> simpa[qaU]using h1
theorem qdA{α:Type}:∀ {l:List α} {o k:Nat} {r:List α},Qj l o k=some r→∀x∈r,x∈l
 | l,0,0,r,e=>by simp[Qj]at e;subst e;simp
 | [],0,k+1,r,e=>by simp[Qj]at e
 | [],o+1,k,r,e=>by simp[Qj]at e
 | x::l,0,k+1,r,e=>by
  simp only[Qj]at e;replace e:=qf e;obtain⟨r',hr,e⟩:=e
  simp at e;subst e;intro y hy;rcases zK.1 hy with rfl|hy
  · simp
  · exact zE _ (qdA hr y hy)
 | x::l,o+1,k,r,e=>by
  have e':Qj l o k=some r:=by cases k <;> simpa[Qj]using e
  exact fun y hy=>zE _ (qdA e' y hy)
theorem ZS{α:Type}:∀ {l:List α} {o k:Nat} {r:List α},Qj l o k=some r→r.length=k∧r=(l.drop o).take k∧o+k≤l.length
 | l,0,0,r,e=>by simp[Qj]at e;subst e;simp
 | [],0,k+1,r,e=>by simp[Qj]at e
 | [],o+1,k,r,e=>by simp[Qj]at e
 | x::l,0,k+1,r,e=>by
  simp only[Qj]at e;replace e:=qf e;obtain⟨r',hr,e⟩:=e
  simp at e;subst e;obtain⟨h1,h2,h3⟩:=ZS hr;exact⟨by simp[h1],by simpa using h2,by simp;omega⟩
 | x::l,o+1,k,r,e=>by
  have e':Qj l o k=some r:=by cases k <;> simpa[Qj]using e
  obtain⟨h1,h2,h3⟩:=ZS e';exact⟨h1,by simpa using h2,by simp;omega⟩
theorem qiP{V:qc}{I:List IE}:∀ {l:List SV} {vs:List Value} {c:List SV} {us:List Value} {r:List SV},RepSs V I l vs→RepSs V I c us→jL l c=some r→∃rs,yx vs us=some rs∧RepSs V I r rs
 | l,vs,[],_,r,h,.nil,e=>by
  have:r=l:=by cases l <;> simp[jL]at e <;> first|exact e.symm|exact e
  subst this;exact⟨vs,by cases vs <;> simp[yx],h⟩
 | [],_,x::c,_,r,.nil,.cons k k',e=>by simp[jL]at e
 | y::l,_,x::c,_,r,.cons h h',.cons (v:=v) k k',e=>by
  simp only[jL]at e;replace e:=qf e;obtain⟨r',hr,e⟩:=e
  simp at e;subst e;obtain⟨rs,h1,h2⟩:=qiP h' k' hr;exact⟨v::rs,by simp[yx,h1],.cons k h2⟩
theorem qlU{V:qc}{I:List IE}:∀ {l:List SV} {vs:List Value} {o:Nat} {c:List SV} {us:List Value} {r:List SV},RepSs V I l vs→RepSs V I c us→yN l o c=some r→∃rs,Qh vs o us=some rs∧RepSs V I r rs
 | l,vs,0,c,us,r,h,hc,e=>by
  have e':jL l c=some r:=by cases l <;> simpa[yN]using e
  obtain⟨rs,h1,h2⟩:=qiP h hc e';exact⟨rs,by cases vs <;> simpa[Qh]using h1,h2⟩
 | [],_,o+1,c,us,r,.nil,hc,e=>by simp[yN]at e
 | y::l,_,o+1,c,us,r,.cons (v:=v) h h',hc,e=>by
  simp only[yN]at e;replace e:=qf e;obtain⟨r',hr,e⟩:=e
  simp at e;subst e;obtain⟨rs,h1,h2⟩:=qlU h' hc hr;exact⟨v::rs,by simp[Qh,h1],.cons h h2⟩
theorem qiQ{α:Type}:∀ {l c r:List α},jL l c=some r→∀x∈r,x∈l∨x∈c
 | l,[],r,e=>by
  have:r=l:=by cases l <;> simp[jL]at e <;> first|exact e.symm|exact e
  subst this;exact fun x hx=>.inl hx
 | [],x::c,r,e=>by simp[jL]at e
 | y::l,x::c,r,e=>by
  simp only[jL]at e;replace e:=qf e;obtain⟨r',hr,e⟩:=e
  simp at e;subst e;intro z hz;rcases zK.1 hz with rfl|hz
  · exact .inr (by simp)
  · exact(qiQ hr z hz).imp (zE _) (zE _)
theorem qdB{α:Type}:∀ {l:List α} {o:Nat} {c r:List α},yN l o c=some r→∀x∈r,x∈l∨x∈c
 | l,0,c,r,e=>by
  have e':jL l c=some r:=by cases l <;> simpa[yN]using e
  exact qiQ e'
 | [],o+1,c,r,e=>by simp[yN]at e
 | y::l,o+1,c,r,e=>by
  simp only[yN]at e;replace e:=qf e;obtain⟨r',hr,e⟩:=e
  simp at e;subst e;intro z hz;rcases zK.1 hz with rfl|hz
  · exact .inl (by simp)
  · exact(qdB hr z hz).imp_left (zE _)
theorem Has.of_mem{G:Own}{b:Nat}{o:Obj}(h:(b,o)∈G):Has G b o:=by
 induction G with
 | nil=>cases h
 | cons p G ih=>
  rcases zK.1 h with rfl|h
  · exact .here
  · exact .there (ih h)
theorem GRel.at{V:qc}{I:List IE}{Is:List IE}{H:List OB}{G:Own}(h:GRel V I Is H G){n:Nat}{ob:OB}(e:H[n]?=some ob):∃ie g,Is[n]?=some ie∧RepOB V I ob ie g∧∀p∈g,p∈G:=by
 obtain⟨ie,g,G1,h1,h2,h3,_⟩:=h.focus e;exact⟨ie,g,h1,h2,fun p hp=>h3.mem_iff.2 (zS.2 (.inl hp))⟩
def MR(V:qc)(I:List IE)(H:List OB)(G:Own):Prop:=∃G0,GRel V I I H G0∧∀p∈G0,p∈G
theorem GR.mr{V:qc}{I:List IE}{H:List OB}{G:Own}(h:GR V I H G):MR V I H G:=by
 obtain⟨G0,h1,h2⟩:=h;exact⟨G0,h1,fun p hp=>h2.mem_iff.2 hp⟩
theorem MR.cells{V:qc}{I:List IE}{H:List OB}{G:Own}(h:MR V I H G){n:Nat}{l:List SV}(hn:H[n]?=some (.cells l)) :
 ∃b vs e,I[n]?=some (.blk b)∧Has G b (.cells vs.toArray e (0,0))∧RepSs V I l vs∧∀x∈l,jG x=true:=by
 obtain⟨G0,h1,h2⟩:=h;obtain⟨ie,g,k1,k2,k3⟩:=GRel.at h1 hn;cases k2 with
 | cells hl hc=>exact⟨_,_,_,k1,Has.of_mem (h2 _ (k3 _ (List.mem_singleton.2 rfl))),hl,hc⟩
theorem MR.row{V:qc}{I:List IE}{H:List OB}{G:Own}(h:MR V I H G){n e k:Nat}{fx:Bool}{l:List T}(hn:H[n]?=some (.row fx e k l)) :
 (∃b ct cur,I[n]?=some (.row b k ct)∧Has G b (.cells cur e (0,0))∧cur.size=ct*k∧ct≤maxLen∧l.length≤ct∧RepA V (l.flatMap T.cells) (cur.toList.take (l.length*k))∧(∀x∈l.flatMap T.cells,x.isAgg=false)∧∀x∈l,x.cells.length=k)∨(I[n]?=some .vrow∧l=[]):=by
 obtain⟨G0,h1,h2⟩:=h;obtain⟨ie,g,k1,k2,k3⟩:=GRel.at h1 hn;cases k2 with
 | row a1 a2 a3 a4 a5 a6=>exact .inl ⟨_,_,_,k1,Has.of_mem (h2 _ (k3 _ (List.mem_singleton.2 rfl))),a1,a2,a3,a4,a5,a6⟩
 | vrow=>exact .inr ⟨k1,rfl⟩
theorem ZT{V:qc}{x:T}{vs:List Value}{off k:Nat}{g:Bool}{y:T}(h:RepA V x.cells vs)(hc:∀z∈x.cells,z.isAgg=false)(e:ldT x off g k=some y) :
 (g=true→0<k∧∃us:List Value,us.length=k∧(∀(j:Nat) (u:Value),us[j]?=some u→vs[off+j]?=some u)∧Rep V y (.agg us.toArray))∧(g=false→∃u,vs[off]?=some u∧Rep V y u∧y.isAgg=false):=by
 unfold ldT at e;cases g with
 | true=>
  simp only[zg]at e;cases hk:Nat.blt 0 k with
  | false=>rw[hk]at e;simp at e
  | true=>
   rw[hk]at e;simp only[zg]at e;replace e:=qf e;obtain⟨r,hr,e⟩:=e
   simp at e;subst e;obtain⟨h1,h2,h3⟩:=ZS hr;refine⟨fun _=>⟨by simpa using hk,(vs.drop off).take k,?_,?_,?_⟩,fun h=>by simp at h⟩
   · have:=h.length;simp;omega
   · intro j u hj
     rw[zZ]at hj;split at hj
     · rwa [KZ]at hj
     · cases hj
   · exact .agg (by rw[h2];exact(h.drop off).take k) fun z hz=>hc z (qdA hr z hz)
 | false=>
  simp only[zo]at e;obtain⟨u,hu,hr⟩:=h.get e;exact⟨fun h=>by simp at h,fun _=>⟨u,hu,hr,hc y (zO e)⟩⟩
section
variable {P:Program} {E:Env} {n:Nat} {X:Cx} {L:Lo} {V:qc} {I:List IE} {G:Own} {Q:Value→qc→Own→Prop} {st:St} {O:Type} {r:O} {k:SV→St→Option O}
variable {ty:TypeId} {pos:String} {af:Array Edge} {gd:Option (Nat×Bool)} {ds:Option Tmp}
theorem qyh(S:Sound P E.T){t:Nat}{g:Bool}{kk:Nat}{x:Operand}{y:T}{z:T}{off:Nat}{v:Value}(hx:ev L x=some v)(hv:RepS V I (.t (.pt z off)) v)(ht:E.T.ty t=some (g,kk))(e:ldT z off g kk=some y)
 (hQ:∀u,Rep V y u→Q u V G):Opr P n X L V G ⟨ds,.load t x,ty,pos,af,gd⟩ Q:=by
 cases hv with|t hv=>cases hv with|pt h1 h2 h3=>
 obtain⟨ha,hb⟩:=ZT h1 h2 e;cases g with
 | true=>
  obtain⟨hk,us,hl,hu,hr⟩:=ha rfl;exact yl S.tb (S.ty _ _ ht) hx hl hk (fun j u hj=>by rw[Kp];exact h3 _ _ (hu j u hj)) (hQ _ hr)
 | false=>
  obtain⟨u,hu,hr,_⟩:=hb rfl;exact ym S.tb (S.ty _ _ ht) hx (h3 _ _ hu) (hQ _ hr)
theorem qyi(S:Sound P E.T){t:Nat}{g fx:Bool}{kk m i off e w:Nat}{l:List T}{x:Operand}{y z:T}{v:Value}(hM:MR V I st.H G)(hx:ev L x=some v)(hv:RepS V I (.ep m i off) v)(ht:E.T.ty t=some (g,kk))
 (hn:st.H[m]?=some (.row fx e w l)) (hi:l[i]?=some z) (he:ldT z off g kk=some y) (hQ:∀u,Rep V y u→Q u V G):Opr P n X L V G ⟨ds,.load t x,ty,pos,af,gd⟩ Q:=by
 rcases hM.row hn with⟨b,ct,cur,k1,k2,k3,k4,k5,k6,k7,k8⟩|⟨_,rfl⟩
 · cases hv with|ep hI=>
   rw[k1]at hI;simp only[za,IE.row.injEq]at hI;obtain⟨rfl,rfl,rfl⟩:=hI;have hw:=k8 z (zO hi)
   have hlt:i<l.length:=(zu.1 hi).1
   -- the cells of that element
   have hz:RepA V z.cells (((cur.toList.take (l.length*w)).drop (i*w)).take w):=by
    have h1:=(k6.drop (i*w)).take w
    rw[← yY i k8]at h1;have hd:l.drop i=z::l.drop (i+1):=by
     rw[Kj hlt];congr 1;exact(zu.1 hi).2
    rw[hd,Kx,List.take_append_of_le_length (by omega),zP (by omega)]at h1;exact h1
   have hcell:∀(j:Nat) (u:Value),(((cur.toList.take (l.length*w)).drop (i*w)).take w)[j]?=some u→cur[i*w+j]?=some u:=fun j u hj=>by
    rw[zZ]at hj;split at hj
    · rw[KZ,zZ]at hj
      split at hj
      · simpa using hj
      · cases hj
    · cases hj
   obtain⟨ha,hb⟩:=ZT hz (fun y hy=>k7 y (KU.2 ⟨z,zO hi,hy⟩)) he
   cases g with
   | true=>
    obtain⟨hk,us,hl,hu,hr⟩:=ha rfl;exact qfM S.tb (S.ty _ _ ht) hx (.own k2) hl (fun j u hj=>by rw[Kp];exact hcell _ _ (hu j u hj)) (hQ _ hr)
   | false=>
    obtain⟨u,hu,hr,_⟩:=hb rfl;exact qd0 S.tb (S.ty _ _ ht) hx (.own k2) (hcell _ _ hu) (hQ _ hr)
 · simp at hi
theorem qte(S:Sound P E.T){t kk m off:Nat}{l:List SV}{x:Operand}{y:SV}{v:Value}(hM:MR V I st.H G)(hx:ev L x=some v)(hv:RepS V I (.ref m off) v)(ht:E.T.ty t=some (false,kk))
 (hn:st.H[m]?=some (.cells l)) (hi:l[off]?=some y) (hQ:∀u,RepS V I y u→Q u V G):Opr P n X L V G ⟨ds,.load t x,ty,pos,af,gd⟩ Q:=by
 obtain⟨b,vs,e,k1,k2,k3,k4⟩:=hM.cells hn;cases hv with|ref hI=>
 rw[k1]at hI;simp only[za,IE.blk.injEq]at hI;subst hI;obtain⟨u,hu,hr⟩:=k3.get hi;exact qd0 S.tb (S.ty _ _ ht) hx (.own k2) (by simpa using hu) (hQ _ hr)
theorem qtf(S:Sound P E.T){t kk m off:Nat}{l r:List SV}{x:Operand}{v:Value}(hM:MR V I st.H G)(hx:ev L x=some v)(hv:RepS V I (.ref m off) v)(ht:E.T.ty t=some (true,kk))
 (hn:st.H[m]?=some (.cells l)) (hi:Qj l off kk=some r) (hQ:∀us:List Value,RepSs V I r us→Q (.agg us.toArray) V G):Opr P n X L V G ⟨ds,.load t x,ty,pos,af,gd⟩ Q:=by
 obtain⟨b,vs,e,k1,k2,k3,k4⟩:=hM.cells hn;cases hv with|ref hI=>
 rw[k1]at hI;simp only[za,IE.blk.injEq]at hI;subst hI;obtain⟨us,h1,h2⟩:=qdz k3 hi;exact qK S.tb (S.ty _ _ ht) hx (.own k2) h1 (hQ us h2)
end
end Su
end
