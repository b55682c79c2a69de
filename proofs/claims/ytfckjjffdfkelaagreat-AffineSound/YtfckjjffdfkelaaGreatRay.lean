/-
  Bits and rounding, in plain Lean. No condition.
-/
import Derived.Test.YtfckjjffdfkelaaGreatRro
import Derived.Test.YtfckjjffdfkelaaGreatNC26
import Derived.Test.YtfckjjffdfkelaaGreatRcs
import Derived.Test.YtfckjjffdfkelaaGreatSuSd
set_option maxRecDepth 10000
section
namespace Su
open Go Fly
set_option linter.unusedVariables false
noncomputable section
def lnS (nz:Int→Int):List Tm→Int
 | []=>0
 | t::l=>fv t.c.toNat*nz t.id+lnS nz l
def smN (nz:Int→Int) (a:Fm):Int:=8*fv a.2.1.toNat+lnS nz a.2.2.1
def Nz8 (nz:Int→Int):Prop:=∀ i,-8≤nz i∧nz i≤8
def HasN (nz:Int→Int) (a:Fm) (X k:Int):Prop:=a.1=true∨((smN nz a*k-X).natAbs:Int)≤8*fv a.2.2.2.toNat*k
theorem natAbs_mul_le {d n D:Int} (h:(d.natAbs:Int)≤D) (h1 : -8≤n) (h2:n≤8):((d*n).natAbs:Int)≤8*D:=by
 rw [Int.natAbs_mul,Int.natCast_mul]
 have h3:(n.natAbs:Int)≤8:=by omega
 have h4:(d.natAbs:Int)*(n.natAbs:Int)≤D*8:=by
  refine Int.le_trans (Int.mul_le_mul_of_nonneg_right h (by omega)) ?_
  exact Int.mul_le_mul_of_nonneg_left h3 (by omega)
 omega
theorem addI_rnds {x y:Int} (fx:fI x=true) (fy:fI y=true):Rnds (fun m=>addF x.toNat y.toNat m) (fv x.toNat+fv y.toNat) 1:=addF_all (fI_top.1 fx) (fI_top.1 fy)
theorem addI_cast (x y m:Int):addI x y m=((addF x.toNat y.toNat m:Nat):Int):=by unfold addI;rw [addN_eq]
theorem mulI_cast (x y m:Int):mulI x y m=((mulF x.toNat y.toNat m:Nat):Int):=by unfold mulI;rw [mulN_eq]
theorem addF_w {x y:Int} (wx:Fw x) (wy:Fw y) (m:Int):addF x.toNat y.toNat m<18446744073709551616:=by
 have:=addN_lt (fw_lt wx) (fw_lt wy) m
 rwa [addN_eq] at this
theorem fI_cast {n:Nat}:fI (n:Int)=true↔bK n≤topN:=by rw [fI_top,Int.toNat_natCast]
theorem slk_add {x y:Int} (wx:Fw x) (wy:Fw y) (fx:fI x=true) (fy:fI y=true) (fr:fI (addI x y 0)=true) :
 ∃ D:Int,0≤D∧Up (slkA x y) D∧((fv (addI x y 0).toNat-(fv x.toNat+fv y.toNat)).natAbs:Int)≤D:=by
 rw [addI_cast] at fr
 obtain ⟨D,h1,h2,h3⟩:=slack_ok (by omega) (addI_rnds fx fy) (addF_w wx wy) (fI_cast.1 fr)
 refine ⟨D,h1,?_,?_⟩
 · unfold slkA;rw [addI_cast x y 1,addI_cast x y 2];exact h2
 · rw [addI_cast,Int.toNat_natCast]
   rw [Int.mul_one,Int.mul_one] at h3;exact h3
theorem mulI_rnds {x y:Int} (fx:fI x=true) (fy:fI y=true):Rnds (fun m=>mulF x.toNat y.toNat m) (fv x.toNat*fv y.toNat) (QD:Int):=mulF_all (fI_top.1 fx) (fI_top.1 fy)
theorem mulF_w {x y:Int} (wx:Fw x) (wy:Fw y) (m:Int):mulF x.toNat y.toNat m<18446744073709551616:=by
 have:=mulN_lt (a:=x.toNat) (b:=y.toNat) m
 rwa [mulN_eq] at this
theorem QD_posI:(0:Int)<(QD:Int):=Int.ofNat_lt.2 QD_pos
theorem slk_mul {x y:Int} (wx:Fw x) (wy:Fw y) (fx:fI x=true) (fy:fI y=true) (fr:fI (mulI x y 0)=true) :
 ∃ D:Int,0≤D∧Up (slkM x y) D∧((fv (mulI x y 0).toNat*(QD:Int)-fv x.toNat*fv y.toNat).natAbs:Int)≤D*(QD:Int):=by
 rw [mulI_cast] at fr
 obtain ⟨D,h1,h2,h3⟩:=slack_ok QD_posI (mulI_rnds fx fy) (mulF_w wx wy) (fI_cast.1 fr)
 refine ⟨D,h1,?_,?_⟩
 · unfold slkM;rw [mulI_cast x y 1,mulI_cast x y 2];exact h2
 · rw [mulI_cast,Int.toNat_natCast];exact h3
theorem up_mul {x y:Int} (fx:fI x=true) (fy:fI y=true) (h0:0≤fv x.toNat*fv y.toNat):∃ D:Int,0≤D∧Up (mulI x y 1) D∧fv x.toNat*fv y.toNat≤D*(QD:Int):=by
 rw [mulI_cast]
 rcases rnds_up QD_posI (mulI_rnds fx fy) with ⟨h1,h2⟩ | h
 · refine ⟨fv (mulF x.toNat y.toNat 1),?_,.inl ⟨fI_cast.2 h1,by rw [Int.toNat_natCast];exact Int.le_refl _⟩,h2⟩
   refine Int.le_of_not_gt fun hn=>?_
   have:=Int.mul_lt_mul_of_pos_right hn QD_posI
   omega
 · refine ⟨fv x.toNat*fv y.toNat,h0,.inr (by show ((mulF x.toNat y.toNat 1:Nat):Int)=posI;rw [show mulF x.toNat y.toNat 1=9218868437227405312 from h];rfl),?_⟩
   have:=Int.mul_le_mul_of_nonneg_left (show (1:Int)≤(QD:Int) by have:=QD_posI;omega) h0
   omega
theorem fv_0:fv (0:Int).toNat=0:=rfl
theorem upI2 {e s E S:Int} (he:Up e E) (hs:Up s S):Up (upI [e,s]) (E+S):=by
 have:=up_add (up_add up_0 he) hs
 rw [Int.zero_add] at this;exact this
theorem merge_add {nz:Int→Int} (hz:Nz8 nz):∀ (n:Nat) (l m:List Tm) (e E:Int),l.length+m.length≤n→(∀ t∈l,Fw t.c∧fI t.c=true)→(∀ t∈m,Fw t.c∧fI t.c=true)→Up e E →
 (∀ t∈(mergeN sumD n l m e).1,fI t.c=true)→∃ D:Int,0≤D∧Up (mergeN sumD n l m e).2 (E+D)∧((lnS nz (mergeN sumD n l m e).1-(lnS nz l+lnS nz m)).natAbs:Int)≤8*D:=by
 intro n
 induction n with
 | zero =>
  intro l m e E hn hl hm he hr
  have h1:l=[]:=List.length_eq_zero_iff.1 (by omega)
  have h2:m=[]:=List.length_eq_zero_iff.1 (by omega)
  subst h1 h2
  exact ⟨0,by omega,by rw [Int.add_zero];exact he,by show ((0-(0+0):Int).natAbs:Int)≤8*0;decide⟩
 | succ n ih =>
  intro l m e E hn hl hm he hr
  -- one ID's part
  have one:∀ (id x y:Int) (l' m':List Tm) (r:List Tm×Int),r=stepM id (sumD e x y) (mergeN sumD n l' m')→l'.length+m'.length≤n→(∀ t∈l',Fw t.c∧fI t.c=true)→(∀ t∈m',Fw t.c∧fI t.c=true) →
   (Fw x∧fI x=true)→(Fw y∧fI y=true)→(∀ t∈r.1,fI t.c=true)→lnS nz l+lnS nz m=(fv x.toNat+fv y.toNat)*nz id+(lnS nz l'+lnS nz m') →
   ∃ D:Int,0≤D∧Up r.2 (E+D)∧((lnS nz r.1-(lnS nz l+lnS nz m)).natAbs:Int)≤8*D:=by
   intro id x y l' m' r hr hn' hl' hm' hx hy hfin hsum
   subst hr
   have f1:fI (sumD e x y).1=true:=hfin ⟨id,(sumD e x y).1⟩ (List.mem_cons_self ..)
   have h1:∃ D:Int,0≤D∧Up (sumD e x y).2 (E+D)∧((fv (sumD e x y).1.toNat-(fv x.toNat+fv y.toNat)).natAbs:Int)≤D:=by
    unfold sumD at f1 ⊢
    by_cases hx0:x=0
    · subst hx0
      rw [decide_eq_true rfl]
      exact ⟨0,by omega,by rw [Int.add_zero];exact he,by simp only [cond_true,fv_0];omega⟩
    · rw [decide_eq_false hx0,cond_false] at f1 ⊢
      by_cases hy0:y=0
      · subst hy0
        rw [decide_eq_true rfl]
        exact ⟨0,by omega,by rw [Int.add_zero];exact he,by simp only [cond_true,fv_0];omega⟩
      · rw [decide_eq_false hy0,cond_false] at f1 ⊢
        obtain ⟨D,d0,d1,d2⟩:=slk_add hx.1 hy.1 hx.2 hy.2 f1
        exact ⟨D,d0,upI2 he d1,d2⟩
   obtain ⟨D1,a0,a1,a2⟩:=h1
   obtain ⟨D2,b0,b1,b2⟩:=ih l' m' (sumD e x y).2 (E+D1) hn' hl' hm' a1 (fun t ht=>hfin t (List.mem_cons_of_mem _ ht))
   refine ⟨D1+D2,by omega,by rw [← Int.add_assoc];exact b1,?_⟩
   have e1:lnS nz (stepM id (sumD e x y) (mergeN sumD n l' m')).1=fv (sumD e x y).1.toNat*nz id+lnS nz (mergeN sumD n l' m' (sumD e x y).2).1:=rfl
   rw [e1,hsum]
   have k:=natAbs_mul_le a2 (hz id).1 (hz id).2
   rw [Int.sub_mul] at k
   omega
  match l,m,hn with
  | [],[],_=>exact ⟨0,by omega,by rw [Int.add_zero];exact he,by show ((0-(0+0):Int).natAbs:Int)≤8*0;decide⟩
  | a::l,[],hn =>
   refine one a.id a.c 0 l [] _ rfl (by simp at hn ⊢;omega) (fun t ht=>hl t (List.mem_cons_of_mem _ ht)) hm (hl a (List.mem_cons_self ..)) ⟨fw_0,rfl⟩ hr ?_
   show fv a.c.toNat*nz a.id+lnS nz l+0=_
   rw [fv_0,Int.add_zero (fv a.c.toNat)];show fv a.c.toNat*nz a.id+lnS nz l+0=fv a.c.toNat*nz a.id+(lnS nz l+0);omega
  | [],b::m,hn =>
   refine one b.id 0 b.c [] m _ rfl (by simp at hn ⊢;omega) hl (fun t ht=>hm t (List.mem_cons_of_mem _ ht)) ⟨fw_0,rfl⟩ (hm b (List.mem_cons_self ..)) hr ?_
   show 0+(fv b.c.toNat*nz b.id+lnS nz m)=_
   rw [fv_0,Int.zero_add (fv b.c.toNat)];show 0+(fv b.c.toNat*nz b.id+lnS nz m)=fv b.c.toNat*nz b.id+(0+lnS nz m);omega
  | a::l,b::m,hn =>
   simp only [List.length_cons] at hn
   have s1:lnS nz (a::l)=fv a.c.toNat*nz a.id+lnS nz l:=rfl
   have s2:lnS nz (b::m)=fv b.c.toNat*nz b.id+lnS nz m:=rfl
   by_cases h1:a.id<b.id
   · have e:mergeN sumD (n+1) (a::l) (b::m) e=stepM a.id (sumD e a.c 0) (mergeN sumD n l (b::m)):=by simp only [mergeN,decide_eq_true h1,cond_true]
     refine one a.id a.c 0 l (b::m) _ e (by simp only [List.length_cons];omega) (fun t ht=>hl t (List.mem_cons_of_mem _ ht)) hm (hl a (List.mem_cons_self ..)) ⟨fw_0,rfl⟩ hr ?_
     rw [s1,fv_0,Int.add_zero];omega
   · by_cases h2:b.id<a.id
     · have e:mergeN sumD (n+1) (a::l) (b::m) e=stepM b.id (sumD e 0 b.c) (mergeN sumD n (a::l) m):=by simp only [mergeN,decide_eq_false h1,decide_eq_true h2,cond_true,cond_false]
       refine one b.id 0 b.c (a::l) m _ e (by simp only [List.length_cons];omega) hl (fun t ht=>hm t (List.mem_cons_of_mem _ ht)) ⟨fw_0,rfl⟩ (hm b (List.mem_cons_self ..)) hr ?_
       rw [s2,fv_0,Int.zero_add];omega
     · have e:mergeN sumD (n+1) (a::l) (b::m) e=stepM a.id (sumD e a.c b.c) (mergeN sumD n l m):=by simp only [mergeN,decide_eq_false h1,decide_eq_false h2,cond_false]
       have hid:b.id=a.id:=by omega
       refine one a.id a.c b.c l m _ e (by omega) (fun t ht=>hl t (List.mem_cons_of_mem _ ht)) (fun t ht=>hm t (List.mem_cons_of_mem _ ht)) (hl a (List.mem_cons_self ..)) (hm b (List.mem_cons_self ..)) hr ?_
       rw [s1,s2,hid,Int.add_mul];omega
theorem fv_nz {m:Int}:fv (nzI m).toNat=fv m.toNat:=by
 unfold nzI
 cases hz:zI m with
 | true=>rw [cond_true,fv_0,fv_zero (zI_iff.1 hz)]
 | false=>rfl
theorem ln_delZ (nz:Int→Int):∀ l:List Tm,lnS nz (delZ l)=lnS nz l
 | []=>rfl
 | t::l=>by
  have ih:=ln_delZ nz l
  unfold delZ at ih ⊢
  rw [List.filter_cons]
  cases hz:zI t.c with
  | true =>
   rw [Bool.not_true,if_neg (by simp),ih]
   show _=fv t.c.toNat*nz t.id+lnS nz l
   rw [fv_zero (zI_iff.1 hz),Int.zero_mul,Int.zero_add]
  | false =>
   rw [Bool.not_false,if_pos rfl]
   show fv t.c.toNat*nz t.id+lnS nz _=fv t.c.toNat*nz t.id+lnS nz l
   rw [ih]
theorem fI_of_nz {m:Int} (h:fI (nzI m)=true):fI m=true:=by
 unfold nzI at h
 cases hz:zI m with
 | true=>exact fI_top.2 (by rw [zI_iff.1 hz];exact Nat.zero_le _)
 | false=>rw [hz] at h;exact h
theorem done_fin {m e:Int} {l:List Tm} (h:(doneF (false,(m,(l,e)))).1=false):fI m=true∧fI e=true∧(∀ t∈l,fI t.c=true)∧doneF (false,(m,(l,e)))=(false,(nzI m,(delZ l,nzI e))):=by
 rw [doneF_eq] at h ⊢
 simp only [] at h ⊢
 cases hc:((fI (nzI m)&&fI (nzI e))&&!((delZ l).any fun t=>!fI t.c)) with
 | false=>rw [hc] at h;cases h
 | true =>
  simp only [Bool.and_eq_true,Bool.not_eq_true'] at hc
  obtain ⟨⟨h1,h2⟩,h3⟩:=hc
  refine ⟨fI_of_nz h1,fI_of_nz h2,fun t ht=>?_,rfl⟩
  cases hz:zI t.c with
  | true=>exact fI_top.2 (by rw [zI_iff.1 hz];exact Nat.zero_le _)
  | false =>
   have:t∈delZ l:=by
    unfold delZ
    exact List.mem_filter.2 ⟨ht,by rw [hz];rfl⟩
   have:=List.any_eq_false.1 h3 t this
   simpa using this
theorem fv_err {a:Fm} (h:okF a=true):0≤fv a.2.2.2.toNat:=by
 obtain ⟨_,hf⟩:=okF_fin h
 rw [fv_sg (fI_top.1 hf.err),okF_err h]
 unfold sgV;simp
theorem up_e {a:Fm} (h:okF a=true):Up a.2.2.2 (fv a.2.2.2.toNat):=up_self (okF_fin h).2.err
theorem add_sound {nz:Int→Int} (hz:Nz8 nz) {a b:Fm} {X Y:Int} (ha:okF a=true) (hb:okF b=true) (wa:FmW a) (wb:FmW b)
 (hX:HasN nz a X 1) (hY:HasN nz b Y 1):HasN nz (addFm a b) (X+Y) 1:=by
 obtain ⟨fa,Fa⟩:=okF_fin ha
 obtain ⟨fb,Fb⟩:=okF_fin hb
 have hX:=hX.resolve_left (by rw [fa];simp)
 have hY:=hY.resolve_left (by rw [fb];simp)
 cases hc:(addFm a b).1 with
 | true=>exact .inl hc
 | false =>
  right
  rw [addFm_eq] at hc ⊢
  unfold addO' at hc ⊢
  rw [ha,hb] at hc ⊢
  simp only [Bool.and_self,cond_true] at hc ⊢
  obtain ⟨fm,fe,ft,e⟩:=done_fin hc
  rw [e]
  obtain ⟨D0,d0,d1,d2⟩:=slk_add wa.mid wb.mid Fa.mid Fb.mid fm
  have hE:Up (upI [a.2.2.2,b.2.2.2,slkA a.2.1 b.2.1]) (fv a.2.2.2.toNat+fv b.2.2.2.toNat+D0):=by
   have:=up_add (up_add (up_add up_0 (up_e ha)) (up_e hb)) d1
   rw [Int.zero_add] at this;exact this
  obtain ⟨D1,k0,k1,k2⟩:=merge_add hz (a.2.2.1.length+b.2.2.1.length) a.2.2.1 b.2.2.1 _ _ (Nat.le_refl _) (fun t ht=>⟨wa.tms t ht,Fa.tms t ht⟩) (fun t ht=>⟨wb.tms t ht,Fb.tms t ht⟩) hE ft
  have k1:=k1.resolve_right (fun h=>by rw [h] at fe;cases fe)
  show ((smN nz (false,(nzI (addI a.2.1 b.2.1 0),(delZ _,nzI _)))*1-(X+Y)).natAbs:Int)≤8*fv (nzI _).toNat*1
  unfold smN at hX hY ⊢
  simp only [fv_nz,ln_delZ,Int.mul_one] at hX hY ⊢
  have k1:=k1.2
  omega
theorem part_ok {mid c:Int} (wm:Fw mid) (fm:fI mid=true) (wc:Fw c) (fc:fI c=true) (fp:fI (bif decide (c=0) then 0 else mulI mid c 0)=true) :
 ∃ D:Int,0≤D∧(∀ e E,Up e E→Up (bif decide (c=0) then e else upI [e,slkM mid c]) (E+D))∧Fw (bif decide (c=0) then 0 else mulI mid c 0) ∧
  ((fv (bif decide (c=0) then 0 else mulI mid c 0:Int).toNat*(QD:Int)-fv mid.toNat*fv c.toNat).natAbs:Int)≤D*(QD:Int):=by
 by_cases h:c=0
 · subst h
   rw [decide_eq_true rfl]
   refine ⟨0,by omega,fun e E h=>by rw [Int.add_zero];exact h,fw_0,?_⟩
   simp only [cond_true,fv_0]
   simp
 · rw [decide_eq_false h,cond_false] at fp ⊢
   obtain ⟨D,d0,d1,d2⟩:=slk_mul wm wc fm fc fp
   refine ⟨D,d0,fun e E he=>upI2 he d1,?_,d2⟩
   rw [mulI_cast]
   exact fw_nat (mulF_w wm wc 0)
theorem tri_le {a b c d1 d2 d3:Int} (h1:(a.natAbs:Int)≤d1) (h2:(b.natAbs:Int)≤d2) (h3:(c.natAbs:Int)≤d3):((a+b+c).natAbs:Int)≤d1+d2+d3:=by omega
theorem part_id (Q c p q m1 y m2 x:Int):Q*c-(m1*y+m2*x)=(c-(p+q))*Q+(p*Q-m1*y)+(q*Q-m2*x):=by grind
theorem abs_sc {a D Q:Int} (hQ:0<Q) (h:(a.natAbs:Int)≤D):((a*Q).natAbs:Int)≤D*Q:=by
 rw [Int.natAbs_mul,Int.natCast_mul,Int.natAbs_of_nonneg (a:=Q) (by omega)]
 exact Int.mul_le_mul_of_nonneg_right h (by omega)
theorem step_id (Q c n s m1 y m2 x l1 l2:Int):Q*(c*n+s)-(m1*(y*n+l2)+m2*(x*n+l1))=(Q*c-(m1*y+m2*x))*n+(Q*s-(m1*l2+m2*l1)):=by grind
theorem merge_mul {nz:Int→Int} (hz:Nz8 nz) {ma mb:Int} (wma:Fw ma) (fma:fI ma=true) (wmb:Fw mb) (fmb:fI mb=true):∀ (n:Nat) (l m:List Tm) (e E e0:Int),l.length+m.length≤n →
 (∀ t∈l,Fw t.c∧fI t.c=true)→(∀ t∈m,Fw t.c∧fI t.c=true)→Up e E→(∀ t∈(mergeN (mulD ma mb) n l m e).1,fI t.c=true)→(∀ t∈(mergeN (okE ma mb) n l m e0).1,t.c=0) →
 ∃ D:Int,0≤D∧Up (mergeN (mulD ma mb) n l m e).2 (E+D)∧(((QD:Int)*lnS nz (mergeN (mulD ma mb) n l m e).1-(fv ma.toNat*lnS nz m+fv mb.toNat*lnS nz l)).natAbs:Int)≤8*(D*(QD:Int)):=by
 intro n
 have z0:∀ (A B Q:Int),((Q*0-(A*0+B*0)).natAbs:Int)≤8*(0*Q):=fun A B Q=>by simp
 induction n with
 | zero =>
  intro l m e E e0 hn hl hm he hr ho
  have h1:l=[]:=List.length_eq_zero_iff.1 (by omega)
  have h2:m=[]:=List.length_eq_zero_iff.1 (by omega)
  subst h1 h2
  exact ⟨0,by omega,by rw [Int.add_zero];exact he,z0 _ _ _⟩
 | succ n ih =>
  intro l m e E e0 hn hl hm he hr ho
  have one:∀ (id x y:Int) (l' m':List Tm) (r ro:List Tm×Int),r=stepM id (mulD ma mb e x y) (mergeN (mulD ma mb) n l' m')→ro=stepM id (okE ma mb e0 x y) (mergeN (okE ma mb) n l' m')→l'.length+m'.length≤n →
   (∀ t∈l',Fw t.c∧fI t.c=true)→(∀ t∈m',Fw t.c∧fI t.c=true) →
   (Fw x∧fI x=true)→(Fw y∧fI y=true)→(∀ t∈r.1,fI t.c=true)→(∀ t∈ro.1,t.c=0)→lnS nz l=fv x.toNat*nz id+lnS nz l'→lnS nz m=fv y.toNat*nz id+lnS nz m' →
   ∃ D:Int,0≤D∧Up r.2 (E+D)∧(((QD:Int)*lnS nz r.1-(fv ma.toNat*lnS nz m+fv mb.toNat*lnS nz l)).natAbs:Int)≤8*(D*(QD:Int)):=by
   intro id x y l' m' r ro hr hro hn' hl' hm' hx hy hfin hok hs1 hs2
   subst hr hro
   have f1:fI (mulD ma mb e x y).1=true:=hfin ⟨id,(mulD ma mb e x y).1⟩ (List.mem_cons_self ..)
   have o1:okD ma mb x y=true:=by
    have h1:(okE ma mb e0 x y).1=0:=hok ⟨id,(okE ma mb e0 x y).1⟩ (List.mem_cons_self ..)
    unfold okE at h1
    cases ho:okD ma mb x y with
    | true=>rfl
    | false=>rw [ho] at h1;exact absurd h1 (by simp)
   unfold okD at o1
   rw [Bool.and_eq_true] at o1
   obtain ⟨D1,p0,p1,pw,p2⟩:=part_ok wma fma hy.1 hy.2 o1.1
   obtain ⟨D2,q0,q1,qw,q2⟩:=part_ok wmb fmb hx.1 hx.2 o1.2
   obtain ⟨D3,r0,r1,r2⟩:=slk_add pw qw o1.1 o1.2 f1
   have hE:Up (mulD ma mb e x y).2 (E+D1+D2+D3):=by
    have:=upI2 (q1 _ _ (p1 _ _ he)) r1
    unfold mulD
    cases hx0:decide (x=0) with
    | true=>rw [hx0] at this;exact this
    | false=>rw [hx0] at this;exact this
   have e1:fv (mulD ma mb e x y).1.toNat=fv (addI (bif decide (y=0) then 0 else mulI ma y 0) (bif decide (x=0) then 0 else mulI mb x 0) 0).toNat:=rfl
   rw [← e1] at r2
   have hc:(((QD:Int)*fv (mulD ma mb e x y).1.toNat-(fv ma.toNat*fv y.toNat+fv mb.toNat*fv x.toNat)).natAbs:Int)≤(D1+D2+D3)*(QD:Int):=by
    rw [part_id (QD:Int) _ (fv (bif decide (y=0) then 0 else mulI ma y 0:Int).toNat) (fv (bif decide (x=0) then 0 else mulI mb x 0:Int).toNat)]
    have:=tri_le (abs_sc QD_posI r2) p2 q2
    have e9:(D1+D2+D3)*(QD:Int)=D3*(QD:Int)+D1*(QD:Int)+D2*(QD:Int):=by grind
    rw [e9];exact this
   obtain ⟨D4,b0,b1,b2⟩:=ih l' m' (mulD ma mb e x y).2 (E+D1+D2+D3) e0 hn' hl' hm' hE (fun t ht=>hfin t (List.mem_cons_of_mem _ ht)) (fun t ht=>hok t (List.mem_cons_of_mem _ ht))
   refine ⟨D1+D2+D3+D4,by omega,by rw [← Int.add_assoc,← Int.add_assoc,← Int.add_assoc];exact b1,?_⟩
   have e2:lnS nz (stepM id (mulD ma mb e x y) (mergeN (mulD ma mb) n l' m')).1=fv (mulD ma mb e x y).1.toNat*nz id+lnS nz (mergeN (mulD ma mb) n l' m' (mulD ma mb e x y).2).1:=rfl
   rw [e2,hs1,hs2,step_id]
   have k:=natAbs_mul_le hc (hz id).1 (hz id).2
   rw [Int.add_mul (D1+D2+D3) D4]
   generalize (D1+D2+D3)*(QD:Int)=u1 at *
   generalize D4*(QD:Int)=u2 at *
   omega
  match l,m,hn with
  | [],[],_=>exact ⟨0,by omega,by rw [Int.add_zero];exact he,z0 _ _ _⟩
  | a::l,[],hn =>
   refine one a.id a.c 0 l [] _ _ rfl rfl (by simp at hn ⊢;omega) (fun t ht=>hl t (List.mem_cons_of_mem _ ht)) hm (hl a (List.mem_cons_self ..)) ⟨fw_0,rfl⟩ hr ho rfl ?_
   rw [fv_0,Int.zero_mul];rfl
  | [],b::m,hn =>
   refine one b.id 0 b.c [] m _ _ rfl rfl (by simp at hn ⊢;omega) hl (fun t ht=>hm t (List.mem_cons_of_mem _ ht)) ⟨fw_0,rfl⟩ (hm b (List.mem_cons_self ..)) hr ho ?_ rfl
   rw [fv_0,Int.zero_mul];rfl
  | a::l,b::m,hn =>
   simp only [List.length_cons] at hn
   by_cases h1:a.id<b.id
   · have e:∀ f e,mergeN f (n+1) (a::l) (b::m) e=stepM a.id (f e a.c 0) (mergeN f n l (b::m)):=fun f e=>by simp only [mergeN,decide_eq_true h1,cond_true]
     refine one a.id a.c 0 l (b::m) _ _ (e _ _) (e _ _) (by simp only [List.length_cons];omega) (fun t ht=>hl t (List.mem_cons_of_mem _ ht)) hm (hl a (List.mem_cons_self ..)) ⟨fw_0,rfl⟩ hr ho rfl ?_
     rw [fv_0,Int.zero_mul,Int.zero_add]
   · by_cases h2:b.id<a.id
     · have e:∀ f e,mergeN f (n+1) (a::l) (b::m) e=stepM b.id (f e 0 b.c) (mergeN f n (a::l) m):=fun f e=>by simp only [mergeN,decide_eq_false h1,decide_eq_true h2,cond_true,cond_false]
       refine one b.id 0 b.c (a::l) m _ _ (e _ _) (e _ _) (by simp only [List.length_cons];omega) hl (fun t ht=>hm t (List.mem_cons_of_mem _ ht)) ⟨fw_0,rfl⟩ (hm b (List.mem_cons_self ..)) hr ho ?_ rfl
       rw [fv_0,Int.zero_mul,Int.zero_add]
     · have e:∀ f e,mergeN f (n+1) (a::l) (b::m) e=stepM a.id (f e a.c b.c) (mergeN f n l m):=fun f e=>by simp only [mergeN,decide_eq_false h1,decide_eq_false h2,cond_false]
       have hid:b.id=a.id:=by omega
       refine one a.id a.c b.c l m _ _ (e _ _) (e _ _) (by omega) (fun t ht=>hl t (List.mem_cons_of_mem _ ht)) (fun t ht=>hm t (List.mem_cons_of_mem _ ht)) (hl a (List.mem_cons_self ..)) (hm b (List.mem_cons_self ..)) hr ho rfl ?_
       rw [← hid];rfl
theorem ln_le {nz:Int→Int} (hz:Nz8 nz):∀ l:List Tm,((lnS nz l).natAbs:Int)≤8*(sumN l 0:Int)
 | []=>by show ((0:Int).natAbs:Int)≤8*((0:Nat):Int);decide
 | t::l=>by
  have ih:=ln_le hz l
  have k:=natAbs_mul_le (d:=fv t.c.toNat) (Int.le_refl _) (hz t.id).1 (hz t.id).2
  have e:sumN (t::l) 0=avF t.c+sumN l 0:=by
   show sumN l (0+avF t.c)=_
   rw [sumN_add];omega
  rw [e]
  show ((fv t.c.toNat*nz t.id+lnS nz l).natAbs:Int)≤_
  unfold avF
  omega
theorem ok_rest {a:Fm} (h:okF a=true):okF (a.1,(0,(a.2.2.1,a.2.2.2)))=true:=by
 obtain ⟨h1,-⟩:=okF_fin h
 unfold okF at h ⊢
 rw [mayF_eq] at h ⊢
 simp only [h1,Bool.false_or,cond_false,Bool.not_not,Bool.and_eq_true] at h ⊢
 obtain ⟨k1,k2,k3,k4,k5⟩:=h
 exact ⟨k1,rfl,rfl,k4,k5⟩
theorem rest_up {a:Fm} (h:okF a=true):Up (restF a) (radN a:Int):=by
 have:=up_rad (ok_rest h)
 exact this
theorem dev_k {nz:Int→Int} (hz:Nz8 nz) {a:Fm} {X k:Int} (hk:0<k) (ha:okF a=true) (hX:HasN nz a X k):((X-8*fv a.2.1.toNat*k).natAbs:Int)≤8*(radN a:Int)*k:=by
 obtain ⟨fa,Fa⟩:=okF_fin ha
 have hX:=hX.resolve_left (by rw [fa];simp)
 have h1:=abs_sc hk (ln_le hz a.2.2.1)
 have h2:=fv_err ha
 unfold smN at hX
 have e:radN a=avF a.2.2.2+sumN a.2.2.1 0:=by unfold radN;rw [sumN_add]
 have e2:((avF a.2.2.2:Nat):Int)=fv a.2.2.2.toNat:=by unfold avF;omega
 rw [e,Int.natCast_add,e2,Int.mul_add,Int.add_mul]
 rw [Int.add_mul] at hX
 generalize 8*fv a.2.1.toNat*k=m at *
 generalize lnS nz a.2.2.1*k=L at *
 omega
theorem dev_le {nz:Int→Int} (hz:Nz8 nz) {a:Fm} {X:Int} (ha:okF a=true) (hX:HasN nz a X 1):((X-8*fv a.2.1.toNat).natAbs:Int)≤8*(radN a:Int):=by
 have:=dev_k hz (by omega) ha hX
 rwa [Int.mul_one,Int.mul_one] at this
theorem mul_id (Q M C A B La Lb X Y:Int):(8*M+C)*(8*Q)-X*Y=64*(M*Q-A*B)+8*(Q*C-(A*Lb+B*La))+8*(A*(8*B+Lb-Y))+8*(B*(8*A+La-X))-(X-8*A)*(Y-8*B):=by grind
theorem abs_mul_le {a b c d:Int} (h1:(a.natAbs:Int)≤c) (h2:(b.natAbs:Int)≤d):((a*b).natAbs:Int)≤c*d:=by
 rw [Int.natAbs_mul,Int.natCast_mul]
 refine Int.le_trans (Int.mul_le_mul_of_nonneg_right h1 (by omega)) ?_
 exact Int.mul_le_mul_of_nonneg_left h2 (by omega)
theorem five_le {u v w x y U V W Z T:Int} (h1:(u.natAbs:Int)≤U) (h2:(v.natAbs:Int)≤8*V) (h3:(w.natAbs:Int)≤8*W) (h4:(x.natAbs:Int)≤8*Z) (h5:(y.natAbs:Int)≤64*T) :
 ((64*u+8*v+8*w+8*x-y).natAbs:Int)≤64*(U+V+W+Z+T):=by omega
theorem absA_up {m e:Int} (fm:fI m=true) (fe:fI e=true) (he:0≤fv e.toNat):∃ D:Int,0≤D∧Up (mulI (absA m) e 1) D∧((fv m.toNat).natAbs:Int)*fv e.toNat≤D*(QD:Int):=by
 obtain ⟨f1,f2⟩:=fv_absF fm
 have:=up_mul f1 fe (by rw [f2];exact Int.mul_nonneg (by unfold avF;omega) he)
 rw [f2] at this
 exact this
theorem mul_sound {nz:Int→Int} (hz:Nz8 nz) {a b:Fm} {X Y:Int} (ha:okF a=true) (hb:okF b=true) (wa:FmW a) (wb:FmW b)
 (hX:HasN nz a X 1) (hY:HasN nz b Y 1):HasN nz (mulFm a b) (X*Y) (8*(QD:Int)):=by
 obtain ⟨fa,Fa⟩:=okF_fin ha
 obtain ⟨fb,Fb⟩:=okF_fin hb
 have dX:=dev_le hz ha hX
 have dY:=dev_le hz hb hY
 have hX:=hX.resolve_left (by rw [fa];simp)
 have hY:=hY.resolve_left (by rw [fb];simp)
 cases hc:(mulFm a b).1 with
 | true=>exact .inl hc
 | false =>
  right
  rw [mulFm_eq] at hc ⊢
  unfold mulFm' at hc ⊢
  rw [ha,hb] at hc ⊢
  simp only [Bool.and_self,cond_true] at hc ⊢
  cases hg:(fI (restF a)&&fI (restF b))&&okMm a.2.1 b.2.1 (a.2.2.1.length+b.2.2.1.length) a.2.2.1 b.2.2.1 with
  | false=>rw [hg] at hc;cases hc
  | true =>
   rw [hg] at hc
   simp only [cond_true] at hc ⊢
   rw [Bool.and_eq_true,Bool.and_eq_true] at hg
   obtain ⟨⟨ra,rb⟩,hok⟩:=hg
   obtain ⟨fm,fe,ft,e⟩:=done_fin (l:=(mergeN (mulD a.2.1 b.2.1) (a.2.2.1.length+b.2.2.1.length) a.2.2.1 b.2.2.1 (mulE a b (restF a) (restF b))).1) (e:=(mergeN (mulD a.2.1 b.2.1) (a.2.2.1.length+b.2.2.1.length) a.2.2.1 b.2.2.1 (mulE a b (restF a) (restF b))).2) hc
   have e':doneF (false,(mulI a.2.1 b.2.1 0,mergeN (mulD a.2.1 b.2.1) (a.2.2.1.length+b.2.2.1.length) a.2.2.1 b.2.2.1 (mulE a b (restF a) (restF b))))=_:=e
   rw [e']
   have ea:=fv_err ha
   have eb:=fv_err hb
   obtain ⟨D0,d0,d1,d2⟩:=slk_mul wa.mid wb.mid Fa.mid Fb.mid fm
   obtain ⟨D1,g0,g1,g2⟩:=absA_up Fa.mid Fb.err eb
   obtain ⟨D2,h0,h1,h2⟩:=absA_up Fb.mid Fa.err ea
   have ua:=(rest_up ha).resolve_right (fun h=>by rw [h] at ra;cases ra)
   have ub:=(rest_up hb).resolve_right (fun h=>by rw [h] at rb;cases rb)
   have pab:0≤fv (restF a).toNat*fv (restF b).toNat:=Int.mul_nonneg (by omega) (by omega)
   obtain ⟨D3,r0,r1,r2⟩:=up_mul ra rb pab
   have hE:Up (mulE a b (restF a) (restF b)) (D0+D1+D2+D3):=by
    have:=up_add (up_add (up_add (up_add up_0 d1) g1) h1) r1
    rw [Int.zero_add] at this;exact this
   have hok2:∀ t∈(mergeN (okE a.2.1 b.2.1) (a.2.2.1.length+b.2.2.1.length) a.2.2.1 b.2.2.1 0).1,t.c=0:=fun t ht=>by
    unfold okMm at hok
    exact of_decide_eq_true (List.all_eq_true.1 hok t ht)
   obtain ⟨D4,k0,k1,k2⟩:=merge_mul hz wa.mid Fa.mid wb.mid Fb.mid (a.2.2.1.length+b.2.2.1.length) a.2.2.1 b.2.2.1 _ _ 0 (Nat.le_refl _) (fun t ht=>⟨wa.tms t ht,Fa.tms t ht⟩) (fun t ht=>⟨wb.tms t ht,Fb.tms t ht⟩) hE ft hok2
   have k1:=(k1.resolve_right (fun h=>by rw [h] at fe;cases fe)).2
   show ((smN nz (false,(nzI (mulI a.2.1 b.2.1 0),(delZ _,nzI _)))*(8*(QD:Int))-X*Y).natAbs:Int)≤8*fv (nzI _).toNat*(8*(QD:Int))
   unfold smN at hX hY ⊢
   simp only [fv_nz,ln_delZ,Int.mul_one] at hX hY ⊢
   generalize hR:mergeN (mulD a.2.1 b.2.1) (a.2.2.1.length+b.2.2.1.length) a.2.2.1 b.2.2.1 (mulE a b (restF a) (restF b))=R at *
   have rr:(radN a:Int)*(radN b:Int)≤D3*(QD:Int):=by
    refine Int.le_trans ?_ r2
    refine Int.le_trans (Int.mul_le_mul_of_nonneg_right ua.2 (by omega)) ?_
    exact Int.mul_le_mul_of_nonneg_left ub.2 (by omega)
   have t5:=abs_mul_le dX dY
   have t3:=abs_mul_le (a:=fv a.2.1.toNat) (Int.le_refl _) hY
   have t4:=abs_mul_le (a:=fv b.2.1.toNat) (Int.le_refl _) hX
   rw [mul_id (QD:Int) (fv (mulI a.2.1 b.2.1 0).toNat) (lnS nz R.1) (fv a.2.1.toNat) (fv b.2.1.toNat) (lnS nz a.2.2.1) (lnS nz b.2.2.1) X Y]
   have:=five_le (u:=fv (mulI a.2.1 b.2.1 0).toNat*(QD:Int)-fv a.2.1.toNat*fv b.2.1.toNat) (U:=D0*(QD:Int)) d2 k2
    (Int.le_trans t3 (show _≤8*(D1*(QD:Int)) by rw [Int.mul_left_comm];exact Int.mul_le_mul_of_nonneg_left g2 (by omega)))
    (Int.le_trans t4 (show _≤8*(D2*(QD:Int)) by rw [Int.mul_left_comm];exact Int.mul_le_mul_of_nonneg_left h2 (by omega)))
    (Int.le_trans t5 (show _≤64*(D3*(QD:Int)) by
      rw [show 8*(radN a:Int)*(8*(radN b:Int))=64*((radN a:Int)*(radN b:Int)) by grind]
      exact Int.mul_le_mul_of_nonneg_left rr (by omega)))
   refine Int.le_trans this ?_
   have m:=Int.mul_le_mul_of_nonneg_right k1 (show 0≤(QD:Int) by have:=QD_posI;omega)
   rw [show (D0+D1+D2+D3+D4)*(QD:Int)=D0*(QD:Int)+D4*(QD:Int)+D1*(QD:Int)+D2*(QD:Int)+D3*(QD:Int) by grind] at m
   rw [show 8*fv R.2.toNat*(8*(QD:Int))=64*(fv R.2.toNat*(QD:Int)) by grind]
   exact Int.mul_le_mul_of_nonneg_left m (by omega)
theorem ln_neg {nz:Int→Int}:∀ {l:List Tm},(∀ t∈l,Fw t.c∧fI t.c=true)→lnS nz (l.map negT) = -lnS nz l
 | [],_=>rfl
 | t::l,h=>by
  have ih:=ln_neg (nz:=nz) (l:=l) fun u hu=>h u (List.mem_cons_of_mem _ hu)
  obtain ⟨w,f⟩:=h t (List.mem_cons_self ..)
  have e:=(fv_negF (fw_lt w) (fI_top.1 f)).2
  show fv (negI t.c).toNat*nz t.id+lnS nz (l.map negT) = -(fv t.c.toNat*nz t.id+lnS nz l)
  unfold negI
  rw [ih,Int.toNat_natCast,e,Int.neg_mul];omega
theorem neg_sound {nz:Int→Int} {a:Fm} {X:Int} (ha:okF a=true) (wa:FmW a) (hX:HasN nz a X 1):HasN nz (negFm a) (-X) 1:=by
 obtain ⟨fa,Fa⟩:=okF_fin ha
 have hX:=hX.resolve_left (by rw [fa];simp)
 cases hc:(negFm a).1 with
 | true=>exact .inl hc
 | false =>
  right
  unfold negFm at hc ⊢
  rw [ha] at hc ⊢
  simp only [cond_true] at hc ⊢
  obtain ⟨fm,fe,ft,e⟩:=done_fin hc
  rw [e]
  show ((smN nz (false,(nzI (negI a.2.1),(delZ (a.2.2.1.map negT),nzI a.2.2.2)))*1-(-X)).natAbs:Int)≤8*fv (nzI a.2.2.2).toNat*1
  unfold smN at hX ⊢
  simp only [fv_nz,ln_delZ,Int.mul_one] at hX ⊢
  rw [ln_neg fun t ht=>⟨wa.tms t ht,Fa.tms t ht⟩]
  have e1:=(fv_negF (fw_lt wa.mid) (fI_top.1 Fa.mid)).2
  unfold negI
  rw [Int.toNat_natCast,e1]
  omega
def WithinN (n d:Int) (s:Spn):Prop:=s.1=false∧(noNum s.2.1.toNat=false→fv s.2.1.toNat*d≤n)∧(noNum s.2.2.toNat=false→n≤fv s.2.2.toNat*d)
theorem fI_nan {f:Int} (h:fI f=true):nanI f=false:=nanF (fI_top.1 h)
theorem ends_norm {lo hi f:Int} (hf:fI f=true) (h1:Dn lo (fv f.toNat)) (h2:Up hi (fv f.toNat)):normS (false,(lo,hi))=(false,(nzI lo,nzI hi)):=by
 have k:=ky_fin hf
 have kl:nanI lo=false∧lo≠posI∧ky lo≤ky f:=by
  rcases h1 with ⟨a,b⟩ | rfl
  · have n1:=fI_nan a
    refine ⟨n1,fun e=>?_,(fv_le a hf).1 b⟩
    subst e;cases a
  · exact ⟨rfl,by decide,by rw [key_ninf];omega⟩
 have kh:nanI hi=false∧hi≠negInf∧ky f≤ky hi:=by
  rcases h2 with ⟨a,b⟩ | rfl
  · have n1:=fI_nan a
    refine ⟨n1,fun e=>?_,(fv_le hf a).1 b⟩
    subst e;cases a
  · exact ⟨rfl,by decide,by rw [key_inf];omega⟩
 unfold normS
 simp only []
 rw [leF_iff.2 ⟨kl.1,kh.1,by omega⟩,decide_eq_false kl.2.1,decide_eq_false kh.2.1];rfl
theorem no_posI:noNum (nzI posI).toNat=true:=by decide +kernel
theorem no_negI:noNum (nzI negInf).toNat=true:=by decide +kernel
theorem within_all (n d:Int):WithinN n d (false,(negInf,posI)):=by
 have h1:noNum negInf.toNat=true:=by decide +kernel
 have h2:noNum posI.toNat=true:=by decide +kernel
 unfold WithinN
 refine ⟨rfl,fun h=>?_,fun h=>?_⟩
 · have h:noNum negInf.toNat=false:=h
   rw [h1] at h;cases h
 · have h:noNum posI.toNat=false:=h
   rw [h2] at h;cases h
theorem span_within {nz:Int→Int} (hz:Nz8 nz) {a:Fm} {Z k:Int} (hk:0<k) (wa:FmW a) (hZ:HasN nz a Z k):WithinN Z (8*k) (spanF a):=by
 unfold spanF
 cases ho:okF a with
 | false =>
  rw [cond_false]
  exact within_all _ _
 | true =>
  rw [cond_true]
  have dv:=dev_k hz hk ho hZ
  obtain ⟨_,hfin⟩:=okF_fin ho
  have u:=up_rad ho
  have wr:=fw_rad wa
  have up:Up (addI a.2.1 (radF a) 1) (fv a.2.1.toNat+radN a):=up_add (up_self hfin.mid) u
  have dn:Dn (addI a.2.1 (negI (radF a)) 2) (fv a.2.1.toNat+-(radN a:Int)):=dn_add hfin.mid (Int.le_refl _) (dn_neg wr u)
  rw [ends_norm (f:=a.2.1) hfin.mid (dn.imp (fun ⟨a1,b1⟩=>⟨a1,by omega⟩) id) (up_mono up (by omega))]
  have e:∀ r:Int,8*r*k=r*(8*k):=fun r=>by grind
  rw [e,e] at dv
  have h8:(0:Int)≤8*k:=by omega
  refine ⟨rfl,fun hn=>?_,fun hn=>?_⟩
  · show fv (nzI _).toNat*(8*k)≤Z
    rw [fv_nz]
    rcases dn with ⟨_,b1⟩ | h
    · have:=Int.mul_le_mul_of_nonneg_right b1 h8
      rw [Int.add_mul,Int.neg_mul] at this
      generalize (radN a:Int)*(8*k)=u1 at *
      generalize fv a.2.1.toNat*(8*k)=u2 at *
      omega
    · have hn:noNum (nzI (addI a.2.1 (negI (radF a)) 2)).toNat=false:=hn
      rw [h,no_negI] at hn;cases hn
  · show Z≤fv (nzI _).toNat*(8*k)
    rw [fv_nz]
    rcases up with ⟨_,b1⟩ | h
    · have:=Int.mul_le_mul_of_nonneg_right b1 h8
      rw [Int.add_mul] at this
      generalize (radN a:Int)*(8*k)=u1 at *
      generalize fv a.2.1.toNat*(8*k)=u2 at *
      omega
    · have hn:noNum (nzI (addI a.2.1 (radF a) 1)).toNat=false:=hn
      rw [h,no_posI] at hn;cases hn
theorem fw_nz {m:Int} (h:Fw m):Fw (nzI m):=by
 unfold nzI
 cases zI m with
 | true=>exact fw_0
 | false=>exact h
theorem fw_bad:FmW badF:=⟨fw_0,fw_0,fun t ht=>by cases ht⟩
theorem fw_done {m e:Int} {l:List Tm} (hm:Fw m) (he:Fw e) (hl:∀ t∈l,Fw t.c):FmW (doneF (false,(m,(l,e)))):=by
 rw [doneF_eq]
 simp only []
 cases (fI (nzI m)&&fI (nzI e))&&!((delZ l).any fun t=>!fI t.c) with
 | true=>exact ⟨fw_nz hm,fw_nz he,fun t ht=>hl t (List.mem_filter.1 (show t∈l.filter _ from ht)).1⟩
 | false=>exact fw_bad
theorem fw_merge {f:Int→Int→Int→Int×Int} (hf:∀ e x y,Fw e→Fw x→Fw y→Fw (f e x y).1∧Fw (f e x y).2):∀ (n:Nat) (l m:List Tm) (e:Int),Fw e→(∀ t∈l,Fw t.c)→(∀ t∈m,Fw t.c) →
 (∀ t∈(mergeN f n l m e).1,Fw t.c)∧Fw (mergeN f n l m e).2:=by
 intro n
 induction n with
 | zero=>intro l m e he _ _;exact ⟨fun t ht=>(by cases ht),he⟩
 | succ n ih =>
  intro l m e he hl hm
  have one:∀ (id x y:Int) (l' m':List Tm),Fw x→Fw y→(∀ t∈l',Fw t.c)→(∀ t∈m',Fw t.c)→(∀ t∈(stepM id (f e x y) (mergeN f n l' m')).1,Fw t.c)∧Fw (stepM id (f e x y) (mergeN f n l' m')).2:=by
   intro id x y l' m' hx hy hl' hm'
   obtain ⟨f1,f2⟩:=hf e x y he hx hy
   obtain ⟨i1,i2⟩:=ih l' m' (f e x y).2 f2 hl' hm'
   refine ⟨fun t ht=>?_,i2⟩
   rcases List.mem_cons.1 ht with rfl | ht
   · exact f1
   · exact i1 t ht
  match l,m with
  | [],[]=>exact ⟨fun t ht=>(by cases ht),he⟩
  | a::l,[]=>exact one a.id a.c 0 l [] (hl a (List.mem_cons_self ..)) fw_0 (fun t ht=>hl t (List.mem_cons_of_mem _ ht)) hm
  | [],b::m=>exact one b.id 0 b.c [] m fw_0 (hm b (List.mem_cons_self ..)) hl (fun t ht=>hm t (List.mem_cons_of_mem _ ht))
  | a::l,b::m =>
   by_cases h1:a.id<b.id
   · have e:mergeN f (n+1) (a::l) (b::m) e=stepM a.id (f e a.c 0) (mergeN f n l (b::m)):=by simp only [mergeN,decide_eq_true h1,cond_true]
     rw [e];exact one a.id a.c 0 l (b::m) (hl a (List.mem_cons_self ..)) fw_0 (fun t ht=>hl t (List.mem_cons_of_mem _ ht)) hm
   · by_cases h2:b.id<a.id
     · have e:mergeN f (n+1) (a::l) (b::m) e=stepM b.id (f e 0 b.c) (mergeN f n (a::l) m):=by simp only [mergeN,decide_eq_false h1,decide_eq_true h2,cond_true,cond_false]
       rw [e];exact one b.id 0 b.c (a::l) m fw_0 (hm b (List.mem_cons_self ..)) hl (fun t ht=>hm t (List.mem_cons_of_mem _ ht))
     · have e:mergeN f (n+1) (a::l) (b::m) e=stepM a.id (f e a.c b.c) (mergeN f n l m):=by simp only [mergeN,decide_eq_false h1,decide_eq_false h2,cond_false]
       rw [e];exact one a.id a.c b.c l m (hl a (List.mem_cons_self ..)) (hm b (List.mem_cons_self ..)) (fun t ht=>hl t (List.mem_cons_of_mem _ ht)) (fun t ht=>hm t (List.mem_cons_of_mem _ ht))
theorem fw_mul {x y:Int} (hx:Fw x) (hy:Fw y) (m:Int):Fw (mulI x y m):=by rw [mulI_cast];exact fw_nat (mulF_w hx hy m)
theorem fw_slkA {x y:Int} (hx:Fw x) (hy:Fw y):Fw (slkA x y):=fw_add (fw_add hx hy 1) (fw_neg (fw_add hx hy 2)) 1
theorem fw_slkM {x y:Int} (hx:Fw x) (hy:Fw y):Fw (slkM x y):=fw_add (fw_mul hx hy 1) (fw_neg (fw_mul hx hy 2)) 1
theorem fw_mulD {ma mb e x y:Int} (ha:Fw ma) (hb:Fw mb) (he:Fw e) (hx:Fw x) (hy:Fw y):Fw (mulD ma mb e x y).1∧Fw (mulD ma mb e x y).2:=by
 have p:Fw (bif decide (y=0) then 0 else mulI ma y 0):=by
  cases decide (y=0) with
  | true=>exact fw_0
  | false=>exact fw_mul ha hy 0
 have q:Fw (bif decide (x=0) then 0 else mulI mb x 0):=by
  cases decide (x=0) with
  | true=>exact fw_0
  | false=>exact fw_mul hb hx 0
 have e1:Fw (bif decide (y=0) then e else upI [e,slkM ma y]):=by
  cases decide (y=0) with
  | true=>exact he
  | false=>exact fw_up he (fw_slkM ha hy)
 unfold mulD
 refine ⟨fw_add p q 0,fw_up ?_ (fw_slkA p q)⟩
 cases decide (x=0) with
 | true=>exact e1
 | false=>exact fw_up e1 (fw_slkM hb hx)
theorem fw_mulFm {a b:Fm} (wa:FmW a) (wb:FmW b):FmW (mulFm a b):=by
 rw [mulFm_eq]
 unfold mulFm'
 cases okF a&&okF b with
 | false=>exact fw_bad
 | true =>
  rw [cond_true]
  cases (fI (restF a)&&fI (restF b))&&okMm a.2.1 b.2.1 (a.2.2.1.length+b.2.2.1.length) a.2.2.1 b.2.2.1 with
  | false=>exact fw_bad
  | true =>
   have w0:∀ {c:Fm},FmW c→FmW (c.1,(0,(c.2.2.1,c.2.2.2))):=fun h=>⟨fw_0,h.err,h.tms⟩
   have ra:Fw (restF a):=fw_rad (w0 wa)
   have rb:Fw (restF b):=fw_rad (w0 wb)
   have he:Fw (mulE a b (restF a) (restF b)):=fw_add (fw_add (fw_up (fw_slkM wa.mid wb.mid) (fw_mul (fw_abs wa.mid) wb.err 1)) (fw_mul (fw_abs wb.mid) wa.err 1) 1) (fw_mul ra rb 1) 1
   obtain ⟨h1,h2⟩:=fw_merge (f:=mulD a.2.1 b.2.1) (fun e x y=>fw_mulD wa.mid wb.mid) (a.2.2.1.length+b.2.2.1.length) a.2.2.1 b.2.2.1 (mulE a b (restF a) (restF b)) he wa.tms wb.tms
   exact fw_done (fw_mul wa.mid wb.mid 0) h2 h1
theorem fw_negFm {a:Fm} (wa:FmW a):FmW (negFm a):=by
 unfold negFm
 cases okF a with
 | false=>exact fw_bad
 | true =>
  refine fw_done (fw_neg wa.mid) wa.err fun t ht=>?_
  obtain ⟨u,hu,rfl⟩:=List.mem_map.1 ht
  exact fw_neg (wa.tms u hu)
theorem fw_wd {x:Int} (h:Fw x):Wd64 x:=⟨x.toNat,(fw_cast h).symm,fw_lt h⟩
theorem sub_sound {nz:Int→Int} (hz:Nz8 nz) {a b:Fm} {X Y:Int} (ha:okF a=true) (hb:okF b=true) (wa:FmW a) (wb:FmW b)
 (hX:HasN nz a X 1) (hY:HasN nz b Y 1):HasN nz (subFm a b) (X-Y) 1:=by
 have h1:=hb
 unfold okF at h1
 simp only [Bool.not_eq_true',Bool.or_eq_false_iff,Bool.not_eq_false'] at h1
 have tb:=tells h1.1 h1.2 (fw_wd wb.mid) (fw_wd wb.err) (fun t ht=>fw_wd (wb.tms t ht))
 have hn:=okF_tells (neg_tells tb).2
 have:=add_sound hz ha hn wa (fw_negFm wb) hX (neg_sound hb wb hY)
 rwa [← Int.sub_eq_add_neg] at this
end
end Su
end
section
namespace Su
open Go Fly
set_option linter.unusedVariables false
noncomputable section
theorem bifF {α:Type} {b:Bool} {x y:α} (h:b=false):(bif b then x else y)=y:=by rw [h];rfl
theorem bifT {α:Type} {b:Bool} {x y:α} (h:b=true):(bif b then x else y)=x:=by rw [h];rfl
def nzF (l:List Int) (id:Int):Int:=bif Nat.beq l.length 0||decide (id<0) then 0 else min (max ((l[(id.toNat % l.length)]?).getD 0) (-8)) 8
theorem nz8 (l:List Int):Nz8 (nzF l):=by
 intro i
 unfold nzF
 cases (Nat.beq l.length 0||decide (i<0)) with
 | true=>rw [cond_true];omega
 | false=>rw [cond_false];omega
def Q8:Nat:=8*QD
theorem Q8_pos:0<Q8:=by unfold Q8;have:=QD_pos;omega
theorem q_add (p r:Int) {q:Nat} (hq:0<q):radd (mkQ p q) (mkQ r q)=mkQ (p+r) q:=by
 rw [radd_mk p r hq hq,← Int.add_mul,mk_scale _ _ hq]
theorem q_sub (p r:Int) {q:Nat} (hq:0<q):rsub (mkQ p q) (mkQ r q)=mkQ (p-r) q:=by
 rw [rsub_mk p r hq hq,← Int.sub_mul,mk_scale _ _ hq]
theorem q_mul8 (c n:Int):rmul (mkQ c QD) (mkQ n 8)=mkQ (c*n) Q8:=by
 rw [rmul_mk c n QD_pos (by omega),Nat.mul_comm QD 8];rfl
theorem q_up8 (c:Int):mkQ c QD=mkQ (8*c) Q8:=by
 have:=mk_scale c QD (k:=8) (by omega)
 rw [← this,Int.mul_comm,Nat.mul_comm QD 8];rfl
theorem eight_sz (n:Int) (h1 : -8≤n) (h2:n≤8):Sz (mkQ n 8) 1:=mk_sz (by show n.natAbs<4294967296^1;rw [Nat.pow_one];omega) (by show 8<4294967296^1;rw [Nat.pow_one];omega) (by omega)
theorem q8_sz {p:Int} (h:p.natAbs<1048576*2^BX):Sz (mkQ p Q8) 100:=by
 have h1:=BX_eq
 have h2:=EX_eq
 refine mk_sz ?_ ?_ (by omega)
 · rw [pow32,show 32*100=20+BX+1082 by omega,Nat.pow_add,Nat.pow_add]
   refine Nat.lt_of_lt_of_le h ?_
   rw [show (1048576:Nat)=2^20 from rfl]
   generalize (1082:Nat)=m
   exact Nat.le_mul_of_pos_right _ (Nat.two_pow_pos m)
 · unfold Q8
   obtain ⟨c,hc,h3⟩:∃ c:Nat,32*100=3+EX+c∧1≤c:=⟨2123,by omega,by omega⟩
   rw [QD_eq,pow32,hc,Nat.pow_add,Nat.pow_add]
   rw [show (8:Nat)=2^3 from rfl]
   have:1<2^c:=Nat.one_lt_two_pow (by omega)
   generalize (2:Nat)^c=m at *
   have hp:0<2^3*2^EX:=Nat.mul_pos (by omega) (Nat.two_pow_pos _)
   generalize 2^3*2^EX=n at *
   have:=Nat.mul_lt_mul_of_pos_left this hp
   omega
theorem sz_mul {a b:Rt} {k m:Nat} (h:Sz a k) (h':Sz b m) (hk:1≤k) (hm:1≤m):Sz (rmul a b) (k+m) :=
 low_sz (mul_pow (rlow_sz h hk).nu (rlow_sz h' hm).nu) (mul_pow (rlow_sz h hk).de (rlow_sz h' hm).de) (by omega)
theorem ok2 {a b:Rt} {k m:Nat} (h:Sz a k) (h':Sz b m) (hk:k≤400000) (hm:m≤400000):(ok4 a&&ok4 b)=true:=by rw [h.ok4 hk,h'.ok4 hm];rfl
theorem rmul_of {a b:Rt} {k m:Nat} (h:Sz a k) (h':Sz b m) (hk:k≤400000) (hm:m≤400000):RMul_s (a,b)=some (rmul a b):=bifT (ok2 h h' hk hm)
theorem radd_of {a b:Rt} {k m:Nat} (h:Sz a k) (h':Sz b m) (hk:k≤400000) (hm:m≤400000):RAdd_s (a,b)=some (radd a b):=bifT (ok2 h h' hk hm)
theorem rsub_of {a b:Rt} {k m:Nat} (h:Sz a k) (h':Sz b m) (hk:k≤400000) (hm:m≤400000):RSub_s (a,b)=some (rsub a b):=bifT (ok2 h h' hk hm)
theorem rcmp_of {a b:Rt} {k m:Nat} (h:Sz a k) (h':Sz b m) (hk:k≤400000) (hm:m≤400000):RCmp_s (a,b)=some (rcmp a b):=bifT (ok2 h h' hk hm)
theorem has_q {nz:Int→Int} {a:Fm} {R:Int} {k:Nat} (hk:0<k):decide (rcmp (rabs (rsub (mkQ (smN nz a) Q8) (mkQ R (Q8*k)))) (valR a.2.2.2.toNat)≤0)=decide (((smN nz a*k-R).natAbs:Int)≤8*fv a.2.2.2.toNat*k):=by
 have h8:=Q8_pos
 have hq:=QD_pos
 have hk8:0<Q8*k:=Nat.mul_pos h8 hk
 have e1:rsub (mkQ (smN nz a) Q8) (mkQ R (Q8*k))=mkQ (smN nz a*k-R) (Q8*k):=by
  have:mkQ (smN nz a) Q8=mkQ (smN nz a*k) (Q8*k):=(mk_scale _ _ hk).symm
  rw [this,q_sub _ _ hk8]
 rw [e1,rabs_mk _ hk8,valR_mk,rcmp_mk _ _ hk8 hq,cmpQ_le]
 generalize (smN nz a*k-R).natAbs=d
 have e2:fv a.2.2.2.toNat*((Q8*k:Nat):Int)=8*fv a.2.2.2.toNat*k*(QD:Int):=by
  unfold Q8
  rw [Int.natCast_mul,Int.natCast_mul]
  grind
 rw [e2]
 by_cases h:(d:Int)≤8*fv a.2.2.2.toNat*k
 · rw [decide_eq_true h,decide_eq_true (Int.mul_le_mul_of_nonneg_right h (by omega))]
 · rw [decide_eq_false h,decide_eq_false fun h'=>h (Int.le_of_mul_le_mul_right h' (by omega))]
theorem lo_q {lo R:Int} {k:Nat} (hk:0<k):decide (rcmp (valR lo.toNat) (mkQ R (Q8*k))≤0)=decide (fv lo.toNat*(8*k)≤R):=by
 have h8:=Q8_pos
 have hq:=QD_pos
 rw [valR_mk,rcmp_mk _ _ hq (Nat.mul_pos h8 hk),cmpQ_le]
 have e2:fv lo.toNat*((Q8*k:Nat):Int)=fv lo.toNat*(8*k)*(QD:Int):=by
  unfold Q8
  rw [Int.natCast_mul,Int.natCast_mul]
  grind
 rw [e2]
 by_cases h:fv lo.toNat*(8*k)≤R
 · rw [decide_eq_true h,decide_eq_true (Int.mul_le_mul_of_nonneg_right h (by omega))]
 · rw [decide_eq_false h,decide_eq_false fun h'=>h (Int.le_of_mul_le_mul_right h' (by omega))]
theorem hi_q {hi R:Int} {k:Nat} (hk:0<k):decide (rcmp (mkQ R (Q8*k)) (valR hi.toNat)≤0)=decide (R≤fv hi.toNat*(8*k)):=by
 have h8:=Q8_pos
 have hq:=QD_pos
 rw [valR_mk,rcmp_mk _ _ (Nat.mul_pos h8 hk) hq,cmpQ_le]
 have e2:fv hi.toNat*((Q8*k:Nat):Int)=fv hi.toNat*(8*k)*(QD:Int):=by
  unfold Q8
  rw [Int.natCast_mul,Int.natCast_mul]
  grind
 rw [e2]
 by_cases h:R≤fv hi.toNat*(8*k)
 · rw [decide_eq_true h,decide_eq_true (Int.mul_le_mul_of_nonneg_right h (by omega))]
 · rw [decide_eq_false h,decide_eq_false fun h'=>h (Int.le_of_mul_le_mul_right h' (by omega))]
theorem ln_lt {nz:Int→Int} (hz:Nz8 nz):∀ l:List Tm,(lnS nz l).natAbs≤8*l.length*2^BX
 | []=>Nat.zero_le _
 | t::l=>by
  have ih:=ln_lt hz l
  have k:=natAbs_mul_le (d:=fv t.c.toNat) (Int.le_refl _) (hz t.id).1 (hz t.id).2
  have h:=fv_abs t.c.toNat
  have e:8*(t::l).length*2^BX=8*2^BX+8*l.length*2^BX:=by rw [List.length_cons,Nat.mul_add,Nat.add_mul];omega
  rw [e]
  show (fv t.c.toNat*nz t.id+lnS nz l).natAbs≤_
  generalize 8*l.length*2^BX=u at *
  omega
theorem sm_lt {nz:Int→Int} (hz:Nz8 nz) {a:Fm} (hl:a.2.2.1.length≤1000):(smN nz a).natAbs<16384*2^BX:=by
 have h1:=ln_lt hz a.2.2.1
 have h2:=fv_abs a.2.1.toNat
 have h3:8*a.2.2.1.length*2^BX≤8000*2^BX:=Nat.mul_le_mul_right _ (by omega)
 unfold smN
 omega
end
end Su
end
section
namespace Su
open Go Fly
set_option linter.unusedVariables false
noncomputable section
def Runs {S R:Type} (K:Nat) (F:S→Option (S ⊕ R)) (s:S) (r:R):Prop:=∀ m,K≤m→itP m F s=some r
theorem Runs.next {S R:Type} {K:Nat} {F:S→Option (S ⊕ R)} {s s':S} {r:R} (h:F s=some (.inl s')) (hn:Runs K F s' r):Runs (K+1) F s r:=fun m hm=>by
 obtain ⟨j,rfl⟩:∃ j,m=j+1:=⟨m-1,by omega⟩
 rw [itP_s,h]
 exact hn j (by omega)
theorem Runs.stop {S R:Type} {K:Nat} {F:S→Option (S ⊕ R)} {s:S} {r:R} (h:F s=some (.inr r)):Runs (K+1) F s r:=fun m hm=>by
 obtain ⟨j,rfl⟩:∃ j,m=j+1:=⟨m-1,by omega⟩
 rw [itP_s,h];rfl
theorem Runs.up {S R:Type} {K K':Nat} {F:S→Option (S ⊕ R)} {s:S} {r:R} (h:Runs K F s r) (hk:K≤K'):Runs K' F s r:=fun m hm=>h m (by omega)
theorem ixl {α:Type} {l:List α} {i:Nat} (h:i<l.length):idx l (i:Int)=some l[i]:=by
 rw [idx_nat,List.getElem?_eq_getElem h]
theorem w1 {i n:Nat} (h:i<n) (hn:n≤maxLen):IntKind.i64.wrap ((i:Int)+1)=((i+1:Nat):Int):=by
 rw [maxLen_eq] at hn
 rw [w64 (by omega) (by omega)];rfl
theorem ltN (i n:Nat):decide ((i:Int)<(n:Int))=decide (i<n):=by
 by_cases h:i<n
 · rw [decide_eq_true h,decide_eq_true (by omega)]
 · rw [decide_eq_false h,decide_eq_false (by omega)]
end
end Su
end
section
namespace Su
open Go Fly
set_option linter.unusedVariables false
noncomputable section
def rDiv  (a:(Bool×((List Int)×(List Int)))) (b:(Bool×((List Int)×(List Int)))):Option ((Bool×((List Int)×(List Int)))×Int) :=
 ((Su.RLow_s b)).bind fun x0 =>
 ((Su.Len x0.2.1)).bind fun x1 =>
 (bif (decide ((x1=0))) then
 some ((false,([],[])),(30:Int))
 else
  ((Su.RMul_s (a,(x0.1,(x0.2.2,x0.2.1))))).bind fun x2 =>
  some (x2,(0:Int)))
def swR (b:Rt):Rt:=((rlow b).1,((rlow b).2.2,(rlow b).2.1))
def rdiv (a b:Rt):Rt:=rmul a (swR b)
def rDiv_s (p:Rt×Rt):Option (Rt×Int):=bif (ok4 p.1&&ok4 p.2)&&!decide (nu (rlow p.2)=0) then some (rdiv p.1 p.2,0) else none
theorem rDiv_ok (p:Rt×Rt) (y:Rt×Int) (hg:(dc cRt (d1 cRt)).good p) (h:rDiv_s p=some y):rDiv p.1 p.2=some y:=by
 obtain ⟨a,b⟩:=p
 obtain ⟨h1,h⟩:=bif_some h
 have:=soi h;subst this
 rw [Bool.and_eq_true,Bool.and_eq_true,Bool.not_eq_true',decide_eq_false_iff_not] at h1
 obtain ⟨⟨h1,h2⟩,h3⟩:=h1
 have h3:valN (rlow b).2.1≠0:=h3
 obtain ⟨hl,ht⟩:RLow_s b=some (rlow b)∧Tidy (rlow b):=RLow_of hg.2 h2
 have hb:blen (valN (rlow b).2.1)≤32*400000:=by
  refine blen_le.2 ?_
  have hn:=valN_lt _ ht.wn
  have hl:=ht.ln
  rw [pow32] at hn
  generalize (400000:Nat)=m at *
  exact Nat.lt_of_lt_of_le hn (Nat.pow_le_pow_right (by omega) (Nat.mul_le_mul_left _ hl))
 show rDiv a b=some (rdiv a b,0)
 unfold rDiv
 refine obB hl (obB (Len_eq' _ (by omega)) ?_)
 have hz:blen (valN (rlow b).2.1)≠0:=fun e=>h3 (by
  have:=(blen_le (n:=valN (rlow b).2.1) (k:=0)).1 (by omega)
  omega)
 refine (bifF (decide_eq_false (by omega))).trans ?_
 refine obB (x:=rdiv a b) (show RMul_s (a,swR b)=_ from bifT ?_) rfl
 show (ok4 a&&ok4 (swR b))=true
 have h1:ok4 a=true:=h1
 rw [h1]
 unfold ok4 swR
 rw [Nat.ble_eq_true_of_le ht.ln,Nat.ble_eq_true_of_le ht.ld];rfl
end
end Su
end
section
namespace Su
open Go Fly
set_option linter.unusedVariables false
noncomputable section
def noise  (l:(List Int)) (id:Int):Option (Bool×((List Int)×(List Int))) :=
 (bif (decide (((((List.length l):Nat):Int)=0))) then
 some (Su.lowR false 0 1)
 else
  (bif (decide ((id<0))) then
  some (Su.lowR false 0 1)
 else
  (bif (decide (((((List.length l):Nat):Int)=0))) then
  none
 else
  ((Su.idx l (Int.tmod id (((List.length l):Nat):Int)))).bind fun x0 =>
  ((Su.rDiv_s ((Su.lowR (decide (((min (max x0 (-8)) 8)<0))) (Int.natAbs (min (max x0 (-8)) 8)) 1),(Su.lowR false 8 1)))).bind fun x1 =>
  some x1.1)))
def noise_s (p:List Int×Int):Option Rt:=some (mkQ (nzF p.1 p.2) 8)
theorem low01:lowR false 0 1=mkQ 0 8:=by
 show mkQ 0 1=mkQ 0 8
 have:=mk_scale 0 1 (k:=8) (by omega)
 rw [← this];rfl
theorem mk81:mkQ 8 1=(false,([8],[1])):=by unfold mkQ;rw [lowR_eq];rfl
theorem mk18:mkQ 1 8=(false,([1],[8])):=by unfold mkQ;rw [lowR_eq];rfl
theorem div8 {k:Int} (h1 : -8≤k) (h2:k≤8):rDiv_s (mkQ k 1,mkQ 8 1)=some (mkQ k 8,0):=by
 have hs:Sz (mkQ k 1) 1:=mk_sz (by rw [Nat.pow_one];omega) (by rw [Nat.pow_one];omega) (by omega)
 have h8:Sz (mkQ 8 1) 1:=mk_sz (by rw [Nat.pow_one];decide) (by rw [Nat.pow_one];omega) (by omega)
 have hl:rlow (mkQ 8 1)=mkQ 8 1:=rlow_mk 8 (by omega)
 have hn:nu (rlow (mkQ 8 1))≠0:=by rw [hl,mk81];show valN [8]≠0;decide
 unfold rDiv_s
 simp only []
 rw [hs.ok4 (by omega),h8.ok4 (by omega),decide_eq_false hn]
 refine congrArg (fun z=>some (z,(0:Int))) ?_
 show rmul (mkQ k 1) (swR (mkQ 8 1))=mkQ k 8
 have:swR (mkQ 8 1)=mkQ 1 8:=by unfold swR;rw [hl,mk81,mk18]
 rw [this,rmul_mk k 1 (by omega) (by omega),Int.mul_one]
theorem noise_ok (p:List Int×Int) (y:Rt) (hg:(dc (cQ 3 1) (d1 (cI .i64))).good p) (h:noise_s p=some y):noise p.1 p.2=some y:=by
 obtain ⟨l,id⟩:=p
 have:=soi h;subst this
 show noise l id=some (mkQ (nzF l id) 8)
 unfold noise nzF
 have e0:decide (((l.length:Nat):Int)=0)=Nat.beq l.length 0:=by rw [show (0:Int)=((0:Nat):Int) from rfl,nat_eq,beq_dec]
 rw [e0]
 cases hl:Nat.beq l.length 0 with
 | true=>rw [low01];rfl
 | false =>
  by_cases hi:id<0
  · rw [decide_eq_true hi,low01];rfl
  · rw [decide_eq_false hi]
    simp only [cond_false,Bool.or_self]
    have hpos:0<l.length:=Nat.pos_of_ne_zero fun e=>by rw [e] at hl;cases hl
    obtain ⟨n,rfl⟩:=Int.eq_ofNat_of_zero_le (show 0≤id by omega)
    have e1:Int.tmod (n:Int) ((l.length:Nat):Int)=((n % l.length:Nat):Int):=rfl
    have hlt:=Nat.mod_lt n hpos
    rw [e1]
    refine obB (ixl hlt) ?_
    rw [Int.toNat_natCast,List.getElem?_eq_getElem hlt]
    exact obB (div8 (k:=min (max l[n % l.length] (-8)) 8) (by omega) (by omega)) rfl
end
end Su
end
