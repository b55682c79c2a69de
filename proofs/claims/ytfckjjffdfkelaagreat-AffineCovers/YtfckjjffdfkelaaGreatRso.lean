/-
  Bits and rounding, in plain Lean. No condition.
-/
import Derived.Test.YtfckjjffdfkelaaGreatND27
import Derived.Test.YtfckjjffdfkelaaGreatRay
import Derived.Test.YtfckjjffdfkelaaGreatNC19
import Derived.Test.YtfckjjffdfkelaaGreatSuSd
set_option maxRecDepth 10000
section
namespace Su
open Go Fly
set_option linter.unusedVariables false
noncomputable section
def swT (L:List Tm) (j:Nat) (h:j+1<L.length):List Tm:=(L.set (j+1) (L[j]'(by omega))).set j (L[j+1]'h)
structure Mix (N:Nat) (L L':List Tm):Prop where
 len:L'.length=L.length
 mix:(L'.take N).Perm (L.take N)
theorem Mix.refl (N:Nat) (L:List Tm):Mix N L L:=⟨rfl,List.Perm.refl _⟩
theorem Mix.trans {N:Nat} {L M K:List Tm} (h:Mix N L M) (h':Mix N M K):Mix N L K:=⟨h'.len.trans h.len,h'.mix.trans h.mix⟩
theorem qzb {N:Nat} {L:List Tm} {j:Nat} (h:j+1<L.length) (hN:j+1<N):Mix N L (swT L j h):=by
 refine ⟨by simp [swT],?_⟩
 unfold swT
 rw [List.take_set,List.take_set]
 have l1:j+1<(L.take N).length:=by rw [List.length_take];omega
 have e1:L[j]=(L.take N)[j]'(by omega):=by rw [List.getElem_take]
 have e2:L[j+1]=(L.take N)[j+1]'l1:=by rw [List.getElem_take]
 rw [e1,e2]
 exact List.set_set_perm l1 (by omega)
theorem qDI {σ:Type} {F:σ→Option (σ ⊕ σ)} {mk:Nat→List Tm→σ} {M N:Nat}
 (h0:∀ L:List Tm,L.length=M→F (mk 0 L)=some (.inr (mk 0 L)))
 (hs:∀ (j:Nat) (L:List Tm) (h:j+1<L.length),L.length=M→j+1<N→F (mk (j+1) L)=some (.inl (mk j (swT L j h)))∨F (mk (j+1) L)=some (.inr (mk (j+1) L))) (hN:N≤M) :
 ∀ (j:Nat) (L:List Tm),L.length=M→j<N→∃ j' L',Mix N L L'∧YF (j+1) F (mk j L) (mk j' L'):=by
 intro j
 induction j with
 | zero=>intro L hL hj;exact ⟨0,L,Mix.refl _ _,YF.stop (h0 L hL)⟩
 | succ j ih =>
  intro L hL hj
  have hj':j+1<L.length:=by omega
  rcases hs j L hj' hL hj with h | h
  · have hm:=qzb (N:=N) hj' hj
    obtain ⟨j',L',h1,h2⟩:=ih (swT L j hj') (hm.len.trans hL) (by omega)
    exact ⟨j',L',hm.trans h1,YF.next h h2⟩
  · exact ⟨j+1,L,Mix.refl _ _,(YF.stop (K:=j+1) h)⟩
theorem qpi {σ τ:Type} {F:σ→Option (σ ⊕ σ)} {mk:Nat→Nat→List Tm→σ} {G:Nat→τ→Option (τ ⊕ τ)} {mk2:Nat→List Tm→τ} {M N:Nat}
 (h0:∀ (i:Nat) (L:List Tm),L.length=M→F (mk i 0 L)=some (.inr (mk i 0 L)))
 (hs:∀ (i j:Nat) (L:List Tm) (h:j+1<L.length),L.length=M→j+1<N→F (mk i (j+1) L)=some (.inl (mk i j (swT L j h)))∨F (mk i (j+1) L)=some (.inr (mk i (j+1) L))) (hN:N≤M)
 (hG:∀ (fu i j':Nat) (L L':List Tm),i<N→L.length=M→L'.length=M→itP fu F (mk i i L)=some (mk i j' L')→G fu (mk2 i L)=some (.inl (mk2 (i+1) L')))
 (hE:∀ (fu i:Nat) (L:List Tm),N≤i→L.length=M→G fu (mk2 i L)=some (.inr (mk2 i L))) :
 ∀ (d i:Nat) (L:List Tm),L.length=M→N≤i+d→∃ i' L',Mix N L L'∧∀ fu m:Nat,N+1≤fu→d+1≤m→itP m (G fu) (mk2 i L)=some (mk2 i' L'):=by
 intro d
 induction d with
 | zero =>
  intro i L hL hi
  refine ⟨i,L,Mix.refl _ _,fun fu m h1 h2=>?_⟩
  exact (YF.stop (K:=0) (hE fu i L (by omega) hL)) m h2
 | succ d ih =>
  intro i L hL hi
  by_cases hiN:N≤i
  · refine ⟨i,L,Mix.refl _ _,fun fu m h1 h2=>?_⟩
    exact (YF.stop (K:=0) (hE fu i L hiN hL)) m (by omega)
  · obtain ⟨j',L1,a1,a2⟩:=qDI (h0 i) (hs i) hN i L hL (by omega)
    have hL1:L1.length=M:=a1.len.trans hL
    obtain ⟨i',L',b1,b2⟩:=ih (i+1) L1 hL1 (by omega)
    refine ⟨i',L',a1.trans b1,fun fu m h1 h2=>?_⟩
    obtain ⟨m',rfl⟩:∃ m',m=m'+1:=⟨m-1,by omega⟩
    rw [qA,hG fu i j' L L1 (by omega) hL hL1 (a2 fu (by omega))]
    exact b2 fu m' h1 (by omega)
theorem qpj:∀ {l:List Tm} {lo:Int},Qd lo l=true→∀ t∈l,lo<t.id
 | [],_,_,t,ht=>by cases ht
 | a::l,lo,h,t,ht=>by
  unfold Qd at h
  simp only [Bool.and_eq_true,Bool.not_eq_true',decide_eq_true_eq] at h
  rcases List.mem_cons.1 ht with rfl | ht
  · omega
  · have:=qpj h.2.2.2 t ht
    omega
theorem qgk:∀ {l:List Tm} {lo:Int},Qd lo l=true→l.Nodup
 | [],_,_=>List.nodup_nil
 | a::l,lo,h=>by
  unfold Qd at h
  simp only [Bool.and_eq_true,Bool.not_eq_true',decide_eq_true_eq] at h
  exact List.nodup_cons.2 ⟨fun hm=>by have:=qpj h.2.2.2 a hm;omega,qgk h.2.2.2⟩
theorem qpk {a:Fm} (h:okF a=true):Qd (-1) a.2.2.1=true:=by
 unfold okF at h
 simp only [Bool.not_eq_true',Bool.or_eq_false_iff,Bool.not_eq_false'] at h
 obtain ⟨h1,h2⟩:=h
 rw [qeX,h1,cond_false] at h2
 simp only [Bool.and_eq_true] at h2
 exact h2.1
def inK (l:List Tm) (t:Tm):Bool:=l.any fun u=>decide (t.id=u.id)&&decide (t.c=u.c)
theorem qjx {l:List Tm} {t:Tm}:inK l t=true↔t∈l:=by
 unfold inK
 rw [List.any_eq_true]
 constructor
 · rintro ⟨u,hu,h⟩
   simp only [Bool.and_eq_true,decide_eq_true_eq] at h
   obtain ⟨i,c⟩:=t
   obtain ⟨i',c'⟩:=u
   obtain ⟨h1,h2⟩:=h
   have h1:i=i':=h1
   have h2:c=c':=h2
   subst h1 h2;exact hu
 · intro h;exact ⟨t,h,by simp⟩
theorem kept {A l r:List Tm} (hn:A.Nodup) (hp:(l++r).Perm A):l.Perm (A.filter (inK l)):=by
 have hd:(l++r).Nodup:=hp.nodup_iff.2 hn
 have h1:=hp.filter (inK l)
 rw [List.filter_append] at h1
 have h2:l.filter (inK l)=l:=List.filter_eq_self.2 fun t ht=>qjx.2 ht
 have h3:r.filter (inK l)=[]:=List.filter_eq_nil_iff.2 fun t ht h=>(List.nodup_append.1 hd).2.2 t (qjx.1 h) t ht rfl
 rw [h2,h3,List.append_nil] at h1
 exact h1
theorem qDJ {A L1 L2:List Tm} {n:Nat} (hn:A.Nodup) (h1:Mix A.length A L1) (h2:Mix n L1 L2):(L2.take n).Perm (A.filter (inK (L2.take n))):=by
 refine kept (r:=L1.drop n) hn ?_
 have p1:L1.Perm A:=by
  have:=h1.mix
  rw [List.take_length,List.take_of_length_le (by rw [h1.len];exact Nat.le_refl _)] at this
  exact this
 refine List.Perm.trans (h2.mix.append_right _) ?_
 rw [List.take_append_drop];exact p1
end
end Su
end
section
namespace Su
open Go Fly
set_option linter.unusedVariables false
noncomputable section
theorem qBr {σ:Type} {F:σ→Option (σ ⊕ σ)} {mk:List Tm→List Tm→Int→List Tm→σ} {f:Int→Int→Int→Int×Int} {B:Nat}
 (h0:∀ e A,F (mk [] [] e A)=some (.inr (mk [] [] e A)))
 (h1:∀ x l e A,A.length+1≤B→F (mk (x::l) [] e A)=some (.inl (mk l [] (f e x.c 0).2 (A++[⟨x.id,(f e x.c 0).1⟩]))))
 (h2:∀ y m e A,A.length+1≤B→F (mk [] (y::m) e A)=some (.inl (mk [] m (f e 0 y.c).2 (A++[⟨y.id,(f e 0 y.c).1⟩]))))
 (h3:∀ x l y m e A,A.length+1≤B→decide (x.id<y.id)=true→F (mk (x::l) (y::m) e A)=some (.inl (mk l (y::m) (f e x.c 0).2 (A++[⟨x.id,(f e x.c 0).1⟩]))))
 (h4:∀ x l y m e A,A.length+1≤B→decide (x.id<y.id)=false→decide (y.id<x.id)=true→F (mk (x::l) (y::m) e A)=some (.inl (mk (x::l) m (f e 0 y.c).2 (A++[⟨y.id,(f e 0 y.c).1⟩]))))
 (h5:∀ x l y m e A,A.length+1≤B→decide (x.id<y.id)=false→decide (y.id<x.id)=false→F (mk (x::l) (y::m) e A)=some (.inl (mk l m (f e x.c y.c).2 (A++[⟨x.id,(f e x.c y.c).1⟩])))) :
 ∀ (n:Nat) (l m:List Tm) (e:Int) (A:List Tm),l.length+m.length≤n→A.length+n≤B→∃ fu,itP fu F (mk l m e A)=some (mk [] [] (qh f n l m e).2 (A++(qh f n l m e).1)):=by
 intro n
 induction n with
 | zero =>
  intro l m e A h hA
  have e1:l=[]:=List.length_eq_zero_iff.1 (by omega)
  have e2:m=[]:=List.length_eq_zero_iff.1 (by omega)
  subst e1 e2
  refine ⟨1,?_⟩
  rw [qA,h0]
  show _=some (mk [] [] e (A++[]))
  rw [List.append_nil];rfl
 | succ n ih =>
  intro l m e A h hA
  have go:∀ (l' m':List Tm) (id:Int) (r:Int×Int),l'.length+m'.length≤n→F (mk l m e A)=some (.inl (mk l' m' r.2 (A++[⟨id,r.1⟩])))→qh f (n+1) l m e=jI id r (qh f n l' m') →
   ∃ fu,itP fu F (mk l m e A)=some (mk [] [] (qh f (n+1) l m e).2 (A++(qh f (n+1) l m e).1)):=by
   intro l' m' id r hl' hstep hm
   obtain ⟨fu,q⟩:=ih l' m' r.2 (A++[⟨id,r.1⟩]) hl' (by simp;omega)
   refine ⟨fu+1,?_⟩
   rw [qA,hstep,hm]
   simp only [Option.bind_some,jI]
   rw [q]
   simp only [List.append_assoc,List.singleton_append]
  match l,m,h with
  | [],[],h =>
   refine ⟨1,?_⟩
   rw [qA,h0]
   show _=some (mk [] [] e (A++[]))
   rw [List.append_nil];rfl
  | x::l,[],h=>exact go l [] x.id (f e x.c 0) (by simp at h ⊢;omega) (h1 x l e A (by omega)) rfl
  | [],y::m,h=>exact go [] m y.id (f e 0 y.c) (by simp at h ⊢;omega) (h2 y m e A (by omega)) rfl
  | x::l,y::m,h =>
   simp only [List.length_cons] at h
   cases g1:decide (x.id<y.id) with
   | true=>exact go l (y::m) x.id (f e x.c 0) (by simp only [List.length_cons];omega) (h3 x l y m e A (by omega) g1) (by simp only [qh,g1,cond_true])
   | false =>
    cases g2:decide (y.id<x.id) with
    | true=>exact go (x::l) m y.id (f e 0 y.c) (by simp only [List.length_cons];omega) (h4 x l y m e A (by omega) g1 g2) (by simp only [qh,g1,g2,cond_true,cond_false])
    | false=>exact go l m x.id (f e x.c y.c) (by omega) (h5 x l y m e A (by omega) g1 g2) (by simp only [qh,g1,g2,cond_false])
end
end Su
end
section
namespace Su
open Go Fly
set_option linter.unusedVariables false
noncomputable section
abbrev qdz:=(Nat×(Int×(Int×(Int×(Int×((List T)×Unit))))))
def qe5:qdz→Option (qdz ⊕ qdz):=fun p4=>(bif (decide ((p4.2.1<p4.2.2.2.2.1))) then
 (bif ((true&&(decide ((0≤p4.2.2.2.2.1))))&&(decide ((p4.2.2.2.2.1<((p4.1:Nat):Int))))) then
 ((p4.2.2.2.2.2.1)[(0+(Int.toNat p4.2.2.2.2.1))]?).bind fun x5 =>
 (((T.cells x5))[0]?).bind fun x6 =>
 ((asI .i64 (.t x6))).bind fun x7 =>
 (((T.cells x5))[1]?).bind fun x8 =>
 ((asI .u64 (.t x8))).bind fun x9 =>
 (bif ((true&&(decide ((0≤(IntKind.wrap .i64 (p4.2.2.2.2.1-1))))))&&(decide (((IntKind.wrap .i64 (p4.2.2.2.2.1-1))<((p4.1:Nat):Int))))) then
 ((p4.2.2.2.2.2.1)[(0+(Int.toNat (IntKind.wrap .i64 (p4.2.2.2.2.1-1))))]?).bind fun x10 =>
 (((T.cells x10))[0]?).bind fun x11 =>
 ((asI .i64 (.t x11))).bind fun x12 =>
 (((T.cells x10))[1]?).bind fun x13 =>
 ((asI .u64 (.t x13))).bind fun x14 =>
 (bif (decide (((qgB (Int.toNat (((YK (Int.toNat x14)):Nat):Int)) (Int.toNat (((YK (Int.toNat x9)):Nat):Int)))<0))) then
 (bif ((true&&(decide ((0≤(IntKind.wrap .i64 (p4.2.2.2.2.1-1))))))&&(decide (((IntKind.wrap .i64 (p4.2.2.2.2.1-1))<((p4.1:Nat):Int))))) then
 ((p4.2.2.2.2.2.1)[(0+(Int.toNat (IntKind.wrap .i64 (p4.2.2.2.2.1-1))))]?).bind fun x15 =>
 (((T.cells x15))[0]?).bind fun x16 =>
 ((asI .i64 (.t x16))).bind fun x17 =>
 (((T.cells x15))[1]?).bind fun x18 =>
 ((asI .u64 (.t x18))).bind fun x19 =>
 (bif ((true&&(decide ((0≤p4.2.2.2.2.1))))&&(decide ((p4.2.2.2.2.1<((p4.1:Nat):Int))))) then
 ((p4.2.2.2.2.2.1)[(0+(Int.toNat p4.2.2.2.2.1))]?).bind fun x20 =>
 (((T.cells x20))[0]?).bind fun x21 =>
 ((asI .i64 (.t x21))).bind fun x22 =>
 (((T.cells x20))[1]?).bind fun x23 =>
 ((asI .u64 (.t x23))).bind fun x24 =>
 (bif ((true&&(decide ((0≤p4.2.2.2.2.1))))&&(decide ((p4.2.2.2.2.1<((p4.1:Nat):Int))))) then
 (bif ((true&&(decide ((0≤(IntKind.wrap .i64 (p4.2.2.2.2.1-1))))))&&(decide (((IntKind.wrap .i64 (p4.2.2.2.2.1-1))<((p4.1:Nat):Int))))) then
 ((p4.2.2.2.2.2.1)[(0+(Int.toNat p4.2.2.2.2.1))]?).bind fun x25 =>
 (((List.set p4.2.2.2.2.2.1 (0+(Int.toNat p4.2.2.2.2.1)) (T.agg [(T.s (.int .i64 x17)),(T.s (.int .u64 x19))])))[(0+(Int.toNat (IntKind.wrap .i64 (p4.2.2.2.2.1-1))))]?).bind fun x26 =>
 some (.inl (p4.1,(p4.2.1,(p4.2.2.1,(p4.2.2.2.1,((IntKind.wrap .i64 (p4.2.2.2.2.1-1)),((List.set (List.set p4.2.2.2.2.2.1 (0+(Int.toNat p4.2.2.2.2.1)) (T.agg [(T.s (.int .i64 x17)),(T.s (.int .u64 x19))])) (0+(Int.toNat (IntKind.wrap .i64 (p4.2.2.2.2.1-1)))) (T.agg [(T.s (.int .i64 x22)),(T.s (.int .u64 x24))])),())))))))
 else
  none)
 else
  none)
 else
  none)
 else
  none)
 else
  some (.inr (p4.1,(p4.2.1,(p4.2.2.1,(p4.2.2.2.1,(p4.2.2.2.2.1,(p4.2.2.2.2.2.1,()))))))))
 else
  none)
 else
  none)
 else
  some (.inr (p4.1,(p4.2.1,(p4.2.2.1,(p4.2.2.2.1,(p4.2.2.2.2.1,(p4.2.2.2.2.2.1,()))))))))
def qa7 (fu:Nat):(Nat×(Int×(Int×(Int×((List T)×Unit)))))→Option ((Nat×(Int×(Int×(Int×((List T)×Unit))))) ⊕ (Nat×(Int×(Int×(Int×((List T)×Unit)))))):=fun p3=>(bif (decide ((p3.2.2.2.1<p3.2.2.1))) then
 (itP fu (qe5) (p3.1,(p3.2.1,(p3.2.2.1,(p3.2.2.2.1,(p3.2.2.2.1,(p3.2.2.2.2.1,()))))))).bind fun x27 =>
 some (.inl (x27.1,(x27.2.1,(x27.2.2.1,((IntKind.wrap .i64 (x27.2.2.2.1+1)),(x27.2.2.2.2.2.1,()))))))
 else
  some (.inr (p3.1,(p3.2.1,(p3.2.2.1,(p3.2.2.2.1,(p3.2.2.2.2.1,())))))))
def qzc (fu:Nat):(Nat×(Int×(Int×(Int×(Int×((List T)×Unit))))))→Option ((Nat×(Int×(Int×(Int×(Int×((List T)×Unit)))))) ⊕ (Nat×(Int×(Int×(Int×(Int×((List T)×Unit))))))):=fun p2=>(bif (decide ((p2.2.2.2.2.1≤p2.2.1))) then
 (itP fu (qa7 fu) (p2.1,(p2.2.2.2.1,(p2.2.2.2.2.1,((IntKind.wrap .i64 (p2.2.2.2.1+1)),(p2.2.2.2.2.2.1,())))))).bind fun x28 =>
 some (.inl (p2.1,(p2.2.1,(p2.2.2.1,(p2.2.2.2.2.1,((IntKind.wrap .i64 (p2.2.2.2.2.1+p2.2.2.1)),(x28.2.2.2.2.1,())))))))
 else
  some (.inr (p2.1,(p2.2.1,(p2.2.2.1,(p2.2.2.2.1,(p2.2.2.2.2.1,(p2.2.2.2.2.2.1,()))))))))
def qzd:(Nat×(Int×(Int×(Int×(Int×((List T)×Unit))))))→Option ((Nat×(Int×(Int×(Int×(Int×((List T)×Unit)))))) ⊕ (Nat×(Int×(Int×(Int×(Int×((List T)×Unit))))))):=fun p57=>(bif (decide ((p57.2.2.2.2.1≤p57.2.1))) then
 none
 else
  some (.inr (p57.1,(p57.2.1,(p57.2.2.1,(p57.2.2.2.1,(p57.2.2.2.2.1,(p57.2.2.2.2.2.1,()))))))))
def qze (fu:Nat):(Nat×(Int×(Int×(Int×(Int×((List T)×Unit))))))→Option ((Nat×(Int×(Int×(Int×(Int×((List T)×Unit)))))) ⊕ (Nat×(Int×(Int×(Int×(Int×((List T)×Unit))))))):=fun p56=>(bif (decide ((p56.2.2.1<p56.2.1))) then
 (itP fu (qzd) (p56.1,(p56.2.1,(p56.2.2.1,((0:Int),((IntKind.wrap .i64 (2*p56.2.2.1)),(p56.2.2.2.2.2.1,()))))))).bind fun x58 =>
 (bif (decide (((IntKind.wrap .i64 (x58.2.2.2.1+x58.2.2.1))<x58.2.1))) then
 none
 else
  some (.inl (x58.1,(x58.2.1,((IntKind.wrap .i64 (x58.2.2.1*2)),(x58.2.2.2.1,(x58.2.2.2.2.1,(x58.2.2.2.2.2.1,()))))))))
 else
  some (.inr (p56.1,(p56.2.1,(p56.2.2.1,(p56.2.2.2.1,(p56.2.2.2.2.1,(p56.2.2.2.2.2.1,()))))))))
abbrev Jf:=(Nat×(Int×(Int×(Int×(Int×((List T)×Unit))))))
def YW :=
 fun (p5013:Jf) =>
 (bif ((true&&(decide ((0≤(IntKind.wrap .i64 (p5013.2.2.2.2.1-1))))))&&(decide (((IntKind.wrap .i64 (p5013.2.2.2.2.1-1))<((p5013.1:Nat):Int))))) then
 ((p5013.2.2.2.2.2.1)[(0+(Int.toNat (IntKind.wrap .i64 (p5013.2.2.2.2.1-1))))]?).bind fun x73 =>
 (((T.cells x73))[0]?).bind fun x74 =>
 ((asI .i64 (.t x74))).bind fun x75 =>
 (((T.cells x73))[1]?).bind fun x76 =>
 ((asI .u64 (.t x76))).bind fun x77 =>
 (bif ((true&&(decide ((0≤p5013.2.2.2.2.1))))&&(decide ((p5013.2.2.2.2.1<((p5013.1:Nat):Int))))) then
 ((p5013.2.2.2.2.2.1)[(0+(Int.toNat p5013.2.2.2.2.1))]?).bind fun x78 =>
 (((T.cells x78))[0]?).bind fun x79 =>
 ((asI .i64 (.t x79))).bind fun x80 =>
 (((T.cells x78))[1]?).bind fun x81 =>
 ((asI .u64 (.t x81))).bind fun x82 =>
 (bif ((true&&(decide ((0≤p5013.2.2.2.2.1))))&&(decide ((p5013.2.2.2.2.1<((p5013.1:Nat):Int))))) then
 (bif ((true&&(decide ((0≤(IntKind.wrap .i64 (p5013.2.2.2.2.1-1))))))&&(decide (((IntKind.wrap .i64 (p5013.2.2.2.2.1-1))<((p5013.1:Nat):Int))))) then
 ((p5013.2.2.2.2.2.1)[(0+(Int.toNat p5013.2.2.2.2.1))]?).bind fun x83 =>
 (((List.set p5013.2.2.2.2.2.1 (0+(Int.toNat p5013.2.2.2.2.1)) (T.agg [(T.s (.int .i64 x75)),(T.s (.int .u64 x77))])))[(0+(Int.toNat (IntKind.wrap .i64 (p5013.2.2.2.2.1-1))))]?).bind fun x84 =>
 some (.inl (p5013.1,(p5013.2.1,(p5013.2.2.1,(p5013.2.2.2.1,((IntKind.wrap .i64 (p5013.2.2.2.2.1-1)),((List.set (List.set p5013.2.2.2.2.2.1 (0+(Int.toNat p5013.2.2.2.2.1)) (T.agg [(T.s (.int .i64 x75)),(T.s (.int .u64 x77))])) (0+(Int.toNat (IntKind.wrap .i64 (p5013.2.2.2.2.1-1)))) (T.agg [(T.s (.int .i64 x80)),(T.s (.int .u64 x82))])),())))))))
 else
  none)
 else
  none)
 else
  none)
 else
  none:Option (Jf ⊕ Jf))
def qcR:Jf→Option (Jf ⊕ Jf):=fun p62=>(bif (decide ((p62.2.1<p62.2.2.2.2.1))) then
 (bif ((true&&(decide ((0≤p62.2.2.2.2.1))))&&(decide ((p62.2.2.2.2.1<((p62.1:Nat):Int))))) then
 ((p62.2.2.2.2.2.1)[(0+(Int.toNat p62.2.2.2.2.1))]?).bind fun x63 =>
 (((T.cells x63))[0]?).bind fun x64 =>
 ((asI .i64 (.t x64))).bind fun x65 =>
 (((T.cells x63))[1]?).bind fun x66 =>
 ((asI .u64 (.t x66))).bind fun x67 =>
 (bif ((true&&(decide ((0≤(IntKind.wrap .i64 (p62.2.2.2.2.1-1))))))&&(decide (((IntKind.wrap .i64 (p62.2.2.2.2.1-1))<((p62.1:Nat):Int))))) then
 ((p62.2.2.2.2.2.1)[(0+(Int.toNat (IntKind.wrap .i64 (p62.2.2.2.2.1-1))))]?).bind fun x68 =>
 (((T.cells x68))[0]?).bind fun x69 =>
 ((asI .i64 (.t x69))).bind fun x70 =>
 (((T.cells x68))[1]?).bind fun x71 =>
 ((asI .u64 (.t x71))).bind fun x72 =>
 (bif (!(decide ((x65=x65)))) then
 (bif (!(decide ((x70=x70)))) then
 some (.inr (p62.1,(p62.2.1,(p62.2.2.1,(p62.2.2.2.1,(p62.2.2.2.2.1,(p62.2.2.2.2.2.1,())))))))
 else
  (YW p62))
 else
  (bif (!(decide ((x70=x70)))) then
  some (.inr (p62.1,(p62.2.1,(p62.2.2.1,(p62.2.2.2.1,(p62.2.2.2.2.1,(p62.2.2.2.2.2.1,())))))))
 else
  (bif (decide ((x65<x70))) then
  (YW p62)
 else
  (bif (decide ((x70<x65))) then
  some (.inr (p62.1,(p62.2.1,(p62.2.2.1,(p62.2.2.2.1,(p62.2.2.2.2.1,(p62.2.2.2.2.2.1,())))))))
 else
  some (.inr (p62.1,(p62.2.1,(p62.2.2.1,(p62.2.2.2.1,(p62.2.2.2.2.1,(p62.2.2.2.2.2.1,())))))))))))
 else
  none)
 else
  none)
 else
  some (.inr (p62.1,(p62.2.1,(p62.2.2.1,(p62.2.2.2.1,(p62.2.2.2.2.1,(p62.2.2.2.2.2.1,()))))))))
def qcS (fu:Nat):(Nat×(Int×(Int×(Int×((List T)×Unit)))))→Option ((Nat×(Int×(Int×(Int×((List T)×Unit))))) ⊕ (Nat×(Int×(Int×(Int×((List T)×Unit)))))):=fun p61=>(bif (decide ((p61.2.2.2.1<p61.2.2.1))) then
 (itP fu (qcR) (p61.1,(p61.2.1,(p61.2.2.1,(p61.2.2.2.1,(p61.2.2.2.1,(p61.2.2.2.2.1,()))))))).bind fun x97 =>
 some (.inl (x97.1,(x97.2.1,(x97.2.2.1,((IntKind.wrap .i64 (x97.2.2.2.1+1)),(x97.2.2.2.2.2.1,()))))))
 else
  some (.inr (p61.1,(p61.2.1,(p61.2.2.1,(p61.2.2.2.1,(p61.2.2.2.2.1,())))))))
abbrev qbO:=((List T)×(Int×(Int×(Int×(Int×Unit)))))
def qaH (p102:((List T)×(Int×((List Tm)×(Int×(Int×(Bool×(Int×((List Tm)×(Int×((List T)×(Bool×(Int×(Nat×(Nat×(Int×Unit)))))))))))))))) (x103:Tm):qbO→Option (qbO ⊕ (Lp qbO (((List T)×(Int×((List Tm)×(Int×(Int×(Bool×(Int×((List Tm)×(Int×((List T)×(Bool×(Int×(Nat×(Nat×(Int×Unit))))))))))))))) ⊕ ((List T)×(Int×((List Tm)×(Int×(Int×(Bool×(Int×((List Tm)×(Int×((List T)×(Bool×(Int×(Nat×(Nat×(Int×Unit)))))))))))))))))):=fun p104=>(bif (decide ((p104.2.2.1<p104.2.1))) then
 ((idx p104.1 p104.2.2.1)).bind fun x105 =>
 (((T.cells x105))[0]?).bind fun x106 =>
 ((asI .i64 (.t x106))).bind fun x107 =>
 (((T.cells x105))[1]?).bind fun x108 =>
 ((asI .u64 (.t x108))).bind fun x109 =>
 (bif ((decide ((p104.2.2.2.1=x107)))&&((decide ((p104.2.2.2.2.1=x109)))&&true)) then
 ((bif (!(decide ((0≤p104.2.2.1)))) then
 some (.inl (p102.1,((((upS 0 [p102.2.1,(((YK (Int.toNat (Tm.c x103))):Nat):Int)]):Nat):Int),(p102.2.2.1,(p102.2.2.2.1,((IntKind.wrap .i64 (p102.2.2.2.2.1+1)),(p102.2.2.2.2.2.1,(p102.2.2.2.2.2.2.1,(p102.2.2.2.2.2.2.2.1,(p102.2.2.2.2.2.2.2.2.1,(p102.2.2.2.2.2.2.2.2.2.1,(p102.2.2.2.2.2.2.2.2.2.2.1,(p102.2.2.2.2.2.2.2.2.2.2.2.1,(p102.2.2.2.2.2.2.2.2.2.2.2.2.1,(p102.2.2.2.2.2.2.2.2.2.2.2.2.2.1,(p102.2.2.2.2.2.2.2.2.2.2.2.2.2.2.1,()))))))))))))))))
 else
  some (.inl (p102.1,(p102.2.1,(p102.2.2.1,(p102.2.2.2.1,((IntKind.wrap .i64 (p102.2.2.2.2.1+1)),(p102.2.2.2.2.2.1,(p102.2.2.2.2.2.2.1,(p102.2.2.2.2.2.2.2.1,(p102.2.2.2.2.2.2.2.2.1,(p102.2.2.2.2.2.2.2.2.2.1,(p102.2.2.2.2.2.2.2.2.2.2.1,(p102.2.2.2.2.2.2.2.2.2.2.2.1,(p102.2.2.2.2.2.2.2.2.2.2.2.2.1,(p102.2.2.2.2.2.2.2.2.2.2.2.2.2.1,(p102.2.2.2.2.2.2.2.2.2.2.2.2.2.2.1,())))))))))))))))))).bind fun x110 =>
  some (.inr (.ret x110))
 else
  some (.inl (p104.1,(p104.2.1,((IntKind.wrap .i64 (p104.2.2.1+1)),(p104.2.2.2.1,(p104.2.2.2.2.1,())))))))
 else
  some (.inr (.exit 0 (p104.1,(p104.2.1,(p104.2.2.1,(p104.2.2.2.1,(p104.2.2.2.2.1,()))))))))
abbrev qbP:=((List T)×(Int×((List Tm)×(Int×(Int×(Bool×(Int×((List Tm)×(Int×((List T)×(Bool×(Int×(Nat×(Nat×(Int×Unit)))))))))))))))
def YG (fu:Nat):qbP→Option (qbP ⊕ qbP):=fun p102=>(bif (decide ((p102.2.2.2.2.1<p102.2.2.2.1))) then
 ((idx p102.2.2.1 p102.2.2.2.2.1)).bind fun x103 =>
 (itP fu (qaH p102 x103) (p102.1,((((List.length p102.1):Nat):Int),((0:Int),((Tm.id x103),((Tm.c x103),())))))).bind fun x111 =>
 (match x111 with
 | .exit i112 p113=>(bif (Nat.beq i112 0) then
  some (.inl (p102.1,((((upS 0 [p102.2.1,(((YK (Int.toNat (Tm.c x103))):Nat):Int)]):Nat):Int),(p102.2.2.1,(p102.2.2.2.1,((IntKind.wrap .i64 (p102.2.2.2.2.1+1)),(p102.2.2.2.2.2.1,(p102.2.2.2.2.2.2.1,(p102.2.2.2.2.2.2.2.1,(p102.2.2.2.2.2.2.2.2.1,(p102.2.2.2.2.2.2.2.2.2.1,(p102.2.2.2.2.2.2.2.2.2.2.1,(p102.2.2.2.2.2.2.2.2.2.2.2.1,(p102.2.2.2.2.2.2.2.2.2.2.2.2.1,(p102.2.2.2.2.2.2.2.2.2.2.2.2.2.1,(p102.2.2.2.2.2.2.2.2.2.2.2.2.2.2.1,()))))))))))))))))
 else
  none)
 | .ret o114=>some o114)
 else
  some (.inr (p102.1,(p102.2.1,(p102.2.2.1,(p102.2.2.2.1,(p102.2.2.2.2.1,(p102.2.2.2.2.2.1,(p102.2.2.2.2.2.2.1,(p102.2.2.2.2.2.2.2.1,(p102.2.2.2.2.2.2.2.2.1,(p102.2.2.2.2.2.2.2.2.2.1,(p102.2.2.2.2.2.2.2.2.2.2.1,(p102.2.2.2.2.2.2.2.2.2.2.2.1,(p102.2.2.2.2.2.2.2.2.2.2.2.2.1,(p102.2.2.2.2.2.2.2.2.2.2.2.2.2.1,(p102.2.2.2.2.2.2.2.2.2.2.2.2.2.2.1,())))))))))))))))))
abbrev qdA:=(Nat×(Int×(Int×(Int×(Bool×(Bool×((List T)×Unit)))))))
def qpl (fu:Nat) (a:Fm) (most:Int) (x1:(List Tm)):qdA→Option (qdA ⊕ (Lp qdA Fm)):=fun p60=>(bif (decide (((IntKind.wrap .i64 (p60.2.2.1-p60.2.1))≤12))) then
 (itP fu (qcS fu) (p60.1,(p60.2.1,(p60.2.2.1,((IntKind.wrap .i64 (p60.2.1+1)),(p60.2.2.2.2.2.2.1,())))))).bind fun x98 =>
 (((Su.sub x98.2.2.2.2.1 0 (List.length (List.map (vT) x1)))).bind fun x99 =>
 ((Su.sub x98.2.2.2.2.1 0 (Int.toNat (min (max most 0) (((List.length (List.map (vT) x1)):Nat):Int))))).bind fun x100 =>
 ((Su.sub x98.2.2.2.2.1 0 (Int.toNat (min (max most 0) (((List.length (List.map (vT) x1)):Nat):Int))))).bind fun x101 =>
 (itP fu (YG fu) (x100,(a.2.2.2,(a.2.2.1,((((List.length a.2.2.1):Nat):Int),((0:Int),(a.1,(a.2.1,(a.2.2.1,(a.2.2.2,([],(false,((0:Int),(0,(0,((0:Int),())))))))))))))))).bind fun x115 =>
 (((yt x115.1)).bind fun x116 =>
 (bif (Jv x116) then
 some x116
 else
  none)).bind fun x117 =>
  ((((((yt (List.map (vT) x117))).bind fun x118 =>
  some (x118,x115.2.1)).bind fun x119 =>
  some (x115.2.2.2.2.2.2.1,x119)).bind fun x120 =>
  some (false,x120)).bind fun x121 =>
  (bif (List.all x121.2.2.1 (fun z122=>(!(zI (Tm.c z122))))) then
  some (qH x121)
 else
  none)).bind fun x123 =>
  some x123).bind fun x124 =>
  some (.inr (.ret x124))
 else
  (bif (decide ((p60.2.2.2.1=0))) then
  none
 else
  (bif (!p60.2.2.2.2.1) then
  none
 else
  none)))
def qqR  (fu:Nat) (a:Fm) (most:Int):Option Fm :=
 (bif (List.any [a] (fun z0=>(z0.1||(!(yU z0))))) then
 some (true,((0:Int),([],(0:Int))))
 else
  ((bif (Jv a.2.2.1) then
  some a.2.2.1
 else
  none)).bind fun x1 =>
  (itP fu (qzc fu) ((List.length (List.map (vT) x1)),((((List.length (List.map (vT) x1)):Nat):Int),((20:Int),((0:Int),((20:Int),((List.map (vT) x1),()))))))).bind fun x29 =>
  (itP fu (qa7 fu) (x29.1,(x29.2.2.2.1,(x29.2.1,((IntKind.wrap .i64 (x29.2.2.2.1+1)),(x29.2.2.2.2.2.1,())))))).bind fun x55 =>
  (itP fu (qze fu) (x29.1,(x29.2.1,(x29.2.2.1,(x29.2.2.2.1,(x29.2.2.2.2.1,(x55.2.2.2.2.1,()))))))).bind fun x59 =>
  (bif (true&&((decide ((0≤(min (max most 0) (((List.length (List.map (vT) x1)):Nat):Int)))))&&((decide (((min (max most 0) (((List.length (List.map (vT) x1)):Nat):Int))≤(min (max most 0) (((List.length (List.map (vT) x1)):Nat):Int)))))&&(decide (((min (max most 0) (((List.length (List.map (vT) x1)):Nat):Int))≤(((List.length (List.map (vT) x1)):Nat):Int))))))) then
  (itP fu (qpl fu a most x1) ((Int.toNat (min (max most 0) (((List.length (List.map (vT) x1)):Nat):Int))),((0:Int),((((Int.toNat (min (max most 0) (((List.length (List.map (vT) x1)):Nat):Int))):Nat):Int),((((qn (Int.toNat (IntKind.wrap .u64 (((Int.toNat (min (max most 0) (((List.length (List.map (vT) x1)):Nat):Int))):Nat):Int)))):Nat):Int),(true,(true,(x59.2.2.2.2.2.1,())))))))).bind fun x125 =>
  (match x125 with
 | .exit i126 p127=>(bif (Nat.beq i126 0) then
  ((Su.sub p127.2.2.2.2.2.2.1 0 (List.length (List.map (vT) x1)))).bind fun x128 =>
  ((Su.sub p127.2.2.2.2.2.2.1 0 (Int.toNat (min (max most 0) (((List.length (List.map (vT) x1)):Nat):Int))))).bind fun x129 =>
  ((Su.sub p127.2.2.2.2.2.2.1 0 (Int.toNat (min (max most 0) (((List.length (List.map (vT) x1)):Nat):Int))))).bind fun x130 =>
  (itP fu (YG fu) (x129,(a.2.2.2,(a.2.2.1,((((List.length a.2.2.1):Nat):Int),((0:Int),(a.1,(a.2.1,(a.2.2.1,(a.2.2.2,([],(false,((0:Int),(0,(0,((0:Int),())))))))))))))))).bind fun x144 =>
  (((yt x144.1)).bind fun x145 =>
  (bif (Jv x145) then
  some x145
 else
  none)).bind fun x146 =>
  ((((((yt (List.map (vT) x146))).bind fun x147 =>
  some (x147,x144.2.1)).bind fun x148 =>
  some (x144.2.2.2.2.2.2.1,x148)).bind fun x149 =>
  some (false,x149)).bind fun x150 =>
  (bif (List.all x150.2.2.1 (fun z151=>(!(zI (Tm.c z151))))) then
  some (qH x150)
 else
  none)).bind fun x152 =>
  some x152
 else
  none)
 | .ret o153=>some o153)
 else
  none))
set_option linter.unusedSimpArgs false
theorem gT {L:List Tm} {j:Nat} (h:j<L.length):(L.map vT)[0+Int.toNat ((j:Nat):Int)]?=some (vT L[j]):=by
 rw [Nat.zero_add,Int.toNat_natCast,List.getElem?_map,List.getElem?_eq_getElem h];rfl
theorem cT0 (t:Tm):(T.cells (vT t))[0]?=some (T.s (.int .i64 t.id)):=rfl
theorem cT1 (t:Tm):(T.cells (vT t))[1]?=some (T.s (.int .u64 t.c)):=rfl
theorem aT0 (n:Int):asI .i64 (.t (T.s (.int .i64 n)))=some n:=by simp [asI]
theorem aT1 (n:Int):asI .u64 (.t (T.s (.int .u64 n)))=some n:=by simp [asI]
theorem wT {j M:Nat} (h:j+1<M) (hM:M≤549755813888):IntKind.i64.wrap (((j+1:Nat):Int)-1)=((j:Nat):Int):=by
 rw [show (((j+1:Nat):Int)-1)=((j:Nat):Int) by omega]
 exact Qw (by omega) (by omega)
theorem wU {j M:Nat} (h:j<M) (hM:M≤549755813888):IntKind.i64.wrap (((j:Nat):Int)+1)=((j+1:Nat):Int):=by
 rw [show (((j:Nat):Int)+1)=((j+1:Nat):Int) by omega]
 exact Qw (by omega) (by omega)
theorem sT {L:List Tm} {j:Nat} (h:j+1<L.length):List.set (List.set (L.map vT) (0+Int.toNat ((j+1:Nat):Int)) (T.agg [T.s (.int .i64 (L[j]'(by omega)).id),T.s (.int .u64 (L[j]'(by omega)).c)])) (0+Int.toNat ((j:Nat):Int)) (T.agg [T.s (.int .i64 (L[j+1]'h).id),T.s (.int .u64 (L[j+1]'h).c)])=(swT L j h).map vT:=by
 unfold swT
 rw [List.map_set,List.map_set]
 simp only [Nat.zero_add,Int.toNat_natCast];rfl
theorem sU {L:List Tm} {j:Nat} (h:j+1<L.length) (v:T):∃ z,(List.set (L.map vT) (0+Int.toNat ((j+1:Nat):Int)) v)[0+Int.toNat ((j:Nat):Int)]?=some z :=
 ⟨_,List.getElem?_eq_getElem (by simp only [Nat.zero_add,Int.toNat_natCast,List.length_set,List.length_map];omega)⟩
theorem qDK (L:List Tm) (hM:L.length≤549755813888):∃ i' L',Mix L.length L L'∧∀ fu m:Nat,L.length+1≤fu→L.length+1≤m →
 itP m (qa7 fu) (L.length,((0:Int),(((L.length:Nat):Int),(((1:Nat):Int),(L.map vT,())))))=some (L.length,((0:Int),(((L.length:Nat):Int),(((i':Nat):Int),(L'.map vT,()))))):=by
 refine qpi (F:=qe5) (G:=qa7) (mk:=fun i j K=>(L.length,((0:Int),(((L.length:Nat):Int),(((i:Nat):Int),(((j:Nat):Int),(K.map vT,()))))))) (mk2:=fun i K=>(L.length,((0:Int),(((L.length:Nat):Int),(((i:Nat):Int),(K.map vT,())))))) (M:=L.length) (N:=L.length)
  (fun i K hK=>?_) (fun i j K h hK hj=>?_) (Nat.le_refl _) (fun fu i j' K K' hi hK hK' h=>?_) (fun fu i K hi hK=>?_) L.length 1 L rfl (by omega)
 · rfl
 · have d0:decide ((0:Int)<((j+1:Nat):Int))=true:=decide_eq_true (by omega)
   have d1:decide ((0:Int)≤((j+1:Nat):Int))=true:=decide_eq_true (by omega)
   have d2:decide (((j+1:Nat):Int)<((L.length:Nat):Int))=true:=decide_eq_true (by omega)
   have d3:decide ((0:Int)≤((j:Nat):Int))=true:=decide_eq_true (by omega)
   have d4:decide (((j:Nat):Int)<((L.length:Nat):Int))=true:=decide_eq_true (by omega)
   have w:=wT hj hM
   have g1:=gT h
   have g0:=gT (show j<K.length by omega)
   obtain ⟨z,hz⟩:=sU h (T.agg [T.s (.int .i64 (K[j]'(by omega)).id),T.s (.int .u64 (K[j]'(by omega)).c)])
   cases hc:decide (qgB (Int.toNat ((YK (Int.toNat (K[j]'(by omega)).c):Nat):Int)) (Int.toNat ((YK (Int.toNat (K[j+1]'h).c):Nat):Int))<0) with
   | true =>
    left
    simp only [qe5,d0,d1,d2,d3,d4,w,g1,g0,hz,hc,cT0,cT1,aT0,aT1,Option.bind_some,Bool.true_and,Bool.and_true,Bool.and_self,cond_true,cond_false,sT h]
   | false =>
    right
    simp only [qe5,d0,d1,d2,d3,d4,w,g1,g0,hz,hc,cT0,cT1,aT0,aT1,Option.bind_some,Bool.true_and,Bool.and_true,Bool.and_self,cond_true,cond_false]
 · have d0:decide (((i:Nat):Int)<((L.length:Nat):Int))=true:=decide_eq_true (by omega)
   have w:=wU hi hM
   simp only [qa7,d0,cond_true,h,Option.bind_some,w]
 · have d0:decide (((i:Nat):Int)<((L.length:Nat):Int))=false:=decide_eq_false (by omega)
   simp only [qa7,d0,cond_false]
theorem qDL (N:Nat) (L:List Tm) (hN:N≤L.length) (hM:L.length≤549755813888):∃ i' L',Mix N L L'∧∀ fu m:Nat,N+1≤fu→N+1≤m →
 itP m (qcS fu) (N,((0:Int),(((N:Nat):Int),(((1:Nat):Int),(L.map vT,())))))=some (N,((0:Int),(((N:Nat):Int),(((i':Nat):Int),(L'.map vT,()))))):=by
 refine qpi (F:=qcR) (G:=qcS) (mk:=fun i j K=>(N,((0:Int),(((N:Nat):Int),(((i:Nat):Int),(((j:Nat):Int),(K.map vT,()))))))) (mk2:=fun i K=>(N,((0:Int),(((N:Nat):Int),(((i:Nat):Int),(K.map vT,())))))) (M:=L.length) (N:=N)
  (fun i K hK=>?_) (fun i j K h hK hj=>?_) hN (fun fu i j' K K' hi hK hK' h=>?_) (fun fu i K hi hK=>?_) N 1 L rfl (by omega)
 · rfl
 · have d0:decide ((0:Int)<((j+1:Nat):Int))=true:=decide_eq_true (by omega)
   have d1:decide ((0:Int)≤((j+1:Nat):Int))=true:=decide_eq_true (by omega)
   have d2:decide (((j+1:Nat):Int)<((N:Nat):Int))=true:=decide_eq_true (by omega)
   have d3:decide ((0:Int)≤((j:Nat):Int))=true:=decide_eq_true (by omega)
   have d4:decide (((j:Nat):Int)<((N:Nat):Int))=true:=decide_eq_true (by omega)
   have w:=wT hj (show N≤549755813888 by omega)
   have g1:=gT h
   have g0:=gT (show j<K.length by omega)
   obtain ⟨z,hz⟩:=sU h (T.agg [T.s (.int .i64 (K[j]'(by omega)).id),T.s (.int .u64 (K[j]'(by omega)).c)])
   cases hc:decide ((K[j+1]'h).id<(K[j]'(by omega)).id) with
   | true =>
    left
    simp only [qcR,YW,d0,d1,d2,d3,d4,decide_true,w,g1,g0,hz,hc,cT0,cT1,aT0,aT1,Option.bind_some,Bool.true_and,Bool.and_true,Bool.and_self,Bool.not_true,cond_true,cond_false,sT h]
   | false =>
    right
    cases hc2:decide ((K[j]'(by omega)).id<(K[j+1]'h).id) <;>
     simp only [qcR,YW,d0,d1,d2,d3,d4,decide_true,w,g1,g0,hz,hc,hc2,cT0,cT1,aT0,aT1,Option.bind_some,Bool.true_and,Bool.and_true,Bool.and_self,Bool.not_true,cond_true,cond_false]
 · have d0:decide (((i:Nat):Int)<((N:Nat):Int))=true:=decide_eq_true (by omega)
   have w:=wU hi (show N≤549755813888 by omega)
   simp only [qcS,d0,cond_true,h,Option.bind_some,w]
 · have d0:decide (((i:Nat):Int)<((N:Nat):Int))=false:=decide_eq_false (by omega)
   simp only [qcS,d0,cond_false]
abbrev qzf:=(Bool×(Int×((List Tm)×(Int×((List T)×(Bool×(Int×(Nat×(Nat×(Int×Unit))))))))))
def qgH (K A:List Tm) (R:qzf) (i:Nat) (e:Int):(List T)×(Int×((List Tm)×(Int×(Int×qzf)))):=(K.map vT,(e,(A,(((A.length:Nat):Int),(((i:Nat):Int),R)))))
theorem ixT {K:List Tm} {j:Nat} (h:j<K.length):idx (K.map vT) ((j:Nat):Int)=some (vT K[j]):=by
 rw [jJ,List.getElem?_map,List.getElem?_eq_getElem h];rfl
def qqS (K:List Tm) (t:Tm) (j:Nat):Bool:=match K[j]? with
 | some u=>!(decide (t.id=u.id)&&(decide (t.c=u.c)&&true))
 | none=>true
theorem allK (K:List Tm) (t:Tm):qqL K.length (qqS K t) = !inK K t:=by
 cases h:inK K t with
 | true =>
  obtain ⟨j,hj,e⟩:=List.getElem_of_mem (qjx.1 h)
  refine quC.2 ⟨j,hj,?_⟩
  unfold qqS
  rw [List.getElem?_eq_getElem hj,e];simp
 | false =>
  refine qlM.2 fun j hj=>?_
  unfold qqS
  rw [List.getElem?_eq_getElem hj]
  show (!(decide (t.id=K[j].id)&&(decide (t.c=K[j].c)&&true)))=true
  cases hq:(decide (t.id=K[j].id)&&(decide (t.c=K[j].c)&&true)) with
  | false=>rfl
  | true =>
   have:inK K t=true:=by
    unfold inK
    rw [List.any_eq_true]
    exact ⟨K[j],List.getElem_mem hj,by simpa using hq⟩
   rw [h] at this;cases this
theorem qDM {K A:List Tm} {R:qzf} {i:Nat} {e:Int} {t:Tm} (hK:K.length≤549755813888) (hA:A.length≤549755813888) (hi:i<A.length) :
 YF (K.length+1) (qaH (qgH K A R i e) t) (K.map vT,((((K.map vT).length:Nat):Int),(((0:Nat):Int),(t.id,(t.c,())))))
  (bif qqL K.length (qqS K t) then .exit 0 (K.map vT,((((K.map vT).length:Nat):Int),(((K.length:Nat):Int),(t.id,(t.c,()))))) else .ret (.inl (qgH K A R (i+1) e))):=by
 refine quD (mk:=fun j=>(K.map vT,((((K.map vT).length:Nat):Int),(((j:Nat):Int),(t.id,(t.c,())))))) ?_ ?_ ?_
 · intro j hj ho
   have d0:decide (((j:Nat):Int)<(((K.map vT).length:Nat):Int))=true:=decide_eq_true (by simp;omega)
   have g:=ixT hj
   have w:=wU hj hK
   unfold qqS at ho
   rw [List.getElem?_eq_getElem hj] at ho
   have hq:(decide (t.id=K[j].id)&&(decide (t.c=K[j].c)&&true))=false:=by simpa only [Bool.not_eq_true'] using ho
   simp only [qaH,d0,g,cT0,cT1,aT0,aT1,Option.bind_some,cond_true,hq,cond_false,w]
 · intro j hj ho
   have d0:decide (((j:Nat):Int)<(((K.map vT).length:Nat):Int))=true:=decide_eq_true (by simp;omega)
   have d1:decide ((0:Int)≤((j:Nat):Int))=true:=decide_eq_true (by omega)
   have g:=ixT hj
   have w:=wU hi hA
   unfold qqS at ho
   rw [List.getElem?_eq_getElem hj] at ho
   have hq:(decide (t.id=K[j].id)&&(decide (t.c=K[j].c)&&true))=true:=by simpa using ho
   simp only [qaH,d0,d1,g,cT0,cT1,aT0,aT1,Option.bind_some,cond_true,hq,cond_false,Bool.not_true,qgH,w]
 · have d0:decide (((K.length:Nat):Int)<(((K.map vT).length:Nat):Int))=false:=decide_eq_false (by simp)
   simp only [qaH,d0,cond_false]
theorem qzg {K A:List Tm} {R:qzf} (hK:K.length≤549755813888) (hA:A.length≤549755813888) {fu:Nat} (hf:K.length+1≤fu) :
 ∀ (d i m:Nat) (e:Int),i+d=A.length→d+1≤m→itP m (YG fu) (qgH K A R i e)=some (qgH K A R A.length (qjw (inK K) (A.drop i) e)):=by
 intro d
 induction d with
 | zero =>
  intro i m e hi hm
  have hi:i=A.length:=by omega
  subst hi
  obtain ⟨m',rfl⟩:∃ m',m=m'+1:=⟨m-1,by omega⟩
  rw [qA,List.drop_length]
  simp only [YG,qgH,Int.lt_irrefl,decide_false,cond_false,Option.bind_some,qjw]
 | succ d ih =>
  intro i m e hi hm
  obtain ⟨m',rfl⟩:∃ m',m=m'+1:=⟨m-1,by omega⟩
  have hi':i<A.length:=by omega
  have d0:decide (((i:Nat):Int)<((A.length:Nat):Int))=true:=decide_eq_true (by omega)
  have w:=wU hi' hA
  have r:=qDM (R:=R) (e:=e) (t:=A[i]) hK hA hi' fu hf
  rw [allK] at r
  have step:YG fu (qgH K A R i e)=some (.inl (qgH K A R (i+1) (bif inK K A[i] then e else upI [e,qcJ A[i].c]))):=by
   cases hk:inK K A[i] with
   | true =>
    rw [hk] at r
    simp only [Bool.not_true,cond_false] at r
    simp only [qgH] at r ⊢
    simp only [YG,d0,cond_true,ixl hi',Option.bind_some]
    rw [show ((0:Int))=((0:Nat):Int) from rfl,r]
    rfl
   | false =>
    rw [hk] at r
    simp only [Bool.not_false,cond_true] at r
    simp only [qgH] at r ⊢
    simp only [YG,d0,cond_true,ixl hi',Option.bind_some]
    rw [show ((0:Int))=((0:Nat):Int) from rfl,r]
    simp only [Option.bind_some,w]
    rfl
  rw [qA,step]
  show itP m' _ _=_
  rw [ih (i+1) m' _ (by omega) (by omega),List.drop_eq_getElem_cons hi']
  rfl
def qdB (a:Fm) (l:List Tm):Fm:=qH (false,(a.2.1,(l,qjw (inK l) a.2.2.1 a.2.2.2)))
theorem qzh (L:List Tm) (n:Nat) (h:n≤L.length):Su.sub (L.map vT) 0 n=some ((L.take n).map vT):=by
 unfold Su.sub
 rw [Nat.zero_add,Nat.ble_eq_true_of_le (by rw [List.length_map];exact h),cond_true,List.drop_zero,List.map_take]
theorem anyN {a:Fm} (h:okF a=true):(List.any [a] fun z0=>(z0.1||(!(yU z0))))=false:=by
 have:(List.any [a] fun z0=>(z0.1||(!(yU z0)))) = !okF a:=by simp [okF]
 rw [this,h];rfl
theorem itE {S R:Type} {n:Nat} {F:S→Option (S ⊕ R)} {s:S} {r:R} (h:F s=some (.inr r)):itP (n+1) F s=some r:=by rw [qA,h];rfl
theorem qpm:∀ {l:List Tm} {lo:Int},Qd lo l=true→∀ t∈l,zI t.c=false
 | [],_,_,t,ht=>by cases ht
 | a::l,lo,h,t,ht=>by
  unfold Qd at h
  simp only [Bool.and_eq_true,Bool.not_eq_true'] at h
  rcases List.mem_cons.1 ht with rfl | ht
  · exact h.2.1
  · exact qpm h.2.2.2 t ht
theorem qDN (b:Bool) (mid:Int) (A:List Tm) (e:Int) (most:Int) (ho:okF (b,(mid,(A,e)))=true) (hl:A.length≤12) :
 ∃ l,l.Perm (A.filter (inK l))∧(l.length:Int)=min (max most 0) A.length∧∃ n,qqR n (b,(mid,(A,e))) most=some (qdB (b,(mid,(A,e))) l):=by
 obtain ⟨N,hN⟩:∃ N:Nat,min (max most 0) ((A.length:Nat):Int)=(N:Int):=⟨(min (max most 0) ((A.length:Nat):Int)).toNat,by omega⟩
 have hNl:N≤A.length:=by omega
 obtain ⟨i1,L1,m1,r1⟩:=qDK A (by omega)
 obtain ⟨i2,L2,m2,r2⟩:=qDL N L1 (by rw [m1.len];exact hNl) (by rw [m1.len];omega)
 have hk:=qDJ (qgk (qpk ho)) m1 m2
 have hL:L2.length=A.length:=by rw [m2.len,m1.len]
 refine ⟨L2.take N,hk,?_,A.length+40,?_⟩
 · rw [hN,List.length_take,hL];omega
 have hK:(L2.take N).length=N:=by rw [List.length_take,hL];omega
 have r3:=qzg (K:=L2.take N) (A:=A) (R:=(b,(mid,(A,(e,([],(false,(0,(0,(0,(0,()))))))))))) (by omega) (by omega) (fu:=A.length+40) (by omega) A.length 0 (A.length+40) e (by omega) (by omega)
 have r1:=r1 (A.length+40) (A.length+40) (by omega) (by omega)
 have r2:=r2 (A.length+40) (A.length+40) (by omega) (by omega)
 have q20:decide ((20:Int)≤((A.length:Nat):Int))=false:=decide_eq_false (by omega)
 have p20:decide ((20:Int)<((A.length:Nat):Int))=false:=decide_eq_false (by omega)
 have w0:IntKind.i64.wrap ((N:Int)-0)=(N:Int):=by rw [Int.sub_zero];exact Qw (by omega) (by omega)
 have d12:decide ((N:Int)≤12)=true:=decide_eq_true (by omega)
 unfold qqR
 refine (QY (anyN ho)).trans (obB (x:=A) (yh (Nat.ble_eq_true_of_le (by show A.length≤_;omega))) ?_)
 simp only [List.length_map,hN,Int.toNat_natCast]
 refine obB (itE (QY q20)) ?_
 refine obB r1 ?_
 refine obB (itE (QY p20)) ?_
 refine (yh (by rw [decide_eq_true (by omega),decide_eq_true (by omega),decide_eq_true (by omega)];rfl)).trans ?_
 refine obB (x:=.ret (qdB (b,(mid,(A,e))) (L2.take N))) (itE ?_) rfl
 simp only [qpl,w0,d12,cond_true]
 refine obB r2 ?_
 simp only [List.length_map,hN,Int.toNat_natCast]
 refine obB (x:=qdB (b,(mid,(A,e))) (L2.take N)) ?_ rfl
 refine obB (qzh _ _ (by omega)) (obB (qzh _ _ (by omega)) (obB (qzh _ _ (by omega)) ?_))
 refine obB r3 ?_
 refine obB (x:=L2.take N) (obB (jR (L2.take N)) (yh (Nat.ble_eq_true_of_le (by rw [hK];omega)))) ?_
 refine obB (x:=qdB (b,(mid,(A,e))) (L2.take N)) (obB (x:=(false,(mid,(L2.take N,qjw (inK (L2.take N)) A e)))) (obB (obB (obB (jR (L2.take N)) rfl) rfl) rfl) (yh ?_)) rfl
 refine List.all_eq_true.2 fun t ht=>?_
 have hm:t∈A:=(List.mem_filter.1 (hk.mem_iff.1 ht)).1
 rw [qpm (qpk ho) t hm];rfl
theorem qpn (a:Fm) (most:Int):∃ l:List Tm,okF a=true→a.2.2.1.length≤12→l.Perm (a.2.2.1.filter (inK l))∧(l.length:Int)=min (max most 0) a.2.2.1.length∧∃ n,qqR n a most=some (qdB a l):=by
 by_cases h:okF a=true∧a.2.2.1.length≤12
 · obtain ⟨l,h1,h2,h3⟩:=qDN a.1 a.2.1 a.2.2.1 a.2.2.2 most h.1 h.2
   exact ⟨l,fun _ _=>⟨h1,h2,h3⟩⟩
 · exact ⟨[],fun h1 h2=>absurd ⟨h1,h2⟩ h⟩
def Z5 (p:Fm×Int):List Tm:=Classical.choose (qpn p.1 p.2)
theorem qpo (p:Fm×Int) (ho:okF p.1=true) (hl:p.1.2.2.1.length≤12):(Z5 p).Perm (p.1.2.2.1.filter (inK (Z5 p)))∧((Z5 p).length:Int)=min (max p.2 0) p.1.2.2.1.length∧∃ n,qqR n p.1 p.2=some (qdB p.1 (Z5 p)):=Classical.choose_spec (qpn p.1 p.2) ho hl
def ZX (p:Fm×Int):Option Fm:=bif okF p.1&&Nat.ble p.1.2.2.1.length 12 then some (qdB p.1 (Z5 p)) else none
theorem qzi (p:Fm×Int) (y:Fm) (hg:(dc qu (d1 (cI .i64))).good p) (h:ZX p=some y):∃ n,qqR n p.1 p.2=some y:=by
 obtain ⟨h1,h2⟩:=qj h
 have:=soi h2;subst this
 rw [Bool.and_eq_true] at h1
 exact (qpo p h1.1 (Nat.le_of_ble_eq_true h1.2)).2.2
end
end Su
end
