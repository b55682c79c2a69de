/-
  What functions of the program compute, in plain Lean, and that the evaluator finds it.
-/
import Derived.Test.YtnegfdebjikfiaaGreatSuXl
import Derived.Test.YtnegfdebjikfiaaGreatNC14
import Derived.Test.YtnegfdebjikfiaaGreatNC25
set_option linter.unusedVariables false
set_option linter.unusedSimpArgs false
set_option maxRecDepth 10000
section
namespace Su
open Go Fly
noncomputable section
def slkA(x y:Int):Int:=qJ (qJ x y 1) (Jr (qJ x y 2)) 1
def slkM(x y:Int):Int:=qJ (qcT x y 1) (Jr (qcT x y 2)) 1
def Zz(id:Int)(r:Int×Int)(g:Int→List Tm×Int):List Tm×Int:=(⟨id,r.1⟩::(g r.2).1,(g r.2).2)
def qm(f:Int→Int→Int→Int×Int):Nat→List Tm→List Tm→Int→List Tm×Int
 | 0,_,_,e=>([],e)
 | _+1,[],[],e=>([],e)
 | n+1,a::l,[],e=>Zz a.id (f e a.c 0) (qm f n l [])
 | n+1,[],b::m,e=>Zz b.id (f e 0 b.c) (qm f n [] m)
 | n+1,a::l,b::m,e=>bif decide (a.id<b.id)then Zz a.id (f e a.c 0) (qm f n l (b::m))else bif decide (b.id<a.id)then Zz b.id (f e 0 b.c) (qm f n (a::l) m)else Zz a.id (f e a.c b.c) (qm f n l m)
theorem ZA(n:Nat):decide (0<((n+1:Nat):Int))=true:=zd (by omega)
theorem hz0:decide (((0:Nat):Int)=0)=true:=rfl
theorem hnz(n:Nat):decide (((n+1:Nat):Int)=0)=false:=zh (by omega)
theorem hp0:decide (0<((0:Nat):Int))=false:=rfl
theorem qbL(n:Nat):decide (1≤((n+1:Nat):Int))=true:=zd (by omega)
theorem hle(n:Int):decide (n≤n)=true:=zd (by omega)
theorem qbM{α:Type}(x:α)(l:List α):idx (x::l) 0=some x:=rfl
theorem JD{α:Type}(x:α)(l:List α):List.take (Int.toNat (((l.length+1:Nat):Int)-1)) (List.drop 1 (x::l))=l:=by
 rw[show Int.toNat (((l.length+1:Nat):Int)-1)=l.length by omega];exact WI
theorem qbN(A:List Tm)(i c:Int):A.map vT++[T.agg [T.s (.int .i64 i),T.s (.int .u64 c)]]=(A++[(⟨i,c⟩:Tm)]).map vT:=by simp;rfl
theorem qbO(A:List Tm)(t:Tm):((A++[t]).map vT).length=(A++[t]).length:=by simp
end
end Su
end
section
namespace Su
open Go Fly
def j0(c:Int):Prop:=∃C:Nat,c=(C:Int)∧C<18446744073709551616
theorem qbP{c:Int}(h:inR .u64 c=true):j0 c:=qG h
theorem qe7{c:Int}:zI c=true↔bK c.toNat=0:=by
 unfold zI;rw[beq_dec];simp
theorem ql9{c:Int}:fI c=true↔bK c.toNat≤9218868437227405311:=by unfold fI;exact qT
theorem qsB{c:Int}(h:j0 c):j0 (Jr c):=by
 obtain⟨C,rfl,hC⟩:=h;exact⟨yG C,rfl,qnr hC⟩
theorem qe8{a b:Int}(ha:j0 a)(hb:j0 b)(m:Int):j0 (qJ a b m):=by
 obtain⟨A,rfl,hA⟩:=ha;obtain⟨B,rfl,hB⟩:=hb;exact⟨Qe A B m,rfl,qiu hA hB m⟩
structure Tells (a:Fm):Prop where
 ok:a.1=false
 wm:j0 a.2.1
 fm:fI a.2.1=true
 nm:a.2.1≠9223372036854775808
 we:j0 a.2.2.2
 fe:fI a.2.2.2=true
 se:Int.fdiv a.2.2.2 (2^63)=0
 wt:∀t∈a.2.2.1,j0 t.c
 ft:∀t∈a.2.2.1,fI t.c=true
 zt:∀t∈a.2.2.1,zI t.c=false
 rise:ja (-1) a.2.2.1=true
theorem qe9:∀(l:List Tm) (k:Int),ja k l=true→(∀t∈l,fI t.c=true)∧∀t∈l,zI t.c=false
 | [],_,_=>⟨by simp,by simp⟩
 | t::l,k,h=>by
  have h:(decide (k<t.id)&&(!zI t.c&&(fI t.c&&ja t.id l)))=true:=h
  simp only[zl,Ky]at h;obtain⟨_,h1,h2,h3⟩:=h;obtain⟨i1,i2⟩:=qe9 l t.id h3;exact⟨fun u hu=>by rcases zA.1 hu with rfl | hu;exact h2;exact i1 u hu,fun u hu=>by rcases zA.1 hu with rfl | hu;exact h1;exact i2 u hu⟩
theorem qsC{a:Fm}(hb:a.1=false)(hm:yn a=true)(wm:j0 a.2.1)(we:j0 a.2.2.2)(wt:∀t∈a.2.2.1,j0 t.c):Tells a:=by
 rw[qbJ,hb,zi]at hm;simp only[zl,Ky,zy,Wn]at hm;obtain⟨h1,h2,h3,h4,h5⟩:=hm;obtain⟨i1,i2⟩:=qe9 _ _ h1;exact⟨hb,wm,h2,h3,we,h4,h5,wt,i1,i2,h1⟩
end Su
end
section
namespace Su
open Go Fly
noncomputable section
theorem upI2{e s E S:Int}(he:Up e E)(hs:Up s S):Up (upI [e,s]) (E+S):=by
 have:=qiA (qiA up_0 he) hs
 rw[Int.zero_add]at this;exact this
end
end Su
end
section
namespace Su
open Go Fly
noncomputable section
theorem qxJ{f:Int}:fI f=true↔qkf f=false∧qA (bK f.toNat)≠3:=by
 unfold fI qkf;rw[qT,qE,Jp];by_cases h:bK f.toNat=9218868437227405312
 · rw[zR h];omega
 · rw[zP h]
   constructor
   · intro h1
     refine⟨by omega,?_⟩
     rw[zP (by omega)];split <;> (try split) <;> omega
   · rintro⟨h1,-⟩;omega
theorem qma{x n:Int}(h:Up x n):qB (bK x.toNat)=false:=by
 rcases h with⟨h,_⟩ | rfl
 · exact(qxJ.1 h).1
 · rfl
theorem qBQ{x y n m:Int}(wx:Fw x)(wy:Fw y)(hx:Up x n)(hy:Up y m):Up (mxI x y) n∧Up (mxI x y) m:=by
 have nx:qkf x=false:=qma hx
 have ny:qkf y=false:=qma hy
 have big:∀ {x y:Int} {n m:Int},Up x n→Up y m→ky x≤ky y→Up y n:=by
  intro x y n m hx hy hk;rcases hy with⟨fy,hy⟩ | rfl
  · rcases hx with⟨fx,hx⟩ | rfl
    · exact .inl ⟨fy,by have:=(qEr fx fy).2 hk;omega⟩
    · have:=qBP fy
      rw[qxF]at hk;omega
  · exact .inr rfl
 rw[qEm wx wy nx ny];by_cases h:ky x<ky y
 · rw[zR h];exact⟨big hx hy (by omega),hy⟩
 · rw[zP h];exact⟨hx,big hy hx (by omega)⟩
end
end Su
end
section
namespace Su
open Go Fly
noncomputable section
def awI(a b:Int):Int:=mxI (qJ a (Jr b) 1) (qJ b (Jr a) 1)
def jnD(f:Int→Int→Int)(e x y:Int):Int×Int:=(f x y,e)
def QA(e x y:Int):Int×Int:=(0,bif decide (x=0)then e else upI [e,awI x y])
theorem qnO{m:Int}(wm:Fw m)(fm:fI m=true):Up (Jr m) (-fv m.toNat):=by
 obtain⟨k1,k2⟩:=qnN (qkk wm) (JV.1 fm)
 refine .inl ⟨JV.2 (by unfold Jr;rw[zm];exact k1),?_⟩
 unfold Jr;rw[zm,k2];exact Wp _
theorem qz3{a b:Int}(wa:Fw a)(fa:fI a=true)(wb:Fw b)(fb:fI b=true):Up (awI a b) ((fv a.toNat-fv b.toNat).natAbs:Int):=by
 obtain⟨u1,u2⟩:=qBQ (qsy wa (qsz wb) 1) (qsy wb (qsz wa) 1) (qiA (qiB fa) (qnO wb fb)) (qiA (qiB fb) (qnO wa fa))
 have e:awI a b=mxI (qJ a (Jr b) 1) (qJ b (Jr a) 1):=rfl
 rw[← e]at u1 u2;by_cases h:0≤fv a.toNat-fv b.toNat
 · exact qnM u1 (by omega)
 · exact qnM u2 (by omega)
theorem ZB(f:Int→Int→Int→Int×Int)(k:Nat)(a b:Tm)(l m:List Tm)(e:Int)(h:a.id=b.id):qm f (k+1) (a::l) (b::m) e=Zz a.id (f e a.c b.c) (qm f k l m):=by
 simp only[qm,zh (show¬a.id<b.id by omega),zh (show¬b.id<a.id by omega),zi]
theorem ZC(f:Int→Int→Int→Int×Int)(k:Nat)(a b:Tm)(l m:List Tm)(e:Int)(h:a.id<b.id):qm f (k+1) (a::l) (b::m) e=Zz a.id (f e a.c 0) (qm f k l (b::m)):=by
 simp only[qm,zd h,zf]
theorem ZD(f:Int→Int→Int→Int×Int)(k:Nat)(a b:Tm)(l m:List Tm)(e:Int)(h:b.id<a.id):qm f (k+1) (a::l) (b::m) e=Zz b.id (f e 0 b.c) (qm f k (a::l) m):=by
 simp only[qm,zh (show¬a.id<b.id by omega),zd h,zf,zi]
def qiC(a:Fm)(r:List Tm)(mid:Int):Int:=upI [(qm QA (a.2.2.1.length+r.length) a.2.2.1 r (awI a.2.1 mid)).2,a.2.2.2]
def Y4(f:Int→Int→Int)(a b:Fm):List Tm:=(qm (jnD f) (a.2.2.1.length+b.2.2.1.length) a.2.2.1 b.2.2.1 0).1
def qbQ(f:Int→Int→Int)(a b:Fm):Fm:=bif okF a&&okF b then yY (false,jP a.2.1 b.2.1,Y4 f a b,mxI (qiC a (Y4 f a b) (jP a.2.1 b.2.1)) (qiC b (Y4 f a b) (jP a.2.1 b.2.1)))else qaS
structure Pick (f:Int→Int→Int):Prop where
 l:∀x,f x 0=0
 r:∀y,f 0 y=0
 o:∀x y,f x y=0∨f x y=x∨f x y=y
theorem Pick.swap{f:Int→Int→Int}(h:Pick f):Pick (fun x y=>f y x):=⟨h.r,h.l,fun x y=>(h.o y x).imp id Or.symm⟩
theorem Pick.all{f:Int→Int→Int}(h:Pick f){p:Int→Prop}(p0:p 0)(x y:Int)(hx:p x)(hy:p y):p (f x y):=by
 rcases h.o x y with e | e | e <;> rw[e] <;> assumption
def qkl(K:Tm→Bool):List Tm→Int→Int
 | [],e=>e
 | t::l,e=>qkl K l (bif K t then e else upI [e,qcU t.c])
end
end Su
end
section
namespace Su
open Go Fly
noncomputable section
theorem qz4{σ:Type}{F:σ→Option (σ ⊕ σ)}{mk:List Tm→List Tm→Int→List Tm→σ}{f:Int→Int→Int→Int×Int}{B:Nat}
 (h0:∀e A,F (mk [] [] e A)=some (.inr (mk [] [] e A)))
 (h1:∀x l e A,A.length+1≤B→F (mk (x::l) [] e A)=some (.inl (mk l [] (f e x.c 0).2 (A++[⟨x.id,(f e x.c 0).1⟩]))))
 (h2:∀y m e A,A.length+1≤B→F (mk [] (y::m) e A)=some (.inl (mk [] m (f e 0 y.c).2 (A++[⟨y.id,(f e 0 y.c).1⟩]))))
 (h3:∀x l y m e A,A.length+1≤B→decide (x.id<y.id)=true→F (mk (x::l) (y::m) e A)=some (.inl (mk l (y::m) (f e x.c 0).2 (A++[⟨x.id,(f e x.c 0).1⟩]))))
 (h4:∀x l y m e A,A.length+1≤B→decide (x.id<y.id)=false→decide (y.id<x.id)=true→F (mk (x::l) (y::m) e A)=some (.inl (mk (x::l) m (f e 0 y.c).2 (A++[⟨y.id,(f e 0 y.c).1⟩]))))
 (h5:∀x l y m e A,A.length+1≤B→decide (x.id<y.id)=false→decide (y.id<x.id)=false→F (mk (x::l) (y::m) e A)=some (.inl (mk l m (f e x.c y.c).2 (A++[⟨x.id,(f e x.c y.c).1⟩])))) :
 ∀(n:Nat) (l m:List Tm) (e:Int) (A:List Tm),l.length+m.length≤n→A.length+n≤B→∃fu,itP fu F (mk l m e A)=some (mk [] [] (qm f n l m e).2 (A++(qm f n l m e).1)):=by
 intro n;induction n with
 | zero=>
  intro l m e A h hA;have e1:l=[]:=Kj.1 (by omega)
  have e2:m=[]:=Kj.1 (by omega)
  subst e1 e2
  refine⟨1,?_⟩
  rw[qu,h0];show _=some (mk [] [] e (A++[]))
  rw[zD];rfl
 | succ n ih=>
  intro l m e A h hA;have go:∀(l' m':List Tm) (id:Int) (r:Int×Int),l'.length+m'.length≤n→F (mk l m e A)=some (.inl (mk l' m' r.2 (A++[⟨id,r.1⟩])))→qm f (n+1) l m e=Zz id r (qm f n l' m') →
   ∃fu,itP fu F (mk l m e A)=some (mk [] [] (qm f (n+1) l m e).2 (A++(qm f (n+1) l m e).1)):=by
   intro l' m' id r hl' hstep hm;obtain⟨fu,q⟩:=ih l' m' r.2 (A++[⟨id,r.1⟩]) hl' (by simp;omega)
   refine⟨fu+1,?_⟩
   rw[qu,hstep,hm];simp only[zj,Zz];rw[q];simp only[zM,V9]
  match l,m,h with
  | [],[],h=>
   refine⟨1,?_⟩
   rw[qu,h0];show _=some (mk [] [] e (A++[]))
   rw[zD];rfl
  | x::l,[],h=>exact go l [] x.id (f e x.c 0) (by simp at h ⊢;omega) (h1 x l e A (by omega)) rfl
  | [],y::m,h=>exact go [] m y.id (f e 0 y.c) (by simp at h ⊢;omega) (h2 y m e A (by omega)) rfl
  | x::l,y::m,h=>
   simp only[zw]at h;cases g1:decide (x.id<y.id)with
   | true=>exact go l (y::m) x.id (f e x.c 0) (by simp only[zw];omega) (h3 x l y m e A (by omega) g1) (by simp only[qm,g1,zf])
   | false=>
    cases g2:decide (y.id<x.id)with
    | true=>exact go (x::l) m y.id (f e 0 y.c) (by simp only[zw];omega) (h4 x l y m e A (by omega) g1 g2) (by simp only[qm,g1,g2,zf,zi])
    | false=>exact go l m x.id (f e x.c y.c) (by omega) (h5 x l y m e A (by omega) g1 g2) (by simp only[qm,g1,g2,zi])
theorem subT(L:List Tm)(n:Nat)(h:n≤L.length):Su.sub (L.map vT) 0 n=some ((L.take n).map vT):=by
 unfold Su.sub;rw[Kk,zB (by rw[zn];exact h),zf,VT,List.map_take]
end
end Su
end
