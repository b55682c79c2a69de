/-
  What functions of the program compute, in plain Lean, and that the evaluator finds it.
-/
import Derived.Test.YtnegfdebjikfiaaGreatSuXl
import Derived.Test.YtnegfdebjikfiaaGreatND10
import Derived.Test.YtnegfdebjikfiaaGreatNC19
set_option linter.unusedVariables false
set_option linter.unusedSimpArgs false
set_option maxRecDepth 10000
section
namespace Su
open Go Fly
noncomputable section
def qtw  (f:Int):Option Int :=
 (bif(decide (f=9223372036854775808))then
 some 0
 else
  some f)
def qCz  (f:Int):Option Int :=
 some (Fly.qz Go.BinOp.and .u64 f 9223372036854775807)
def qCA  (f:Int):Option Int :=
 some (Fly.qz Go.BinOp.xor .u64 f 9223372036854775808)
def rAd  (a:Int)(b:Int)(m:Int):Option Int :=
 (qyD a b m).bind fun x0=>
 some x0.1
def rMl  (a:Int)(b:Int)(m:Int):Option Int :=
 (qyC a b m).bind fun x0=>
 some x0.1
def qfl(f:Nat):Nat:=bif bS f then bK f else 9223372036854775808+f
def Y5(f:Int):Int:=((qfl f.toNat:Nat):Int)
def Qi(f:Int):Int:=((bK f.toNat:Nat):Int)
theorem qtx{f:Nat}(h:qB (bK f)=false):qfl f=yG f:=by unfold qfl yG;rw[h];rfl
theorem qyF{f:Nat}(h:f<18446744073709551616):bK (qfl f)=bK f:=by
 unfold qfl;cases hs:bS f with
 | true=>rw[zf];unfold bK;omega
 | false=>have:=Jo.1 hs;rw[zi];unfold bK;omega
theorem qmm{a b:Int}(ha:j0 a)(hb:j0 b)(m:Int):j0 (qcT a b m):=by
 obtain⟨A,rfl,hA⟩:=ha;obtain⟨B,rfl,hB⟩:=hb;refine⟨qpr A B m,rfl,?_⟩
 rw[qd2];unfold qj8;have h1:=qis (!decide (bS A=bS B))
 have h2:=qr6 (!decide (bS A=bS B)) m (kM (bK A)*kM (bK B)) (kE (bK A)+kE (bK B)+3852) false
 generalize RN (!decide (bS A=bS B)) m (kM (bK A)*kM (bK B)) (kE (bK A)+kE (bK B)+3852) false=z at *
 generalize sgN (!decide (bS A=bS B))=s at *
 cases qB (bK A) <;> cases qB (bK B) <;> cases((qQ (bK A)||qQ (bK B))&&(Nat.beq (bK A) 0||Nat.beq (bK B) 0)) <;> cases(qQ (bK A)||qQ (bK B)) <;> simp only[zf,zi] <;> omega
theorem qb5{x y:Int}(hy:j0 y)(m:Int):qJ x (Y5 y) m=qJ x (Jr y) m:=by
 obtain⟨Y,rfl,hY⟩:=hy;unfold qJ Y5 Jr;simp only[zm];cases h:qB (bK Y)with
 | false=>rw[qtx h]
 | true=>
  have e1:qB (bK (qfl Y))=true:=by rw[qyF hY];exact h
  have e2:yG Y=Y:=by unfold yG;rw[h];rfl
  rw[e2,jX,jX];unfold yg;rw[h,e1];cases qB (bK x.toNat) <;> rfl
def qn5(f:Int):Option Int:=some (nzI f)
theorem qty(f:Int)(y:Int)(hg:(d1 (cI .u64)).good f)(h:qn5 f=some y):qtw f=some y:=by
 have:=soi h;subst this
 obtain⟨n,rfl,hn⟩:=qG hg;unfold qtw nzI;by_cases h1:(n:Int)=9223372036854775808
 · rw[zd h1,zf,qe7.2 (by rw[zm];unfold bK;omega),zf]
 · rw[zh h1,zi]
   cases hz:zI (n:Int)with
   | false=>rfl
   | true=>
    have:=qe7.1 hz
    rw[zm]at this;unfold bK at this;have h0:n=0:=by omega
    subst h0;rfl
def qtz(f:Int):Option Int:=some (Qi f)
theorem qyG(f:Int)(y:Int)(hg:(d1 (cI .u64)).good f)(h:qtz f=some y):qCz f=some y:=by
 have:=soi h;subst this
 obtain⟨n,rfl,hn⟩:=qG hg;unfold qCz Qi bK;have:=YG n 9223372036854775807 63 rfl hn (by omega)
 rw[zm];exact congrArg some this
def qtA(f:Int):Option Int:=some (Y5 f)
theorem qyH(f:Int)(y:Int)(hg:(d1 (cI .u64)).good f)(h:qtA f=some y):qCA f=some y:=by
 have:=soi h;subst this
 obtain⟨n,rfl,hn⟩:=qG hg;unfold qCA Y5 qfl bK;rw[zm,qno n hn];cases hs:bS n with
 | true=>have:=JU.1 hs;rw[zf,zP (by omega)]
 | false=>have:=Jo.1 hs;rw[zi,zR this]
def qAa(p:Int×Int×Int):Option Int:=some (qJ p.1 p.2.1 p.2.2)
theorem qCB(p:Int×Int×Int)(y:Int)(hg:(dc (cI .u64) (dc (cI .u64) (d1 (cI .u8)))).good p)(h:qAa p=some y):rAd p.1 p.2.1 p.2.2=some y:=by
 obtain⟨a,b,mode⟩:=p;obtain⟨A,rfl,hA⟩:=qG hg.1;obtain⟨B,rfl,hB⟩:=qG hg.2.1;have:=soi h;subst this
 unfold rAd qJ;obtain⟨fl,hfl⟩:=qtv hA hB mode;simp only[]at *
 rw[hfl,jX];rfl
def qAb(p:Int×Int×Int):Option Int:=some (qcT p.1 p.2.1 p.2.2)
theorem qCC(p:Int×Int×Int)(y:Int)(hg:(dc (cI .u64) (dc (cI .u64) (d1 (cI .u8)))).good p)(h:qAb p=some y):rMl p.1 p.2.1 p.2.2=some y:=by
 obtain⟨a,b,mode⟩:=p;obtain⟨A,rfl,hA⟩:=qG hg.1;obtain⟨B,rfl,hB⟩:=qG hg.2.1;have:=soi h;subst this
 unfold rMl qcT;obtain⟨fl,hfl⟩:=qtt (a:=A) (b:=B) mode
 simp only[]at *
 rw[hfl,qd2];rfl
end
end Su
end
section
namespace Su
open Go Fly
def atN:List Tm→Int→Int
 | [],_=>0
 | t::l,i=>bif decide (t.id=i)then t.c else atN l i
def YV:Nat→List Int→List Int→List Int
 | 0,_,_=>[]
 | _+1,[],[]=>[]
 | n+1,a::l,[]=>a::YV n l []
 | n+1,[],b::m=>b::YV n [] m
 | n+1,a::l,b::m=>bif decide (a<b)then a::YV n l (b::m)else bif decide (b<a)then b::YV n (a::l) m else a::YV n l m
theorem qn6:∀ {l:List Tm} {i:Int},(∀j∈l.map Tm.id,j≠i)→atN l i=0
 | [],_,_=>rfl
 | t::l,i,h=>by
  unfold atN;rw[zh (h t.id (by simp)),zi];exact qn6 fun j hj=>h j (by rw[KB];exact zo _ hj)
theorem Yj(t:Tm)(l:List Tm):atN (t::l) t.id=t.c:=by unfold atN;rw[zd rfl,zf]
theorem Yk{t:Tm}{l:List Tm}{i:Int}(h:t.id≠i):atN (t::l) i=atN l i:=by
 show(bif decide (t.id=i)then t.c else atN l i)=_
 rw[zh h,zi]
def qfm:List Int→List Int→List Tm
 | i::a,c::b=>⟨i,c⟩::qfm a b
 | _,_=>[]
theorem qn7:∀l:List Tm,qfm (l.map Tm.id) (l.map Tm.c)=l
 | []=>rfl
 | t::l=>by rw[KB,KB,qfm,qn7 l]
theorem qtB:∀ {a b:List Int},a.length=b.length→(qfm a b).map Tm.id=a
 | [],[],_=>rfl
 | [],_::_,h=>by cases h
 | _::_,[],h=>by cases h
 | i::a,c::b,h=>by rw[qfm,KB,qtB (Nat.succ.inj h)]
theorem qAc:∀ {a b:List Int},a.length=b.length→(qfm a b).map Tm.c=b
 | [],[],_=>rfl
 | [],_::_,h=>by cases h
 | _::_,[],h=>by cases h
 | i::a,c::b,h=>by rw[qfm,KB,qAc (Nat.succ.inj h)]
end Su
end
