/-
  What functions of the program compute, in plain Lean, and that the evaluator finds it.
-/
import Derived.Test.YtldhknmacepeiaaGreatDoorSuXl
import Derived.Test.YtldhknmacepeiaaGreatDoorNT13
import Derived.Test.YtldhknmacepeiaaGreatDoorRfc
import Derived.Lib.ParseIntB
import Derived.Lib.IndexMore
import Derived.Test.YtldhknmacepeiaaGreatDoorSuSd
set_option linter.unusedVariables false
set_option linter.unusedSimpArgs false
set_option maxRecDepth 10000
section
namespace Su
open Go Fly
noncomputable section
def Q1:Stp (Int×ByteArray×Int×Unit):=fun p0=>(bif(decide (p0.2.2.1<(ByteArray.size p0.2.1:Int)))then
 (bif(decide (0≤p0.2.2.1))then
 ((p0.2.1)[p0.2.2.1.toNat]?).bind fun x1=>
 (bif(decide (48≤(UInt8.toNat x1:Int)))then
 (bif(decide ((UInt8.toNat x1:Int)≤57))then
 some (.inl (p0.1,p0.2.1,(IntKind.wrap .i64 (p0.2.2.1+1)),()))
 else
  some (.inr (p0.1,p0.2.1,p0.2.2.1,())))
 else
  some (.inr (p0.1,p0.2.1,p0.2.2.1,())))
 else none)
 else
  some (.inr (p0.1,p0.2.1,p0.2.2.1,())))
def qbm:Stp (ByteArray×ByteArray×Int×Bool×Int×Int×ByteArray×Int×Int×ByteArray×Int×Unit):=fun p15=>(bif(decide (p15.2.2.2.2.2.2.2.2.1<p15.2.2.2.2.2.2.2.1))then
 (bif(decide (0≤p15.2.2.2.2.2.2.2.2.1))then
 ((p15.2.2.2.2.2.2.1)[p15.2.2.2.2.2.2.2.2.1.toNat]?).bind fun x16=>
 some (.inl (p15.1,p15.2.1,p15.2.2.1,p15.2.2.2.1,p15.2.2.2.2.1,(min (IntKind.wrap .i64 ((IntKind.wrap .i64 (p15.2.2.2.2.2.1*10))+(IntKind.wrap .i64 (IntKind.wrap .u8 ((UInt8.toNat x16:Int)-48))))) 100000),p15.2.2.2.2.2.2.1,p15.2.2.2.2.2.2.2.1,(IntKind.wrap .i64 (p15.2.2.2.2.2.2.2.2.1+1)),p15.2.2.2.2.2.2.2.2.2.1,p15.2.2.2.2.2.2.2.2.2.2.1,()))
 else none)
 else
  some (.inr (p15.1,p15.2.1,p15.2.2.1,p15.2.2.2.1,p15.2.2.2.2.1,p15.2.2.2.2.2.1,p15.2.2.2.2.2.2.1,p15.2.2.2.2.2.2.2.1,p15.2.2.2.2.2.2.2.2.1,p15.2.2.2.2.2.2.2.2.2.1,p15.2.2.2.2.2.2.2.2.2.2.1,())))
def ptP(fu:Nat)(s D:ByteArray)(pw:Int)(ok:Bool)(sg:Int)(rs:ByteArray)(k:Int):Option (ByteArray×Int×Bool) :=
 (itP fu (Q1) (k,rs,k,())).bind fun x=>
 (bif(((decide (0≤x.1))&&(decide (x.1≤x.2.2.1)))&&(decide (x.2.2.1≤(ByteArray.size x.2.1:Int))))then
 (itP fu (qbm) (s,D,pw,ok,sg,(0:Int),(ByteArray.extract x.2.1 x.1.toNat x.2.2.1.toNat),(((ByteArray.size (ByteArray.extract x.2.1 x.1.toNat x.2.2.1.toNat)):Nat):Int),(0:Int),x.2.1,x.2.2.1,())).bind fun y=>
 (bif y.2.2.2.1 then
 (bif(decide (y.2.2.2.2.1=45))then
 (bif(!(decide (y.2.2.2.2.2.2.1=(ByteArray.mk (List.toArray [])))))then
 some (y.2.1,(IntKind.wrap .i64 (y.2.2.1+(IntKind.wrap .i64 (0-y.2.2.2.2.2.1)))),(decide (y.2.2.2.2.2.2.2.2.2.2.1=(ByteArray.size y.1:Int))))
 else
  some (y.2.1,(IntKind.wrap .i64 (y.2.2.1+(IntKind.wrap .i64 (0-y.2.2.2.2.2.1)))),false))
 else
  (bif(!(decide (y.2.2.2.2.2.2.1=(ByteArray.mk (List.toArray [])))))then
  some (y.2.1,(IntKind.wrap .i64 (y.2.2.1+y.2.2.2.2.2.1)),(decide (y.2.2.2.2.2.2.2.2.2.2.1=(ByteArray.size y.1:Int))))
 else
  some (y.2.1,(IntKind.wrap .i64 (y.2.2.1+y.2.2.2.2.2.1)),false)))
 else
  (bif(decide (y.2.2.2.2.1=45))then
  some (y.2.1,(IntKind.wrap .i64 (y.2.2.1+(IntKind.wrap .i64 (0-y.2.2.2.2.2.1)))),false)
 else
  some (y.2.1,(IntKind.wrap .i64 (y.2.2.1+y.2.2.2.2.2.1)),false)))
 else none)
def ptF(s D:ByteArray)(pw:Int)(ok:Bool)(e:Int):Option (ByteArray×Int×Bool) :=
 (bif ok then some (D,pw,(decide (e=(ByteArray.size s:Int))))else some (D,pw,false))
def ptT(fu:Nat)(s D:ByteArray)(pw:Int)(ok:Bool)(rs:ByteArray)(ri:Int):Option (ByteArray×Int×Bool) :=
 (bif(decide (ri<(ByteArray.size rs:Int)))then
 (bif(decide (0≤ri))then
 ((rs)[ri.toNat]?).bind fun x8=>
 (bif(decide (0≤(yf (UInt8.ofNat (Int.toNat (UInt8.toNat x8:Int))) (lb (ByteArray.mk (List.toArray [101,69]))))))then
 (bif(decide (0≤(IntKind.wrap .i64 ((IntKind.wrap .i64 (ri+1))-1))))then
 ((rs)[(Int.toNat (IntKind.wrap .i64 ((IntKind.wrap .i64 (ri+1))-1)))]?).bind fun x9=>
 (bif(!(decide ((UInt8.toNat x9:Int)=0)))then
 (bif(decide ((IntKind.wrap .i64 (ri+1))<(ByteArray.size rs:Int)))then
 (bif(decide (0≤(IntKind.wrap .i64 (ri+1))))then
 ((rs)[(Int.toNat (IntKind.wrap .i64 (ri+1)))]?).bind fun x10=>
 (bif(decide (0≤(yf (UInt8.ofNat (Int.toNat (UInt8.toNat x10:Int))) (lb (ByteArray.mk (List.toArray [43,45]))))))then
 (bif(decide (0≤(IntKind.wrap .i64 ((IntKind.wrap .i64 ((IntKind.wrap .i64 (ri+1))+1))-1))))then
 ((rs)[(Int.toNat (IntKind.wrap .i64 ((IntKind.wrap .i64 ((IntKind.wrap .i64 (ri+1))+1))-1)))]?).bind fun x11=>
 ptP fu s D pw ok (UInt8.toNat x11:Int) rs (IntKind.wrap .i64 ((IntKind.wrap .i64 (ri+1))+1))
 else none)
 else ptP fu s D pw ok 0 rs (IntKind.wrap .i64 (ri+1)))
 else none)
 else ptP fu s D pw ok 0 rs (IntKind.wrap .i64 (ri+1)))
 else ptF s D pw ok (IntKind.wrap .i64 (ri+1)))
 else none)
 else ptF s D pw ok ri)
 else none)
 else ptF s D pw ok ri)
def ptH(fu:Nat)(s rs D:ByteArray)(ri:Int):Option (ByteArray×Int×Bool) :=
 (itP fu (Q1) ((IntKind.wrap .i64 (ri+1)),rs,(IntKind.wrap .i64 (ri+1)),())).bind fun x7=>
 (bif(((decide (0≤x7.1))&&(decide (x7.1≤x7.2.2.1)))&&(decide (x7.2.2.1≤(ByteArray.size x7.2.1:Int))))then
 (bif(!(decide (D=(ByteArray.mk (List.toArray [])))))then
 (bif(Nat.ble ((ByteArray.size D)+(ByteArray.size (ByteArray.extract x7.2.1 x7.1.toNat x7.2.2.1.toNat))) 549755813888)then
 ptT fu s (D++(ByteArray.extract x7.2.1 x7.1.toNat x7.2.2.1.toNat)) (IntKind.wrap .i64 (0-(((ByteArray.size (ByteArray.extract x7.2.1 x7.1.toNat x7.2.2.1.toNat)):Nat):Int))) (!(decide ((ByteArray.extract x7.2.1 x7.1.toNat x7.2.2.1.toNat)=(ByteArray.mk (List.toArray []))))) x7.2.1 x7.2.2.1
 else none)
 else
  (bif(Nat.ble ((ByteArray.size D)+(ByteArray.size (ByteArray.extract x7.2.1 x7.1.toNat x7.2.2.1.toNat))) 549755813888)then
  ptT fu s (D++(ByteArray.extract x7.2.1 x7.1.toNat x7.2.2.1.toNat)) (IntKind.wrap .i64 (0-(((ByteArray.size (ByteArray.extract x7.2.1 x7.1.toNat x7.2.2.1.toNat)):Nat):Int))) false x7.2.1 x7.2.2.1
 else none))
 else none)
def qpR(fu:Nat)(s:ByteArray):Option (ByteArray×Int×Bool) :=
 (itP fu (Q1) ((0:Int),s,(0:Int),())).bind fun x2=>
 (bif(((decide (0≤x2.1))&&(decide (x2.1≤x2.2.2.1)))&&(decide (x2.2.2.1≤(ByteArray.size x2.2.1:Int))))then
 (bif(decide (x2.2.2.1<(ByteArray.size x2.2.1:Int)))then
 (bif(decide (0≤x2.2.2.1))then
 ((x2.2.1)[x2.2.2.1.toNat]?).bind fun x3=>
 (bif(decide (0≤(yf (UInt8.ofNat (Int.toNat (UInt8.toNat x3:Int))) (lb (ByteArray.mk (List.toArray [46]))))))then
 (bif(decide (0≤(IntKind.wrap .i64 ((IntKind.wrap .i64 (x2.2.2.1+1))-1))))then
 ((x2.2.1)[(Int.toNat (IntKind.wrap .i64 ((IntKind.wrap .i64 (x2.2.2.1+1))-1)))]?).bind fun x4=>
 (bif(!(decide ((UInt8.toNat x4:Int)=0)))then
 ptH fu s x2.2.1 (ByteArray.extract x2.2.1 x2.1.toNat x2.2.2.1.toNat) x2.2.2.1
 else ptT fu s (ByteArray.extract x2.2.1 x2.1.toNat x2.2.2.1.toNat) 0 (!(decide ((ByteArray.extract x2.2.1 x2.1.toNat x2.2.2.1.toNat)=(ByteArray.mk (List.toArray []))))) x2.2.1 (IntKind.wrap .i64 (x2.2.2.1+1)))
 else none)
 else ptT fu s (ByteArray.extract x2.2.1 x2.1.toNat x2.2.2.1.toNat) 0 (!(decide ((ByteArray.extract x2.2.1 x2.1.toNat x2.2.2.1.toNat)=(ByteArray.mk (List.toArray []))))) x2.2.1 x2.2.2.1)
 else none)
 else ptT fu s (ByteArray.extract x2.2.1 x2.1.toNat x2.2.2.1.toNat) 0 (!(decide ((ByteArray.extract x2.2.1 x2.1.toNat x2.2.2.1.toNat)=(ByteArray.mk (List.toArray []))))) x2.2.1 x2.2.2.1)
 else none)
def rnL(S:List UInt8)(i:Nat):List UInt8:=(S.drop i).takeWhile isD
def rn(S:List UInt8)(i:Nat):Nat:=i+(rnL S i).length
theorem J5{S:List UInt8}{i:Nat}{c:UInt8}(h:S[i]?=some c)(hc:isD c=true):rnL S i=c::rnL S (i+1):=by
 obtain⟨hi,e⟩:=zn.1 h
 unfold rnL;rw[zG hi,e,VI,hc];rfl
theorem Js{S:List UInt8}{i:Nat}(h:∀c,S[i]?=some c→isD c=false):rnL S i=[]:=by
 unfold rnL;by_cases hi:i<S.length
 · rw[zG hi,VI,h _ (zl hi)];rfl
 · rw[VW (by omega)];rfl
theorem qbn(S:List UInt8)(i:Nat):i≤rn S i:=by unfold rn;omega
theorem QO{S:List UInt8}{i:Nat}(h:i≤S.length):rn S i≤S.length:=by
 have:(rnL S i).length≤(S.drop i).length:=List.Sublist.length_le (List.takeWhile_sublist _)
 rw[Kl]at this;unfold rn;omega
theorem qes(S:List UInt8)(i:Nat):(bs S).extract i (rn S i)=bs (rnL S i):=by
 rw[jZ]
 congr 1
 unfold rn;rw[K4];have h:rnL S i <+: S.drop i:=List.takeWhile_prefix _
 exact(Wl.1 h).symm
theorem qat(S:List UInt8)(i:Nat):∀c∈rnL S i,isD c=true:=fun c h=>by
 have:=List.all_takeWhile (p:=isD) (l:=S.drop i)
 exact zX.1 this c h
theorem qyV{S:List UInt8}(hS:S.length≤1000000)(a:Int):∀(d i:Nat),i+d=S.length→je (d+1) Q1 (a,bs S,(i:Int),()) (a,bs S,((rn S i:Nat):Int),()):=fun d=>by
 induction d with
 | zero=>
  intro i hi;have e:rn S i=i:=by unfold rn;rw[Js fun c h=>by rw[zA (by omega)]at h;cases h];rfl
  rw[e];refine je.stop ?_
  unfold Q1;simp only[qe];rw[zi (by omega)];rfl
 | succ d ih=>
  intro i hi;obtain⟨c,hc⟩:∃c,S[i]?=some c:=⟨_,zl (by omega)⟩
  have w:IntKind.i64.wrap ((i:Int)+1)=((i+1:Nat):Int):=by rw[w64 (by omega) (by omega)];omega
  cases hd:isD c with
  | true=>
   have e:rn S i=rn S (i+1):=by unfold rn;rw[J5 hc hd,zy];omega
   have hcc:=jP.1 hd;rw[e];refine je.next ?_ (ih (i+1) (by omega))
   unfold Q1;simp only[qe,zg,qW,hc,zd,w];rw[za (by omega),za (by omega),za (by omega),za (by omega)];rfl
  | false=>
   have e:rn S i=i:=by unfold rn;rw[Js fun c' h=>by rw[hc]at h;cases h;exact hd];rfl
   have hcc : ¬(48≤c.toNat∧c.toNat≤57):=fun h=>by rw[jP.2 h]at hd;cases hd
   rw[e];refine(je.stop (K:=d+1) ?_)
   unfold Q1;simp only[qe,zg,qW,hc,zd];rw[za (by omega),za (by omega)];by_cases h1:48≤c.toNat
   · rw[za (show(48:Int)≤((c.toNat:Nat):Int) by omega),zi (show¬((c.toNat:Nat):Int)≤57 by omega)];rfl
   · rw[zi (show¬(48:Int)≤((c.toNat:Nat):Int) by omega)];rfl
def exV(E:List UInt8):Nat:=E.foldl (fun p c=>min (p*10+(c.toNat-48)) 100000) 0
theorem qet(E:List UInt8)(c:UInt8):exV (E++[c])=min (exV E*10+(c.toNat-48)) 100000:=by
 unfold exV;rw[List.foldl_append];rfl
theorem qeu(E:List UInt8):exV E≤100000:=by
 rcases List.eq_nil_or_concat E with h | ⟨A,c,h⟩
 · subst h;decide
 · rw[h,List.concat_eq_append,qet];omega
abbrev P4:=ByteArray×(ByteArray×Int×Bool×Int×Int×ByteArray×Int×Int×ByteArray×Int×Unit)
abbrev p4(s D:ByteArray)(pw:Int)(ok:Bool)(sg p:Int)(E:List UInt8)(i:Nat)(rs:ByteArray)(ri:Int):P4:=(s,D,pw,ok,sg,p,bs E,((E.length:Nat):Int),(i:Int),rs,ri,())
theorem qyW{E:List UInt8}(hE:E.length≤1000000)(hD:∀c∈E,isD c=true)(s D:ByteArray)(pw:Int)(ok:Bool)(sg:Int)(rs:ByteArray)(ri:Int) :
 ∀(d:Nat) (A B:List UInt8),A++B=E→B.length=d→je (d+1) qbm (p4 s D pw ok sg ((exV A:Nat):Int) E A.length rs ri) (p4 s D pw ok sg ((exV E:Nat):Int) E E.length rs ri):=fun d=>by
 induction d with
 | zero=>
  intro A B h hB;have:B=[]:=KD.1 hB
  subst this;rw[KV]at h;subst h;refine je.stop ?_
  unfold qbm;simp only[p4];rw[zi (by omega)];rfl
 | succ d ih=>
  intro A B h hB;cases B with
  | nil=>cases hB
  | cons c B=>
   have hl:A.length+(B.length+1)=E.length:=by rw[← h];simp
   have hc:E[A.length]?=some c:=by rw[← h,zO (zw _),Vz];rfl
   have hcD:=jP.1 (hD c (by rw[← h];simp))
   have hx:=qeu A;have ih':=ih (A++[c]) B (by rw[zZ];exact h) (by simpa using hB)
   rw[qet,zJ,Vp]at ih';refine je.next ?_ ih'
   have w:IntKind.i64.wrap (((A.length:Nat):Int)+1)=((A.length+1:Nat):Int):=by rw[w64 (by omega) (by omega)];omega
   have w1:IntKind.u8.wrap (((c.toNat:Nat):Int)-48)=((c.toNat-48:Nat):Int):=by
    rw[show(((c.toNat:Nat):Int)-48)=((c.toNat-48:Nat):Int) by omega];exact yB (by unfold inR;simp;exact⟨by show(0:Int)≤_;omega,by show _≤(255:Int);omega⟩)
   have w2:IntKind.i64.wrap (((exV A:Nat):Int)*10)=((exV A:Nat):Int)*10:=w64 (by omega) (by omega)
   have w3:IntKind.i64.wrap ((c.toNat-48:Nat):Int)=((c.toNat-48:Nat):Int):=w64 (by omega) (by omega)
   have w4:IntKind.i64.wrap (((exV A:Nat):Int)*10+((c.toNat-48:Nat):Int))=((exV A:Nat):Int)*10+((c.toNat-48:Nat):Int):=w64 (by omega) (by omega)
   have em:min (((exV A:Nat):Int)*10+((c.toNat-48:Nat):Int)) 100000=((min (exV A*10+(c.toNat-48)) 100000:Nat):Int):=by omega
   unfold qbm;simp only[p4,zg,qW,hc,zd,w,w1,w2,w3,w4,em];rw[za (by omega),za (by omega)];rfl
def ptA(S:List UInt8):List UInt8×Int×Bool×Nat :=
 if S[rn S 0]?=some 46 then(rnL S 0++rnL S (rn S 0+1),-((rnL S (rn S 0+1)).length:Int),decide (rnL S 0≠[])&&decide (rnL S (rn S 0+1)≠[]),rn S (rn S 0+1))
 else(rnL S 0,0,decide (rnL S 0≠[]),rn S 0)
def ptB(S:List UInt8)(a:List UInt8×Int×Bool×Nat):List UInt8×Int×Bool :=
 if S[a.2.2.2]?=some 101∨S[a.2.2.2]?=some 69 then
  let k:=if S[a.2.2.2+1]?=some 43∨S[a.2.2.2+1]?=some 45 then a.2.2.2+2 else a.2.2.2+1
  (a.1,a.2.1+(if S[a.2.2.2+1]?=some 45 then -((exV (rnL S k):Nat):Int)else((exV (rnL S k):Nat):Int)),a.2.2.1&&(decide (rnL S k≠[])&&decide (rn S k=S.length)))
 else(a.1,a.2.1,a.2.2.1&&decide (a.2.2.2=S.length))
def ptL(S:List UInt8):List UInt8×Int×Bool:=ptB S (ptA S)
theorem bdN{α:Type}(x:Bool)(a b:α):(bif !x then a else b)=bif x then b else a:=by cases x <;> rfl
theorem qpS{S:List UInt8}{i:Nat}{c:UInt8}(h:S[i]?=some c):i<S.length:=by
 obtain⟨hi,_⟩:=zn.1 h;exact hi
theorem qev(c:UInt8):∀l,0≤yf c l↔c∈l
 | []=>by simp[yf]
 | b::l=>by
  have ih:=qev c l;have lo:=(ZH c l).1
  unfold yf;rw[zN];cases h:b == c with
  | true=>
   have:b=c:=by simpa using h
   simp[this]
  | false=>
   have hne : ¬c=b:=fun e=>by subst e;simp at h
   simp only[zj];by_cases h1:yf c l = -1
   · rw[za h1,zf]
     constructor
     · intro h;omega
     · rintro(e | e)
       · exact absurd e hne
       · have:=ih.2 e;omega
   · rw[zi h1,zj]
     constructor
     · intro _;exact .inr (ih.1 (by omega))
     · intro _;omega
theorem idE(c:UInt8)(l:List UInt8):decide (0≤yf (UInt8.ofNat c.toNat) (lb (ByteArray.mk (List.toArray l))))=decide (c∈l):=by
 rw[Vh,qcO,jB];exact Wh.2 (qev c l)
theorem pR1{S:List UInt8}(hS:S.length≤1000000)(a:Int)(i:Nat)(hi:i≤S.length):itP 2000000 Q1 (a,bs S,(i:Int),())=some (a,bs S,((rn S i:Nat):Int),()) :=
 qyV hS a (S.length-i) i (by omega) _ (by omega)
theorem pR4{S:List UInt8}(hS:S.length≤1000000)(i:Nat)(D:ByteArray)(pw:Int)(ok:Bool)(sg:Int)(rs:ByteArray)(ri:Int)(hi:i≤S.length):itP 2000000 qbm (p4 (bs S) D pw ok sg 0 (rnL S i) 0 rs ri)=some (p4 (bs S) D pw ok sg ((exV (rnL S i):Nat):Int) (rnL S i) (rnL S i).length rs ri):=by
 have hE:=QO hi;unfold rn at hE;exact qyW (E:=rnL S i) (by omega) (qat S i) (bs S) D pw ok sg rs ri (rnL S i).length [] (rnL S i) rfl rfl _ (by omega)
theorem qhf(l:List UInt8):decide (bs l=ByteArray.mk (List.toArray []))=decide (l=[]):=qg8 l []
theorem qBA{S:List UInt8}(hS:S.length≤1000000)(D:List UInt8){pw:Int}(h1 : -1000000≤pw)(h2:pw≤0)(ok:Bool)(sg:Int){k:Nat}(hk:k≤S.length) :
 ptP 2000000 (bs S) (bs D) pw ok sg (bs S) ((k:Nat):Int)=some (bs D,pw+(if sg=45 then -((exV (rnL S k):Nat):Int)else((exV (rnL S k):Nat):Int)),ok&&(decide (rnL S k≠[])&&decide (rn S k=S.length))):=by
 have j1:=QO hk;have j2:=qbn S k;have hx:=qeu (rnL S k)
 unfold ptP;refine(congrArg (fun o=>Option.bind o _) (pR1 hS _ k hk)).trans ?_
 simp only[zd,qe,zg,qes];rw[za (show(0:Int)≤((k:Nat):Int) by omega),za (show((k:Nat):Int)≤((rn S k:Nat):Int) by omega),za (show((rn S k:Nat):Int)≤((S.length:Nat):Int) by omega)];simp only[z7,zf];refine(congrArg (fun o=>Option.bind o _) (pR4 hS k (bs D) pw ok sg (bs S) ((rn S k:Nat):Int) hk)).trans ?_
 have w1:IntKind.i64.wrap (0-((exV (rnL S k):Nat):Int)) = -((exV (rnL S k):Nat):Int):=by rw[w64 (by omega) (by omega)];omega
 have w2:IntKind.i64.wrap (pw+-((exV (rnL S k):Nat):Int))=pw+-((exV (rnL S k):Nat):Int):=w64 (by omega) (by omega)
 have w3:IntKind.i64.wrap (pw+((exV (rnL S k):Nat):Int))=pw+((exV (rnL S k):Nat):Int):=w64 (by omega) (by omega)
 have dl:decide (((rn S k:Nat):Int)=((S.length:Nat):Int))=decide (rn S k=S.length):=Wh.2 ⟨fun h=>by omega,fun h=>by omega⟩
 simp only[p4,zd,qe,w1,w2,w3,dl,qhf];by_cases h45:sg=45
 · rw[za h45,zr h45]
   by_cases h0:rnL S k=[]
   · rw[za h0,show decide (rnL S k≠[])=false from zi (fun h=>h h0)];cases ok <;> rfl
   · rw[zi h0,show decide (rnL S k≠[])=true from za h0];cases ok <;> rfl
 · rw[zi h45,zp h45]
   by_cases h0:rnL S k=[]
   · rw[za h0,show decide (rnL S k≠[])=false from zi (fun h=>h h0)];cases ok <;> rfl
   · rw[zi h0,show decide (rnL S k≠[])=true from za h0];cases ok <;> rfl
theorem qBB(S D:List UInt8)(pw:Int)(ok:Bool)(e:Nat):ptF (bs S) (bs D) pw ok ((e:Nat):Int)=some (bs D,pw,ok&&decide (e=S.length)):=by
 unfold ptF;rw[qe,show decide (((e:Nat):Int)=((S.length:Nat):Int))=decide (e=S.length) from Wh.2 ⟨fun h=>by omega,fun h=>by omega⟩];cases ok <;> rfl
theorem ne0{c:UInt8}{l:List UInt8}(h:c∈l)(hl:∀c∈l,c.toNat≠0):decide (((c.toNat:Nat):Int)=0)=false:=zi (by have:=hl c h;omega)
theorem qpT{S:List UInt8}(hS:S.length≤1000000)(D:List UInt8){pw:Int}(h1 : -1000000≤pw)(h2:pw≤0)(ok:Bool){j:Nat}(hj:j≤S.length) :
 ptT 2000000 (bs S) (bs D) pw ok (bs S) (j:Int)=some (bs (ptB S (D,pw,ok,j)).1,(ptB S (D,pw,ok,j)).2.1,(ptB S (D,pw,ok,j)).2.2):=by
 have w1:IntKind.i64.wrap ((j:Int)+1)=((j+1:Nat):Int):=by rw[w64 (by omega) (by omega)];omega
 have w2:IntKind.i64.wrap (((j+1:Nat):Int)+1)=((j+2:Nat):Int):=by rw[w64 (by omega) (by omega)];omega
 have v1:IntKind.i64.wrap (((j+1:Nat):Int)-1)=(j:Int):=by rw[w64 (by omega) (by omega)];omega
 have v2:IntKind.i64.wrap (((j+2:Nat):Int)-1)=((j+1:Nat):Int):=by rw[w64 (by omega) (by omega)];omega
 have z:∀n:Nat,decide ((0:Int)≤((n:Nat):Int))=true:=fun n=>za (by omega)
 unfold ptT;simp only[w1,w2,v1,v2,z,qe,zg,qW,zf,idE];have no : ¬(S[j]?=some 101∨S[j]?=some 69)→ptF (bs S) (bs D) pw ok (j:Int)=some (bs (ptB S (D,pw,ok,j)).1,(ptB S (D,pw,ok,j)).2.1,(ptB S (D,pw,ok,j)).2.2):=fun h=>by
  unfold ptB;rw[zp h];exact qBB S D pw ok j
 have go:∀(k:Nat) (sg:Int),k≤S.length→(S[j]?=some 101∨S[j]?=some 69)→(if S[j+1]?=some 43∨S[j+1]?=some 45 then j+2 else j+1)=k→(sg=45↔S[j+1]?=some 45) →
  ptP 2000000 (bs S) (bs D) pw ok sg (bs S) ((k:Nat):Int)=some (bs (ptB S (D,pw,ok,j)).1,(ptB S (D,pw,ok,j)).2.1,(ptB S (D,pw,ok,j)).2.2):=fun k sg hk he hK hs=>by
  rw[qBA hS D h1 h2 ok sg hk];unfold ptB;rw[zr he];dsimp only;rw[hK];by_cases h45:sg=45
  · rw[zr h45,zr (hs.1 h45)]
  · rw[zp h45,zp (fun h=>h45 (hs.2 h))]
 by_cases hl:j<S.length
 · obtain⟨c,hc⟩:∃c,S[j]?=some c:=⟨_,zl hl⟩
   rw[za (show(j:Int)<((S.length:Nat):Int) by omega),zf];simp only[hc,zd];by_cases he:c∈[101,69]
   · have he':S[j]?=some 101∨S[j]?=some 69:=by
      rw[hc];simp only[zN,Ko,or_false]at he;rcases he with rfl | rfl
      · exact .inl rfl
      · exact .inr rfl
     rw[za he,zf,ne0 he (by decide),VF,zf];by_cases hl2:j+1<S.length
     · obtain⟨d,hd⟩:∃d,S[j+1]?=some d:=⟨_,zl hl2⟩
       rw[za (show((j+1:Nat):Int)<((S.length:Nat):Int) by omega),zf];simp only[hd,zd];by_cases hs:d∈[43,45]
       · rw[za hs,zf]
         simp only[zN,Ko,or_false]at hs;refine go (j+2) _ (by omega) he' ?_ ?_
         · rw[hd,zr]
           rcases hs with rfl | rfl
           · exact .inl rfl
           · exact .inr rfl
         · rw[hd]
           rcases hs with rfl | rfl
           · exact⟨fun h=>absurd h (by decide),fun h=>absurd h (by decide)⟩
           · exact⟨fun _=>rfl,fun _=>rfl⟩
       · rw[zi hs,zj]
         simp only[zN,Ko,or_false,not_or]at hs;refine go (j+1) 0 (by omega) he' ?_ ?_
         · rw[hd,zp]
           rintro(h | h)
           · exact hs.1 (Ke h)
           · exact hs.2 (Ke h)
         · rw[hd]
           exact⟨fun h=>absurd h (by decide),fun h=>absurd (Ke h) hs.2⟩
     · rw[zi (show¬((j+1:Nat):Int)<((S.length:Nat):Int) by omega),zj]
       have hn:S[j+1]?=none:=zA (by omega)
       refine go (j+1) 0 (by omega) he' ?_ ?_
       · rw[hn,zp (by rintro(h | h) <;> cases h)]
       · rw[hn];exact⟨fun h=>absurd h (by decide),fun h=>by cases h⟩
   · rw[zi he,zj]
     simp only[zN,Ko,or_false,not_or]at he;refine no ?_
     rw[hc]
     rintro(h | h)
     · exact he.1 (Ke h)
     · exact he.2 (Ke h)
 · rw[zi (show¬(j:Int)<((S.length:Nat):Int) by omega),zj]
   exact no (by rw[zA (show S.length≤j by omega)];rintro(h | h) <;> cases h)
theorem qyX{S:List UInt8}(hS:S.length≤1000000):qpR 2000000 (bs S)=some (bs (ptL S).1,(ptL S).2.1,(ptL S).2.2):=by
 have j0:=QO (S:=S) (i:=0) (by omega)
 have w1:IntKind.i64.wrap (((rn S 0:Nat):Int)+1)=((rn S 0+1:Nat):Int):=by rw[w64 (by omega) (by omega)];omega
 have v1:IntKind.i64.wrap (((rn S 0+1:Nat):Int)-1)=((rn S 0:Nat):Int):=by rw[w64 (by omega) (by omega)];omega
 have z:∀n:Nat,decide ((0:Int)≤((n:Nat):Int))=true:=fun n=>za (by omega)
 have r0:itP 2000000 Q1 ((0:Int),bs S,(0:Int),())=some ((0:Int),bs S,((rn S 0:Nat):Int),()):=pR1 hS 0 0 (by omega)
 have e0:(bs S).extract (Int.toNat 0) (rn S 0)=bs (rnL S 0):=qes S 0
 have nn:∀l:List UInt8,(!decide (l=[]))=decide (l≠[]):=fun l=>by cases l <;> rfl
 unfold qpR;rw[r0];simp only[zd,qe,zg,w1,v1,z,qW,idE,qhf,nn,zf,z7,e0,show decide ((0:Int)≤0)=true from rfl,za (show((rn S 0:Nat):Int)≤((S.length:Nat):Int) by omega)];have np : ¬S[rn S 0]?=some 46→ptT 2000000 (bs S) (bs (rnL S 0)) 0 (decide (rnL S 0≠[])) (bs S) ((rn S 0:Nat):Int)=some (bs (ptL S).1,(ptL S).2.1,(ptL S).2.2):=fun h=>by
  rw[qpT hS _ (by omega) (by omega) _ j0];unfold ptL ptA;rw[zp h]
 by_cases hl:rn S 0<S.length
 · obtain⟨c,hc⟩:∃c,S[rn S 0]?=some c:=⟨_,zl hl⟩
   rw[za (show((rn S 0:Nat):Int)<((S.length:Nat):Int) by omega),zf];simp only[hc,zd];by_cases h46:c∈[46]
   · rw[za h46,zf,ne0 h46 (by decide),VF,zf]
     have hc':S[rn S 0]?=some 46:=by rw[hc];simpa using h46
     have j1:=QO (S:=S) (i:=rn S 0+1) (by omega)
     have j2:=qbn S (rn S 0+1)
     have e2:rn S (rn S 0+1)=rn S 0+1+(rnL S (rn S 0+1)).length:=rfl
     have e3:rn S 0=(rnL S 0).length:=by unfold rn;omega
     have w2:IntKind.i64.wrap (0-(((rnL S (rn S 0+1)).length:Nat):Int)) = -(((rnL S (rn S 0+1)).length:Nat):Int):=by rw[w64 (by omega) (by omega)];omega
     unfold ptH;rw[w1,pR1 hS _ (rn S 0+1) (by omega)];simp only[zd,qe,zg,qes,z,qhf,nn,qpF,w2,z7,za (show((rn S 0+1:Nat):Int)≤((rn S (rn S 0+1):Nat):Int) by omega),za (show((rn S (rn S 0+1):Nat):Int)≤((S.length:Nat):Int) by omega),zf];rw[zo (show(rnL S 0).length+(rnL S (rn S 0+1)).length≤549755813888 by omega),zf,zf,qpT hS _ (by omega) (by omega) _ j1,qpT hS _ (by omega) (by omega) _ j1];unfold ptL ptA;rw[zr hc'];by_cases h0:rnL S 0=[]
     · rw[show decide (rnL S 0≠[])=false from zi (fun h=>h h0)];rfl
     · rw[show decide (rnL S 0≠[])=true from za h0];rfl
   · rw[zi h46,zj]
     exact np (by rw[hc];intro h;exact h46 (by rw[Ke h];simp))
 · rw[zi (show¬((rn S 0:Nat):Int)<((S.length:Nat):Int) by omega),zj]
   exact np (by rw[zA (show S.length≤rn S 0 by omega)];intro h;cases h)
def qcb(s:ByteArray):Option (ByteArray×Int×Bool):=bif Nat.ble (lb s).length 1000000 then some (bs (ptL (lb s)).1,(ptL (lb s)).2.1,(ptL (lb s)).2.2)else none
theorem quQ(s:ByteArray)(y:ByteArray×Int×Bool)(hg:(d1 cS).good s)(h:qcb s=some y):∃n,qpR n s=some y:=by
 refine⟨2000000,?_⟩
 revert h;refine onB (P:=fun s=>qcb s=some y→qpR 2000000 s=some y) (fun S h=>?_) s
 obtain⟨h1,h2⟩:=qi h;have:=soi h2;subst this
 exact qyX (zm h1)
end
end Su
end
section
namespace Su
open Go Fly
noncomputable section
def quR  (s:ByteArray):Option (Int×Int) :=
 (bif(decide (400<(ByteArray.size s:Int)))then
 some ((0:Int),(81:Int))
 else
  (qcb s).bind fun x0=>
  (bif(!x0.2.2)then
  some ((0:Int),(80:Int))
 else
  (bif(decide (x0.1=(ByteArray.mk (List.toArray []))))then
  (bif(decide (x0.1=(ByteArray.mk (List.toArray []))))then
  (bif(decide (x0.1=(ByteArray.mk (List.toArray []))))then
  some ((0:Int),(0:Int))
 else
  (bif(decide (320<(IntKind.wrap .i64 ((ByteArray.size x0.1:Int)+x0.2.1))))then
  some ((0:Int),(82:Int))
 else
  (yR x0.2.1).bind fun x1=>
  (yV ((bif(Nat.ble (List.length (lb x0.1)) 20000)then(bif(List.isEmpty (lb x0.1))then([],(22:Int))else(bif(List.all (lb x0.1) (isD))then((ofN (dv (lb x0.1))),(0:Int))else([],(22:Int))))else([],(20:Int))).1,x1)).bind fun x2=>
  (yR (IntKind.wrap .i64 (0-x0.2.1))).bind fun x3=>
  (Q0 (false,x2,x3,(0:Int))).bind fun x4=>
  (bif(decide (x4.1=((9218868437227405312:Nat):Int)))then
  some ((0:Int),(82:Int))
 else
  some (x4.1,(0:Int)))))
 else
  (bif(decide ((IntKind.wrap .i64 ((ByteArray.size x0.1:Int)+x0.2.1))<(-325)))then
  some ((0:Int),(0:Int))
 else
  (bif(decide (320<(IntKind.wrap .i64 ((ByteArray.size x0.1:Int)+x0.2.1))))then
  some ((0:Int),(82:Int))
 else
  (yR x0.2.1).bind fun x5=>
  (yV ((bif(Nat.ble (List.length (lb x0.1)) 20000)then(bif(List.isEmpty (lb x0.1))then([],(22:Int))else(bif(List.all (lb x0.1) (isD))then((ofN (dv (lb x0.1))),(0:Int))else([],(22:Int))))else([],(20:Int))).1,x5)).bind fun x6=>
  (yR (IntKind.wrap .i64 (0-x0.2.1))).bind fun x7=>
  (Q0 (false,x6,x7,(0:Int))).bind fun x8=>
  (bif(decide (x8.1=((9218868437227405312:Nat):Int)))then
  some ((0:Int),(82:Int))
 else
  some (x8.1,(0:Int))))))
 else
  (qiI (x0.1,((48:Nat):Int))).bind fun x9=>
  (bif(decide (x9=(ByteArray.mk (List.toArray []))))then
  (bif(decide (x9=(ByteArray.mk (List.toArray []))))then
  some ((0:Int),(0:Int))
 else
  (bif(decide (320<(IntKind.wrap .i64 ((ByteArray.size x9:Int)+x0.2.1))))then
  some ((0:Int),(82:Int))
 else
  (yR x0.2.1).bind fun x10=>
  (yV ((bif(Nat.ble (List.length (lb x9)) 20000)then(bif(List.isEmpty (lb x9))then([],(22:Int))else(bif(List.all (lb x9) (isD))then((ofN (dv (lb x9))),(0:Int))else([],(22:Int))))else([],(20:Int))).1,x10)).bind fun x11=>
  (yR (IntKind.wrap .i64 (0-x0.2.1))).bind fun x12=>
  (Q0 (false,x11,x12,(0:Int))).bind fun x13=>
  (bif(decide (x13.1=((9218868437227405312:Nat):Int)))then
  some ((0:Int),(82:Int))
 else
  some (x13.1,(0:Int)))))
 else
  (bif(decide ((IntKind.wrap .i64 ((ByteArray.size x9:Int)+x0.2.1))<(-325)))then
  some ((0:Int),(0:Int))
 else
  (bif(decide (320<(IntKind.wrap .i64 ((ByteArray.size x9:Int)+x0.2.1))))then
  some ((0:Int),(82:Int))
 else
  (yR x0.2.1).bind fun x14=>
  (yV ((bif(Nat.ble (List.length (lb x9)) 20000)then(bif(List.isEmpty (lb x9))then([],(22:Int))else(bif(List.all (lb x9) (isD))then((ofN (dv (lb x9))),(0:Int))else([],(22:Int))))else([],(20:Int))).1,x14)).bind fun x15=>
  (yR (IntKind.wrap .i64 (0-x0.2.1))).bind fun x16=>
  (Q0 (false,x15,x16,(0:Int))).bind fun x17=>
  (bif(decide (x17.1=((9218868437227405312:Nat):Int)))then
  some ((0:Int),(82:Int))
 else
  some (x17.1,(0:Int)))))))))
def qiM(t:List UInt8)(pw:Int):Int×Int :=
 if t=[]∨(t.length:Int)+pw < -325 then(0,0)else
 if 320<(t.length:Int)+pw then(0,82)else
 if qbk false 0 (dv t*pT pw) (pU pw)=9218868437227405312 then(0,82)else(((qbk false 0 (dv t*pT pw) (pU pw):Nat):Int),0)
def Qn(S:List UInt8):Int×Int :=
 if 400<S.length then(0,81)else
 if(ptL S).2.2=false then(0,80)else qiM ((ptL S).1.dropWhile (· == 48)) (ptL S).2.1
theorem qpU{t:List UInt8}{d:List UInt8}(h:d.dropWhile (· == 48)=t)(hd:∀c∈d,isD c=true)(ht:t≠[]):(∀c∈t,isD c=true)∧dv t≠0:=by
 have hs:∀c∈t,isD c=true:=fun c hc=>hd c (by rw[← h]at hc;exact(List.dropWhile_sublist _).mem hc)
 refine⟨hs,?_⟩
 cases t with
 | nil=>exact absurd rfl ht
 | cons c r=>
  have hc:(c == 48)=false:=by
   have:=List.head?_dropWhile_not (p:=(· == (48:UInt8))) (l:=d)
   rw[h]at this;simpa using this
  have hcD:=jP.1 (hs c zE)
  have hne:c.toNat≠48:=fun e=>by
   have:c=48:=KJ.1 e
   rw[this]at hc;cases hc
  have e:dv (c::r)=(c.toNat-48)*10^r.length+dv r:=by
   have:=qas [c] r
   have e1:dv [c]=c.toNat-48:=by unfold dv;simp
   rw[e1]at this;exact this
  rw[e];have:1*10^r.length≤(c.toNat-48)*10^r.length:=zu _ (by omega)
  have:=Nat.one_le_pow r.length 10 (by decide)
  omega
theorem qyY{t:List UInt8}{pw:Int}(hs:∀c∈t,isD c=true)(h0:dv t≠0)(hl:t.length≤400)(h1 : -325≤(t.length:Int)+pw)(h2:(t.length:Int)+pw≤320)(K:Int×Int→Option (Int×Int)) :
 ((yR pw).bind fun x1=>(yV (ofN (dv t),x1)).bind fun x2=>(yR (IntKind.i64.wrap (0-pw))).bind fun x3=>(Q0 (false,x2,x3,(0:Int))).bind K)=K (((qbk false 0 (dv t*pT pw) (pU pw):Nat):Int),qpI false 0 (dv t*pT pw) (pU pw)):=by
 have bn:qj (dv t)≤1601:=by have:=Jb (qfN t hs);omega
 have bt:qj (pT pw)≤1681:=bl_t (by omega)
 have bu:qj (pU pw)≤2941:=by have:=Qm (-pw).toNat;unfold pU;omega
 have bp:=J2 (dv t) (pT pw)
 have m1:=qlt (u:=dv t) (v:=pT pw) (by omega) (by omega)
 have w:IntKind.i64.wrap (0-pw) = -pw:=by rw[w64 (n:=0-pw) (by omega) (by omega)];omega
 rw[w];refine obs (qBy (by omega)) (obs m1 (obs (qBz (by omega)) ?_))
 have hm:dv t*pT pw≠0:=Nat.mul_ne_zero h0 (by have:=qpO pw;omega)
 have hu:pU pw≠0:=by have:=qj6 pw;omega
 have p1:=jE hm;have p2:=jE hu;refine obs ?_ rfl
 unfold Q0;simp only[valN_ofN];rw[qcV hm,qcV hu,qly _ (by omega),qly _ (by omega),zo (show qj (dv t*pT pw)≤40000 by omega),zo (show qj (pU pw)≤40000 by omega),za (show -4000≤jm (dv t*pT pw) (pU pw) by unfold jm;omega),za (show jm (dv t*pT pw) (pU pw)≤4000 by unfold jm;omega)];rfl
theorem qxa(S:List UInt8)(a:List UInt8×Int×Bool×Nat):(ptB S a).1=a.1:=by unfold ptB;split <;> rfl
theorem qlz(S:List UInt8):∀c∈(ptL S).1,isD c=true:=by
 unfold ptL;rw[qxa];unfold ptA;split
 · intro c hc
   rcases Kh.1 hc with h | h
   · exact qat S _ c h
   · exact qat S _ c h
 · exact qat S _
theorem qBC(S:List UInt8):(ptA S).1.length≤S.length∧-(S.length:Int)≤(ptA S).2.1∧(ptA S).2.1≤0:=by
 have j0:=QO (S:=S) (i:=0) (by omega)
 have e0:rn S 0=(rnL S 0).length:=by unfold rn;omega
 unfold ptA;split
 · rename_i h
   have hl:=qpS h;have j1:=QO (S:=S) (i:=rn S 0+1) (by omega)
   have e1:rn S (rn S 0+1)=rn S 0+1+(rnL S (rn S 0+1)).length:=rfl
   simp only[zJ];omega
 · simp only[]
   omega
theorem qBD(S:List UInt8)(a:List UInt8×Int×Bool×Nat):a.2.1-100000≤(ptB S a).2.1∧(ptB S a).2.1≤a.2.1+100000:=by
 unfold ptB;split
 · have h:∀k,exV (rnL S k)≤100000:=fun k=>qeu _
   simp only[];split
   · have:=h (if S[a.2.2.2+1]?=some 43∨S[a.2.2.2+1]?=some 45 then a.2.2.2+2 else a.2.2.2+1)
     constructor <;> omega
   · have:=h (if S[a.2.2.2+1]?=some 43∨S[a.2.2.2+1]?=some 45 then a.2.2.2+2 else a.2.2.2+1)
     constructor <;> omega
 · simp only[]
   omega
theorem qxb(S:List UInt8):(ptL S).1.length≤S.length∧-(S.length:Int)-100000≤(ptL S).2.1∧(ptL S).2.1≤100000:=by
 obtain⟨h1,h2,h3⟩:=qBC S;have h4:=qBD S (ptA S)
 unfold ptL;rw[qxa];omega
theorem qhg(l m:List UInt8):decide (bs l=ByteArray.mk (List.toArray m))=decide (l=m):=qg8 l m
theorem qyZ{l:List UInt8}(h:l.length≤400):qiI (bs l,((48:Nat):Int))=some (bs (l.dropWhile (· == 48))):=by
 unfold qiI;simp only[jB];rw[zo (by omega)];rfl
theorem quS{t:List UInt8}(hs:∀c∈t,isD c=true)(h0:t≠[])(hl:t.length≤400):(bif(Nat.ble t.length 20000)then(bif(List.isEmpty t)then([],(22:Int))else(bif(List.all t isD)then((ofN (dv t)),(0:Int))else([],(22:Int))))else([],(20:Int)))=(ofN (dv t),(0:Int)):=by
 rw[zo (by omega),zf,zX.2 hs];cases t with
 | nil=>exact absurd rfl h0
 | cons c r=>rfl
theorem ZK:okS []=true:=by rw[qj3];rfl
def qcc(s:ByteArray):Option (Int×Int):=bif okS []then some (Qn (lb s))else none
theorem qpV(s:ByteArray):qcc s=some (Qn (lb s)):=by unfold qcc;rw[ZK];rfl
theorem quT(s:ByteArray)(y:Int×Int)(hg:(d1 cS).good s)(h:qcc s=some y):quR s=some y:=by
 clear hg;rw[qpV]at h;revert h;refine onB (P:=fun s=>some (Qn (lb s))=some y→quR s=some y) (fun S h=>?_) s
 have:=soi h;subst this
 rw[jB];unfold quR Qn;rw[qe];by_cases c1:400<S.length
 · rw[zr c1,bdT (by omega)]
 rw[zp c1,bdF (by omega)];have hp:qcb (bs S)=some (bs (ptL S).1,(ptL S).2.1,(ptL S).2.2):=by unfold qcb;rw[jB,zo (by omega)];rfl
 refine obs hp ?_
 obtain⟨b1,b2,b3⟩:=qxb S;have hd:=qlz S;generalize ptL S=L at *
 obtain⟨d,pw,ok⟩:=L;simp only[qhg,jB,qe]at *
 cases ok with
 | false=>rfl
 | true=>
  rw[zp (by decide)];simp only[Wr,zj];by_cases e:d=[]
  · subst e
    rw[bdT rfl,bdT rfl,bdT rfl];unfold qiM;rw[zr (.inl rfl)]
  · rw[bdF e]
    refine obs (qyZ (by omega)) ?_
    have tl:(d.dropWhile (· == 48)).length≤d.length:=(List.dropWhile_sublist _).length_le
    have tp:=@qpU (d.dropWhile (· == 48)) d rfl hd
    generalize d.dropWhile (· == 48)=t at *
    simp only[qhg,jB,qe];unfold qiM;by_cases e2:t=[]
    · subst e2
      rw[zr (.inl rfl),bdT rfl,bdT rfl]
    · obtain⟨hs,h0⟩:=tp e2
      have w:IntKind.i64.wrap (((t.length:Nat):Int)+pw)=((t.length:Nat):Int)+pw:=w64 (by omega) (by omega)
      rw[bdF e2,w];by_cases a1:((t.length:Nat):Int)+pw < -325
      · rw[bdT a1,zr (.inr a1)]
      · rw[bdF a1,zp (by rintro(h | h);exact e2 h;exact a1 h)]
        by_cases a2:320<((t.length:Nat):Int)+pw
        · rw[bdT a2,zr a2]
        · rw[bdF a2,zp a2,quS hs e2 (by omega)]
          refine(qyY hs h0 (by omega) (by omega) (by omega) _).trans ?_
          by_cases a3:qbk false 0 (dv t*pT pw) (pU pw)=9218868437227405312
          · rw[zr a3]
            refine(bdT (by simp only[a3]) _ _)
          · rw[zp a3]
            refine(bdF (by simp only[Int.natCast_inj];exact a3) _ _)
end
end Su
end
section
namespace Su
open Go Fly
def wdP:List (List UInt8×Int):=[([116,105,99,107,115],1),([105,110,112,117,116],2),([118,97,114],3),([105,110,105,116],4),([115,116,101,112],5),([105,102],6),([101,108,115,101],7),([102,111,114],8),([116,114,117,101],9),([102,97,108,115,101],10),([105,110,116],11),([102,108,111,97,116],12),([98,111,111,108],13),([97,98,115],14),([105,110],15)]
def wdN(l:List UInt8):List (List UInt8×Int)→Int
 | []=>0
 | (k,v)::P=>if l=k then v else wdN l P
def Jt(l:List UInt8):Bool:=decide (0<wdN l wdP)
def qxc(s:ByteArray):Option Bool:=some (Jt (lb s))
abbrev Tk:=Int×Int×ByteArray×Int×Int
noncomputable def qcd(p:Tk×ByteArray×Bool):Option (Tk×Int) :=
 bif Nat.blt 400 p.2.1.size then some (p.1,91)else
 bif p.2.2 then(bif decide ((Qn (lb p.2.1)).2=0)then some ((3,p.1.2.1,p.1.2.2.1,p.1.2.2.2.1,(Qn (lb p.2.1)).1),0)else some (p.1,93))else
 bif !(lb p.2.1).isEmpty&&(lb p.2.1).all isD then(bif Nat.blt 2147483647 (dv (lb p.2.1))then some (p.1,92)else some ((2,p.1.2.1,p.1.2.2.1,((dv (lb p.2.1):Nat):Int),p.1.2.2.2.2),0))else none
def qew(p:ByteArray×ByteArray):Option Bool:=bif Nat.ble p.1.size 1000000 then some (Lib.contains (lb p.1) (lb p.2))else none
theorem qpW:∀(l:List UInt8) (acc:Nat),(∀c∈l,isD c=true)→acc<18446744073709551616→Lib.parseUintM 18446744073709551615 acc l=if acc*10^l.length+dv l<18446744073709551616 then .ok (acc*10^l.length+dv l)else .range
 | [],acc,_,h=>by
  have e:acc*10^([]:List UInt8).length+dv []=acc:=by show acc*1+0=acc;omega
  rw[e,zr h];rfl
 | c::r,acc,hd,h=>by
  have hc:=jP.1 (hd c zE)
  have e:=qas [c] r
  have e1:dv [c]=c.toNat-48:=by unfold dv;simp
  rw[e1]at e;have e2:dv (c::r)=(c.toNat-48)*10^r.length+dv r:=e
  have el:acc*10^(c::r).length+dv (c::r)=(acc*10+(c.toNat-48))*10^r.length+dv r:=by
   rw[e2,zy,zU,zR,zt,zB 10];omega
  have hp:=Nat.one_le_pow r.length 10 (by decide)
  have hm:acc*10+(c.toNat-48)≤(acc*10+(c.toNat-48))*10^r.length:=Nat.le_mul_of_pos_right _ hp
  rw[el];unfold Lib.parseUintM;rw[zr hc];by_cases h1:1844674407370955162≤acc
  · rw[zr h1,zp (by omega)]
  · rw[zp h1]
    by_cases h2:18446744073709551615<acc*10+(c.toNat-48)
    · rw[zr h2,zp (by omega)]
    · rw[zp h2]
      exact qpW r _ (fun c hc=>hd c (zq _ hc)) (by omega)
theorem qpX{l:List UInt8}(h0:l≠[])(hd:∀c∈l,isD c=true):Lib.parseUintB 64 l=if dv l<18446744073709551616 then .ok (dv l)else .range:=by
 unfold Lib.parseUintB;rw[zp h0];have:=qpW l 0 hd (by omega)
 rw[K7,zF]at this;exact this
end Su
end
section
namespace Su
open Go Fly
noncomputable section
def dm{α β:Type}(d:Dec α)(to:α→β)(fr:β→α)(h1:∀a,fr (to a)=a)(h2:∀b,to (fr b)=b):Dec β where
 enc b:=d.enc (fr b)
 dec l:=(d.dec l).bind fun a=>some (to a)
 good b:=d.good (fr b)
 rep {xs b} h V vs hr:=by
  obtain⟨a,e1,e2⟩:=osm h;have:=soi e2;subst this
  rw[h1];exact d.rep e1 hr
 de b:=by rw[d.de,zd,h2]
 rng {b V vs} hr:=d.rng hr
structure RowD (u k:Nat) where
 d:Dec (U u)
 hv:∀a,view u a = .agg (d.enc a)
 hk:∀a,(d.enc a).length=k
 hn:∀a,((d.enc a).all fun x=>!x.isAgg)=true
section
variable {u k:Nat} (R:RowD u k)
def qy0(x:T):Option (U u):=match x with | .agg l=>R.d.dec l | _=>none
def unR:List T→Option (List (U u))
 | []=>some []
 | x::l=>(qy0 R x).bind fun a=>(unR l).bind fun b=>some (a::b)
theorem qj7{x:T}{a:U u}(h:qy0 R x=some a){V:qb}{vs:List Value}(hr:RepA V x.cells vs):RepA V (view u a).cells vs∧x.cells.length=k:=by
 cases x with
 | agg l=>
  have h':R.d.dec l=some a:=h
  have h1:=R.d.rep h' hr;have hl:l.length=vs.length:=hr.length
  have hl2:=h1.length;rw[R.hv];exact⟨h1,by show l.length=k;rw[hl,← hl2,R.hk]⟩
 | _=>exact non h
theorem qfO{V:qb}:∀ {l:List T} {a:List (U u)} {vs:List Value},unR R l=some a→RepA V (l.flatMap T.cells) vs →
 RepA V ((a.map (view u)).flatMap T.cells) vs∧(∀x∈(a.map (view u)).flatMap T.cells,x.isAgg=false)∧(∀x∈a.map (view u),x.cells.length=k)∧(∀x∈l,x.cells.length=k)∧a.length=l.length
 | [],a,vs,h,hr=>by have:=soi h;subst this;exact⟨hr,by simp,by simp,by simp,rfl⟩
 | x::l,a,vs,h,hr=>by
  obtain⟨b,h1,h⟩:=osm h;obtain⟨c,h2,h⟩:=osm h;have:=soi h;subst this
  rw[Kt]at hr;obtain⟨v1,v2,rfl,k1,k2⟩:=hr.split;obtain⟨e1,e2⟩:=qj7 R h1 k1;obtain⟨f1,f2,f3,f4,f5⟩:=qfO h2 k2;rw[K5,Kt];refine⟨e1.append f1,fun y hy=>?_,fun y hy=>?_,fun y hy=>?_,by simp[f5]⟩
  · rcases Kh.1 hy with hy | hy
    · rw[R.hv]at hy
      exact qfF (R.hn b) y hy
    · exact f2 y hy
  · rcases zN.1 hy with rfl | hy
    · rw[R.hv];exact R.hk b
    · exact f3 y hy
  · rcases zN.1 hy with rfl | hy
    · exact e2
    · exact f4 y hy
theorem qxd{V:qb}:∀ {l:List (U u)} {vs:List Value},RepA V ((l.map (view u)).flatMap T.cells) vs→∀t∈l,R.d.good t
 | [],_,_,t,ht=>by cases ht
 | y::l,vs,h,t,ht=>by
  rw[K5,Kt]at h;obtain⟨v1,v2,rfl,k1,k2⟩:=h.split;rcases zN.1 ht with rfl | ht
  · rw[R.hv]at k1;exact R.d.rng k1
  · exact qxd k2 t ht
theorem qmZ(a:U u):qy0 R (view u a)=some a:=by
 rw[R.hv];exact R.d.de a
theorem qlA:∀l:List (U u),unR R (l.map (view u))=some l
 | []=>rfl
 | x::l=>by simp only[K5,unR,qmZ,qlA l,zd]
def cL:Cod (List (U u)) where
 enc l:=.ql u k l
 dec x:=match x with
  | .sl w l=>bif Nat.beq w k then unR R l else none
  | x=>qeZ u k (.t x)
 good l:=(∀t∈l,R.d.good t)∧l.length≤maxLen
 rep {x a} h V v hr:=by
  split at h
  · obtain⟨h1,h2⟩:=qi h
    have:=zh h1;subst this
    cases hr with | @sl _ _ vs ad cap k1 k2 k3 k4 k5 k6=>
    obtain⟨f1,f2,f3,f4,f5⟩:=qfO R h2 k1;rename_i l;have hl:(a.map (view u)).length=l.length:=by rw[zx,f5]
    have:=Rep.sl (V:=V) (l:=a.map (view u)) (a:=ad) (cap:=cap) f1 f2 f3 (by omega) k5 (k6.imp (fun e=>by subst e;exact KA (by simpa using hl)) id)
    rw[hl]at this;exact .ql this
  · have:=qjU h
    simp only[SV.t.injEq]at this;subst this;exact hr
 de a:=by
  show qeZ u k (.t (.ql u k a))=_
  simp[qeZ]
 rng {a V v} h:=by
  cases h with | ql h=>
  cases h with | @sl _ _ vs ad cap h1 h2 h3 h4 h5 h6=>
  rw[zx]at h4;exact⟨qxd R h1,by omega⟩
end
abbrev TkP:=Int×Int×ByteArray×Int×Int
abbrev dTk:Dec TkP:=dc (cI .u8) (dc (cI .i64) (dc cS (dc (cI .i32) (d1 (cI .u64)))))
def rTk:RowD 19 5:=⟨dTk,fun _=>rfl,fun _=>rfl,fun _=>rfl⟩
abbrev cTk:Cod TkP:=cA dTk
end
end Su
end
section
namespace Su
open Go Fly
noncomputable section
end
end Su
end
