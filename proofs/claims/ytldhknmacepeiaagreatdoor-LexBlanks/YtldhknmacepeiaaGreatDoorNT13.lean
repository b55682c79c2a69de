/-
  What functions of the program compute, in plain Lean, and that the evaluator finds it.
-/
import Derived.Test.YtldhknmacepeiaaGreatDoorSuXl
import Derived.Test.YtldhknmacepeiaaGreatDoorNT10
set_option linter.unusedVariables false
set_option linter.unusedSimpArgs false
set_option maxRecDepth 10000
section
namespace Su
open Go Fly
noncomputable section
def qjO  (f:Int):Option ByteArray :=
 (bif(decide ((Int.fdiv f (2^63))=1))then
 (bif(decide ((((j8 (bK f.toNat)):Nat):Int)=4))then
 some (ByteArray.mk (List.toArray [110,97,110]))
 else
  (bif(decide ((((j8 (bK f.toNat)):Nat):Int)=3))then
  some ((ByteArray.mk (List.toArray [45]))++(ByteArray.mk (List.toArray [105,110,102])))
 else
  (bif(decide ((((j8 (bK f.toNat)):Nat):Int)=0))then
  some ((ByteArray.mk (List.toArray [45]))++(ByteArray.mk (List.toArray [48,46,48])))
 else
  (JI f).bind fun x0=>
  (Qk x0).bind fun x1=>
  (bif(Nat.ble (1+(ByteArray.size x1)) 549755813888)then
  some ((ByteArray.mk (List.toArray [45]))++x1)
 else none))))
 else
  (bif(decide ((((j8 (bK f.toNat)):Nat):Int)=4))then
  some (ByteArray.mk (List.toArray [110,97,110]))
 else
  (bif(decide ((((j8 (bK f.toNat)):Nat):Int)=3))then
  some ((ByteArray.mk (List.toArray []))++(ByteArray.mk (List.toArray [105,110,102])))
 else
  (bif(decide ((((j8 (bK f.toNat)):Nat):Int)=0))then
  some ((ByteArray.mk (List.toArray []))++(ByteArray.mk (List.toArray [48,46,48])))
 else
  (JI f).bind fun x2=>
  (Qk x2).bind fun x3=>
  (bif(Nat.ble (0+(ByteArray.size x3)) 549755813888)then
  some ((ByteArray.mk (List.toArray []))++x3)
 else none)))))
def sgL(f:Int):List UInt8:=bif decide (Int.fdiv f (2^63)=1)then[45]else[]
def yW(f:Int):Option ByteArray :=
 bif decide (((j8 (bK f.toNat):Nat):Int)=4)then some (bs [110,97,110])else
 bif decide (((j8 (bK f.toNat):Nat):Int)=3)then some (bs (sgL f++[105,110,102]))else
 bif decide (((j8 (bK f.toNat):Nat):Int)=0)then some (bs (sgL f++[48,46,48]))else
 (JI f).bind fun x=>(Qk x).bind fun y=>some (bs (sgL f++lb y))
theorem qmW{d:List UInt8}{q:Int}(h:okF d q=true):(JJ d q).length≤2000000:=by
 obtain⟨a1,a2,a3,a4⟩:=qdb.1 h;have il:=qgT (n:=((d.length:Nat):Int)+q-1) (by omega) (by omega)
 unfold JJ;split
 · simp only[zq,J4,zu,zM];omega
 · split
   · simp only[zq,zL,zV,zu,zM];omega
   · split
     · simp only[zq,J4,zu,zM];omega
     · split
       · simp only[zq,zL,zV,zu,zM];omega
       · simp only[zq,zL,zV,zu,zM];omega
theorem qmX{x:ByteArray×Int}{y:ByteArray}(h:Qk x=some y):y.size≤2000000:=by
 obtain⟨h1,h2⟩:=qh h;have:=soi h2;subst this
 rw[qe];exact qmW h1
theorem qmY(f:Int)(y:ByteArray)(hg:(d1 (cI .u64)).good f)(h:yW f=some y):qjO f=some y:=by
 rw[← h];unfold qjO yW sgL;have key:∀(s:List UInt8) (n:Nat),n≤1→((JI f).bind fun x0=>(Qk x0).bind fun x1=>(bif(Nat.ble (n+(ByteArray.size x1)) 549755813888)then some ((ByteArray.mk (List.toArray s))++x1)else none))=(JI f).bind fun x=>(Qk x).bind fun y=>some (bs (s++lb y)):=fun s n hn=>by
  cases JI f with
  | none=>rfl
  | some x=>
   rw[zh,zh];cases hx:Qk x with
   | none=>rfl
   | some z=>
    have:=qmX hx
    rw[zh,zh,zp (by omega),zg,qU,← qM,qcD]
 rw[key [45] 1 (by omega),key [] 0 (by omega)];cases decide (Int.fdiv f (2^63)=1)with
 | true=>simp only[zg,qU,qM]
 | false=>simp only[zm,qU,qM]
end
end Su
end
section
namespace Su
open Go Fly
noncomputable section
end
end Su
end
