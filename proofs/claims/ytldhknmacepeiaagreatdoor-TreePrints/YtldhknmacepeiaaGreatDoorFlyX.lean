/-
  A logic of walks. No condition.
-/
import Derived.Test.YtldhknmacepeiaaGreatDoorTr1
set_option linter.unusedVariables false
set_option linter.unusedSimpArgs false
namespace Fly
open Go
section
variable {P:Program} {n:Nat} {X:Cx} {L:Lo} {V:qc} {G:Own} {Q:Value→qc→Own→Prop}
variable {ty:TypeId} {pos:String} {af:Array Edge} {gd:Option (Nat×Bool)} {ds:Option Tmp}
inductive FillA (w:Nat) (L:Lo):List Value→List (Nat×Operand)→List Value→Prop
 | nil {z:List Value}:FillA w L z [] z
 | cons {z z' r vs:List Value} {i:Nat} {x:Operand} {v:Value} {rest:List (Nat×Operand)} (hx:ev L x=some v) (hv:v.cells=vs.toArray) (hk:vs.length=w)
  (hp:Qh z (i*w) vs=some z') (h:FillA w L z' rest r):FillA w L z ((i,x)::rest) r
theorem qnz{w:Nat}{a:Act}(ha:Knows n L a){z r:List Value}{parts:List (Nat×Operand)}(h:FillA w L z parts r) :
 Instr.fill (fun i=>some (i*w,w)) z.toArray (parts.map fun p=>(p.1,a.eval p.2))=some r.toArray:=by
 induction h with
 | nil=>rfl
 | cons hx hv hk hp _ ih=>
  rw[KH];simp only[ha.ev hx];rw[qcn rfl hv hk hp];exact ih
theorem qnA(T:Tabs P){t e m w:Nat}{g:Bool}{z r:List Value}{parts:List (Nat×Operand)}(hu:P.underlying t=some (.array m e))(he:Ty P e=some (g,w))(hz:T.ze t=some z)(hf:FillA w L z parts r)(k:Q (.agg r.toArray) V G) :
 Opr P n X L V G ⟨ds,.build t parts.toArray,ty,pos,af,gd⟩ Q:=by
 refine qP (fun a wd ha=>?_) k
 obtain⟨zv,hz1,hz2⟩:=qd1 (T.ze_ok _ _ hz) wd
 have hfill:=qnz ha hf;have hparts:(parts.toArray.map fun x:Nat×Operand=>(x.1,a.eval x.2)).toList=parts.map fun p=>(p.1,a.eval p.2):=by simp
 simp only[execOp,Instr.build,Sem.run_bind,hz1,Result.andThen,run_underlying hu,(jK he wd).2.1,hparts,hz2,hfill];rfl
theorem qnB{t e m:Nat}{w:Nat}{x y:Operand}{cs:List Value}{κ:IntKind}{j:Int}{u:Value}(hx:ev L x=some (.agg cs.toArray))(hy:ev L y=some (.int κ j))(hu:P.underlying t=some (.array m e))(he:Ty P e=some (false,w))(hw:w=1)
 (h0:0≤j) (h1:j<(m:Int)) (hc:cs[j.toNat]?=some u) (k':Q u V G):Opr P n X L V G ⟨ds,.index t x y,ty,pos,af,gd⟩ Q:=by
 subst hw;refine qP (fun a wd ha=>?_) k'
 have hc2:cs.toArray[j.toNat*1]?=some u:=by rw[KK];simpa using hc
 simp[execOp,ha.ev hx,ha.ev hy,Instr.index,asIntOf,run_underlying hu,h0,h1,(jK he wd).2.1,(jK he wd).1,Sem.run_bind,Result.andThen,part,hc]
end
end Fly
