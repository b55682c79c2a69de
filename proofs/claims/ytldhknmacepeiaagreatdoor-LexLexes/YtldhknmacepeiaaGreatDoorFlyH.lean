/-
  A small logic of walks: judgements, operations, regions, loops, calls. No condition.
-/
import Derived.Test.YtldhknmacepeiaaGreatDoorFlyG
set_option linter.unusedVariables false
set_option linter.unusedSimpArgs false
section
namespace Fly
open Go
abbrev YT:=Value→Own→qb→Prop
def Mono(y:YT):Prop:=∀v E V V',Sub V V'→y v E V→y v E V'
def qe9:List Tmp→Tmp→Bool
 | [],_=>false
 | d::ds,t=>bif Nat.beq d t then true else qe9 ds t
def selO(looks:List Tmp):List Oper→List YT→Option (List (Tmp×YT))
 | o::l,y::Ys=>match o.dst,selO looks l Ys with
  | some d,some r=>match qe9 looks d with
   | true=>some ((d,y)::r)
   | false=>some r
  | _,_=>none
 | _,_=>some []
def Owe(V':qb)(K:Lo→Prop):List (Tmp×YT)→Lo→Prop
 | [],L=>K L
 | (d,y)::A,L=>∀v E,y v E V'→Owe V' K A ((d,v)::L)
def qjp(V':qb)(K:Lo→Own→Prop):List Oper→List YT→Lo→Own→Prop
 | o::l,y::Ys,L,E=>∀v E',y v E' V'→qjp V' K l Ys (match o.dst with | some d=>(d,v)::L | none=>L) (E++E')
 | _,_,L,E=>K L E
def One(P:Program)(n:Nat)(X:Cx)(V':qb)(G':Own)(l:List Oper)(o:Oper)(y:YT)(L':Lo):Prop :=
 match o.guard with
 | none=>Opr P n X L' V' G' o fun v V'' G''=>Sub V' V''∧∃E,G''.Perm (E++G')∧y v E V''
 | some (g,b)=>∃d t,(l[g]?).bind (·.dst)=some d∧lk L' d=some (.bool t)∧(t=b→Opr P n X L' V' G' o fun v V'' G''=>Sub V' V''∧∃E,G''.Perm (E++G')∧y v E V'')∧(t = !b→y undef [] V')
inductive Prog (P:Program) (n:Nat) (X:Cx) (L:Lo) (V:qb) (G:Own) (K:List KI) (l:List Oper) (m:Nat):List YT→Nat→Prop
 | done {Ys:List YT} (h:∀V',Sub V V'→qjp V' (fun L' E=>WR P n X L' V' (E++G) l.toArray (l.drop m) K) (l.take m) Ys L []):Prog P n X L V G K l m Ys 0
 | step {Ys:List YT} {r:Nat} {o:Oper} {A:List (Tmp×YT)} (y:YT) (hy:Mono y) (ho:l[Ys.length]?=some o) (hA:selO (o.looksAt l.toArray) l Ys=some A)
  (h:∀V' F,Sub V V'→Owe V' (One P n X V' (F++G) l o y) A L) (k:Prog P n X L V G K l m (Ys++[y]) r):Prog P n X L V G K l m Ys (r+1)
section
variable {P:Program} {n:Nat} {X:Cx} {L:Lo} {V:qb} {G:Own} {K:List KI}
end
end Fly
end
section
namespace Fly
open Go
theorem Has.app{F G:Own}{b:Nat}{o:Obj}(h:Has G b o):Has (F++G) b o:=by
 induction F with
 | nil=>exact h
 | cons p F ih=>exact .there ih
section
variable {P:Program} {n:Nat} {X:Cx} {L:Lo} {V V':qb} {G G':Own} {K:List KI} {Q:Value→qb→Own→Prop} {KL:Lo→Prop} {KE:Lo→Own→Prop} {A:List (Tmp×YT)} {l all ops:List Oper} {Ys:List YT} {E:Own}
variable {op:Op} {ty:TypeId} {pos:String} {af:Array Edge} {gd:Option (Nat×Bool)} {ds:Option Tmp} {d:Tmp}
end
end Fly
end
