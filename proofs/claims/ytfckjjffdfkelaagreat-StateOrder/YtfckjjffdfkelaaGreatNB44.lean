/-
  What functions of the program compute, in plain Lean, and that the evaluator finds it.
-/
import Derived.Test.YtfckjjffdfkelaaGreatSuSd
import Derived.Test.YtfckjjffdfkelaaGreatRkq
set_option maxRecDepth 10000
namespace Su
open Go Fly
set_option linter.unusedVariables false
noncomputable section
def qAv  (c:(Int×((List Su.Cc)×((List Su.T)×((List Su.T)×((List Su.T)×((List Su.T)×Int))))))) (a:(Bool×(Bool×(Int×(Int×(List Su.Ce)))))) (b:(Bool×(Bool×(Int×(Int×(List Su.Ce)))))):Option Bool :=
 (bif (Su.qa3 c [a,b]) then
 some true
 else
  ((Su.Yg (c,a))).bind fun x0 =>
  ((Su.Yg (c,b))).bind fun x1 =>
  ((Su.qad (c,(x0,x1)))).bind fun x2 =>
  ((Su.qad (c,(x1,x0)))).bind fun x3 =>
  ((Su.qad (c,(x0,x0)))).bind fun x4 =>
  (((Su.YK (c,(x2,x3)))).bind fun x5 =>
  (bif x5 then
  ((Su.YK (c,(x3,x2)))).bind fun x6 =>
  (bif x6 then
  ((Su.YK (c,(x4,x0)))).bind fun x7 =>
  (bif x7 then
  ((Su.YK (c,(x0,x4)))).bind fun x8 =>
  (bif x8 then
  ((Su.YK (c,(x0,x2)))).bind fun x9 =>
  (bif x9 then
  ((Su.YK (c,(x1,x2)))).bind fun x10 =>
  some (x10,())
 else
  some (false,()))
 else
  some (false,()))
 else
  some (false,()))
 else
  some (false,()))
 else
  some (false,()))).bind fun x11 =>
  some x11.1)
theorem qlO {c:CoD} {a:StD} (hw:Sw a):jW c a=qH∨Pl c (jW c a):=by
 cases hd:(jW c a).1 with
 | true=>exact .inl (qnn hd)
 | false=>exact .inr (qvC hw hd)
def qvG (_:CoD×(StD×StD)):Option Bool:=some true
theorem qAw (p:CoD×(StD×StD)) (y:Bool) (hg:(dc cCo (dc cSt (d1 cSt))).good p) (h:qvG p=some y):qAv p.1 p.2.1 p.2.2=some y:=by
 obtain ⟨c,a,b⟩:=p
 have:=soi h;subst this
 show qAv c a b=some true
 have wa:Sw a:=st_w hg.2.1.2.2.2.2.1
 have wb:Sw b:=st_w hg.2.2.2.2.2.2.1
 unfold qAv
 rcases Bool.eq_false_or_eq_true (qa3 c [a,b]) with hh | hh
 · exact qB hh
 refine (qA hh).trans ?_
 obtain ⟨hc,hs0⟩:=qre hh
 obtain ⟨a1,a2⟩:=hs0 a (by simp)
 obtain ⟨b1,b2⟩:=hs0 b (by simp)
 have ma:=qvt a1 a2
 have mb:=qvt b1 b2
 have mp:=qlL (c:=c) ma
 have mq:=qlL (c:=c) mb
 have op:=qlO (c:=c) wa
 have oq:=qlO (c:=c) wb
 refine obB (x:=jW c a) (show Yg (c,a)=_ from qB ma) ?_
 refine obB (x:=jW c b) (show Yg (c,b)=_ from qB mb) ?_
 generalize jW c a=p at *
 generalize jW c b=q at *
 obtain ⟨i1,i2,i3,i4,i5,i6⟩:=qHM (F:=jF) rfl op oq
 have jn:∀ {s t:StD},smS s=true→smS t=true→(s=qH∨Pl c s)→(t=qH∨Pl c t)→qad (c,(s,t))=some (jt jF c s t):=fun {s t} h1 h2 h3 h4 =>
  qB (show ((smS s&&smS t)&&jOk c s t)=true from by rw [h1,h2,qri h3 h4];rfl)
 have ins:∀ {s t:StD},smS s=true→smS t=true→qa7 c s t=true→YK (c,(s,t))=some true:=fun {s t} h1 h2 h3=>by
  rw [← h3];exact qB (show (smS s&&smS t)=true from by rw [h1,h2];rfl)
 have m2:=qjq (c:=c) mp mq
 have m3:=qjq (c:=c) mq mp
 have m4:=qjq (c:=c) mp mp
 refine obB (jn mp mq op oq) (obB (jn mq mp oq op) (obB (jn mp mp op op) ?_))
 refine obB (x:=(true,())) ?_ rfl
 refine obB (ins m2 m3 i1) ((qB rfl).trans (obB (ins m3 m2 i2) ((qB rfl).trans (obB (ins m4 mp i3) ((qB rfl).trans (obB (ins mp m4 i4) ((qB rfl).trans (obB (ins mp m2 i5) ((qB rfl).trans (obB (ins mq m2 i6) rfl))))))))))
end
end Su
