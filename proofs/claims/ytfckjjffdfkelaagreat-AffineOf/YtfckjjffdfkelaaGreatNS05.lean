/-
  What functions of the program compute, in plain Lean, and that the evaluator finds it.
-/
import Derived.Test.YtfckjjffdfkelaaGreatSuSd
import Derived.Test.YtfckjjffdfkelaaGreatNS04
import Derived.Test.YtfckjjffdfkelaaGreatNC31
import Derived.Test.YtfckjjffdfkelaaGreatNC26
import Derived.Test.YtfckjjffdfkelaaGreatRay
set_option linter.unusedVariables false
set_option linter.unusedSimpArgs false
set_option maxRecDepth 10000
section
namespace Su
open Go Fly
noncomputable section
def Jm:(Nat×Int×Int×Int×Int×(List T)×Unit)→Option ((Nat×Int×Int×Int×Int×(List T)×Unit) ⊕ (Nat×Int×Int×Int×Int×(List T)×Unit)):=fun p0=>(bif(decide (p0.2.2.2.2.1≤p0.2.1))then
 (bif(true&&(Nat.beq p0.1 p0.2.2.2.2.2.1.length))then
 (qu p0.2.2.2.2.2.1).bind fun x1=>
 (qab x1 (p0.2.2.2.1,p0.2.2.2.2.1,())).bind fun x2=>
 some (.inl (p0.1,p0.2.1,p0.2.2.1,p0.2.2.2.2.1,(IntKind.wrap .i64 (p0.2.2.2.2.1+p0.2.2.1)),(List.map (vT) x2),()))
 else none)
 else
  some (.inr (p0.1,p0.2.1,p0.2.2.1,p0.2.2.2.1,p0.2.2.2.2.1,p0.2.2.2.2.2.1,())))
def Jn:(Nat×Int×Int×Int×Int×(List T)×Unit)→Option ((Nat×Int×Int×Int×Int×(List T)×Unit) ⊕ (Nat×Int×Int×Int×Int×(List T)×Unit)):=fun p7=>(bif(decide (p7.2.2.2.2.1≤p7.2.1))then
 (bif(true&&(Nat.beq p7.1 p7.2.2.2.2.2.1.length))then
 (qu p7.2.2.2.2.2.1).bind fun x8=>
 (JX 1000000 x8 (p7.2.2.2.1,(IntKind.wrap .i64 (p7.2.2.2.1+p7.2.2.1)),p7.2.2.2.2.1,())).bind fun x9=>
 some (.inl (p7.1,p7.2.1,p7.2.2.1,p7.2.2.2.2.1,(IntKind.wrap .i64 (p7.2.2.2.2.1+(IntKind.wrap .i64 (2*p7.2.2.1)))),(List.map (vT) x9),()))
 else none)
 else
  some (.inr (p7.1,p7.2.1,p7.2.2.1,p7.2.2.2.1,p7.2.2.2.2.1,p7.2.2.2.2.2.1,())))
def QR(fu:Nat):(Nat×Int×Int×Int×Int×(List T)×Unit)→Option ((Nat×Int×Int×Int×Int×(List T)×Unit) ⊕ (Nat×Int×Int×Int×Int×(List T)×Unit)):=fun p6=>(bif(decide (p6.2.2.1<p6.2.1))then
 (itP fu (Jn) (p6.1,p6.2.1,p6.2.2.1,(0:Int),(IntKind.wrap .i64 (2*p6.2.2.1)),p6.2.2.2.2.2.1,())).bind fun x10=>
 (bif(decide ((IntKind.wrap .i64 (x10.2.2.2.1+x10.2.2.1))<x10.2.1))then
 (bif(true&&(Nat.beq x10.1 x10.2.2.2.2.2.1.length))then
 (qu x10.2.2.2.2.2.1).bind fun x11=>
 (JX 1000000 x11 (x10.2.2.2.1,(IntKind.wrap .i64 (x10.2.2.2.1+x10.2.2.1)),x10.2.1,())).bind fun x12=>
 some (.inl (x10.1,x10.2.1,(IntKind.wrap .i64 (x10.2.2.1*2)),x10.2.2.2.1,x10.2.2.2.2.1,(List.map (vT) x12),()))
 else none)
 else
  some (.inl (x10.1,x10.2.1,(IntKind.wrap .i64 (x10.2.2.1*2)),x10.2.2.2.1,x10.2.2.2.2.1,x10.2.2.2.2.2.1,())))
 else
  some (.inr (p6.1,p6.2.1,p6.2.2.1,p6.2.2.2.1,p6.2.2.2.2.1,p6.2.2.2.2.2.1,())))
def qwf  (fu:Nat)(L:(List Tm))(n:Int)(u:Unit):Option (List T) :=
 (itP fu (Jm) ((List.length (List.map (vT) L)),n,(20:Int),(0:Int),(20:Int),(List.map (vT) L),())).bind fun x3=>
 (bif(true&&(Nat.beq x3.1 x3.2.2.2.2.2.1.length))then
 (qu x3.2.2.2.2.2.1).bind fun x4=>
 (qab x4 (x3.2.2.2.1,x3.2.1,())).bind fun x5=>
 (itP fu (QR fu) (x3.1,x3.2.1,x3.2.2.1,x3.2.2.2.1,x3.2.2.2.2.1,(List.map (vT) x5),())).bind fun x13=>
 some x13.2.2.2.2.2.1
 else none)
theorem qki(P O S:List Tm)(u:Unit)(hf:∀t∈P++O++S,fI t.c=true)(hn:(P++O++S).length≤1000000):qab (P++O++S) (((P.length:Nat):Int),((P.length+O.length:Nat):Int),u)=some (P++ssK qk O++S):=by
 have hl:(P++O++S).length=P.length+O.length+S.length:=by simp only[zw]
 unfold qab;simp only[zl];rw[qkh];refine qH ?_
 simp only[zm,zF];exact⟨by omega,by omega,by omega,ZE.2 hf,zn hn⟩
theorem qqC(X Y:List Tm):ssK qk (ssK qk X++ssK qk Y)=ssK qk (X++Y) :=
 qb4 (YQ _ _) (((qbm qk X).app (qbm qk Y)).trans (qbm _ _))
theorem qkj{L:List Tm}{t:Tm}:t∈ssK qk L↔t∈L:=(QQ qk L).mem_iff
abbrev StbS:=Nat×(Int×Int×Int×Int×(List T)×Unit)
def Qb(N n bs a b:Nat)(K:List Tm):StbS:=(N,(n:Int),(bs:Int),(a:Int),(b:Int),K.map vT,())
theorem wPl{x y:Nat}(h:x+y≤1000000):IntKind.i64.wrap ((x:Int)+(y:Int))=((x+y:Nat):Int):=by
 rw[show((x:Int)+(y:Int))=((x+y:Nat):Int) by omega];exact rkW (by omega) (by omega)
theorem qFb{x:Nat}(h:x≤1000000):IntKind.i64.wrap (2*(x:Int))=((2*x:Nat):Int):=by
 rw[show(2*(x:Int))=((2*x:Nat):Int) by omega];exact rkW (by omega) (by omega)
theorem wTwr{x:Nat}(h:x≤1000000):IntKind.i64.wrap ((x:Int)*2)=((2*x:Nat):Int):=by
 rw[show((x:Int)*2)=((2*x:Nat):Int) by omega];exact rkW (by omega) (by omega)
theorem qoA{N n bs a b:Nat}{K K':List Tm}(hl:K.length=N)(hb:b≤n)(hs:b+bs≤1000000)(h:qab K ((a:Int),(b:Int),())=some K'):Jm (Qb N n bs a b K)=some (.inl (Qb N n bs b (b+bs) K')):=by
 have d0:decide ((b:Int)≤(n:Int))=true:=zf (by omega)
 show Jm (N,(n:Int),(bs:Int),(a:Int),(b:Int),K.map vT,())=_
 unfold Jm;refine(qH d0).trans ((qH (qmR hl)).trans (obs (qA _) (obs h ?_)))
 show some (Sum.inl (N,(n:Int),(bs:Int),(b:Int),IntKind.i64.wrap ((b:Int)+(bs:Int)),K'.map vT,()))=_
 rw[wPl hs];rfl
theorem qkk{N n bs a b:Nat}{K:List Tm}(hb:n<b):Jm (Qb N n bs a b K)=some (.inr (Qb N n bs a b K)):=by
 have d0:decide ((b:Int)≤(n:Int))=false:=zk (by omega)
 show Jm (N,(n:Int),(bs:Int),(a:Int),(b:Int),K.map vT,())=_
 unfold Jm;exact Qa d0
theorem qFc{N n bs a b:Nat}{K K':List Tm}(hl:K.length=N)(hb:b≤n)(hs:b+2*bs≤1000000)(ha:a+bs≤1000000)(h:JX 1000000 K ((a:Int),((a+bs:Nat):Int),(b:Int),())=some K'):Jn (Qb N n bs a b K)=some (.inl (Qb N n bs b (b+2*bs) K')):=by
 have d0:decide ((b:Int)≤(n:Int))=true:=zf (by omega)
 show Jn (N,(n:Int),(bs:Int),(a:Int),(b:Int),K.map vT,())=_
 unfold Jn;refine(qH d0).trans ((qH (qmR hl)).trans (obs (qA _) ?_))
 show(JX 1000000 K ((a:Int),IntKind.i64.wrap ((a:Int)+(bs:Int)),(b:Int),())).bind _=_
 rw[wPl ha];refine obs h ?_
 show some (Sum.inl (N,(n:Int),(bs:Int),(b:Int),IntKind.i64.wrap ((b:Int)+IntKind.i64.wrap (2*(bs:Int))),K'.map vT,()))=_
 rw[qFb (by omega),wPl (by omega)];rfl
theorem qqD{N n bs a b:Nat}{K:List Tm}(hb:n<b):Jn (Qb N n bs a b K)=some (.inr (Qb N n bs a b K)):=by
 have d0:decide ((b:Int)≤(n:Int))=false:=zk (by omega)
 show Jn (N,(n:Int),(bs:Int),(a:Int),(b:Int),K.map vT,())=_
 unfold Jn;exact Qa d0
theorem qfl{N n bs a b fu:Nat}{K:List Tm}(hb:n≤bs):QR fu (Qb N n bs a b K)=some (.inr (Qb N n bs a b K)):=by
 have d0:decide ((bs:Int)<(n:Int))=false:=zk (by omega)
 show QR fu (N,(n:Int),(bs:Int),(a:Int),(b:Int),K.map vT,())=_
 unfold QR;exact Qa d0
theorem qFd{N n bs a b a' b' fu:Nat}{K K1:List Tm}(hb:bs<n)(hbs:bs≤100000)(h:itP fu Jn (Qb N n bs 0 (2*bs) K)=some (Qb N n bs a' b' K1))(ha:a'+bs≤1000000)(hc:n≤a'+bs) :
 QR fu (Qb N n bs a b K)=some (.inl (Qb N n (2*bs) a' b' K1)):=by
 have d0:decide ((bs:Int)<(n:Int))=true:=zf (by omega)
 show QR fu (N,(n:Int),(bs:Int),(a:Int),(b:Int),K.map vT,())=_
 unfold QR;refine(qH d0).trans ?_
 simp only[qFb (x:=bs) (by omega)];refine obs (t:=Qb N n bs a' b' K1) h ?_
 refine(Qa ?_).trans ?_
 · show decide (IntKind.i64.wrap ((a':Int)+(bs:Int))<(n:Int))=false
   rw[wPl ha];exact zk (by omega)
 · show some (Sum.inl (N,(n:Int),IntKind.i64.wrap ((bs:Int)*2),(a':Int),(b':Int),K1.map vT,()))=_
   rw[wTwr (by omega)];rfl
theorem qAE{N n bs a b a' b' fu:Nat}{K K1 K2:List Tm}(hl:K1.length=N)(hb:bs<n)(hbs:bs≤100000)(h:itP fu Jn (Qb N n bs 0 (2*bs) K)=some (Qb N n bs a' b' K1))(ha:a'+bs≤1000000)(hc:a'+bs<n)(hs:JX 1000000 K1 ((a':Int),((a'+bs:Nat):Int),(n:Int),())=some K2) :
 QR fu (Qb N n bs a b K)=some (.inl (Qb N n (2*bs) a' b' K2)):=by
 have d0:decide ((bs:Int)<(n:Int))=true:=zf (by omega)
 show QR fu (N,(n:Int),(bs:Int),(a:Int),(b:Int),K.map vT,())=_
 unfold QR;refine(qH d0).trans ?_
 simp only[qFb (x:=bs) (by omega)];refine obs (t:=Qb N n bs a' b' K1) h ?_
 refine(qH ?_).trans ((qH (qmR hl)).trans (obs (qA _) ?_))
 · show decide (IntKind.i64.wrap ((a':Int)+(bs:Int))<(n:Int))=true
   rw[wPl ha];exact zf (by omega)
 · show(JX 1000000 K1 ((a':Int),IntKind.i64.wrap ((a':Int)+(bs:Int)),(n:Int),())).bind _=_
   rw[wPl ha];refine obs hs ?_
   show some (Sum.inl (N,(n:Int),IntKind.i64.wrap ((bs:Int)*2),(a':Int),(b':Int),K2.map vT,()))=_
   rw[wTwr (by omega)];rfl
theorem itQ{S R:Type}{n:Nat}{F:S→Option (S ⊕ R)}{s:S}{r:R}(h:F s=some (.inr r)):itP (n+1) F s=some r:=by rw[qC,h];rfl
theorem qfm{N n a b fu:Nat}{L K1 K2 K3:List Tm}{a2 b2 bs2:Nat}{u:Unit}(hL:L.length=N)(h1:itP fu Jm (Qb N n 20 0 20 L)=some (Qb N n 20 a b K1))(hl:K1.length=N)(h2:qab K1 ((a:Int),(n:Int),())=some K2)(h3:itP fu (QR fu) (Qb N n 20 a b K2)=some (Qb N n bs2 a2 b2 K3)) :
 qwf fu L (n:Int) u=some (K3.map vT):=by
 unfold qwf;rw[rkM,hL];exact obs (t:=Qb N n 20 a b K1) h1 ((qH (qmR hl)).trans (obs (qA _) (obs h2 (obs (t:=Qb N n bs2 a2 b2 K3) h3 rfl))))
def qkl(L:List Tm)(p:Int×Unit):Option (List Tm):=bif decide (p.1=(L.length:Int))&&(qv8 L&&Nat.ble L.length 40)then some (ssK qk L)else none
theorem qAF(L:List Tm)(p:Int×Unit)(L':List Tm)(hl:L.length≤maxLen)(hg:(dc (cI .i64) (d1 (cF 135))).good p)(h:qkl L p=some L'):∃n,qwf n L p.1 p.2=some (L'.map vT):=by
 obtain⟨n,u⟩:=p;obtain⟨h1,h2⟩:=qi h;have:=soi h2;subst this
 simp only[zm,zF]at h1;obtain⟨rfl,hf,hm⟩:=h1;have hf:=ZE.1 hf;have hm:=zo hm;refine⟨100,?_⟩
 show qwf 100 L ((L.length:Nat):Int) u=_
 by_cases hA:L.length<20
 · have i1:=qki [] L [] () (by simpa using hf) (by simp;omega)
   simp only[zX,zO,zB,zQ]at i1;exact qfm (a:=0) (b:=20) (bs2:=20) (a2:=0) (b2:=20) (K1:=L) (K2:=ssK qk L) rfl (itQ (qkk (by omega))) rfl i1 (itQ (qfl (by omega)))
 · obtain⟨X,Y,rfl,q1⟩:=ZF (l:=L) (n:=20) (by omega)
   have q2:(X++Y).length=X.length+Y.length:=zw
   have lX:(ssK qk X).length=20:=by rw[yn,q1]
   have lY:(ssK qk Y).length=Y.length:=yn _ _
   have f1:∀t∈ssK qk X++Y,fI t.c=true:=fun t ht=>by
    rcases zM.1 ht with h | h
    · exact hf t (zM.2 (.inl (qkj.1 h)))
    · exact hf t (zM.2 (.inr h))
   have f2:∀t∈ssK qk X++ssK qk Y,fI t.c=true:=fun t ht=>by
    rcases zM.1 ht with h | h
    · exact hf t (zM.2 (.inl (qkj.1 h)))
    · exact hf t (zM.2 (.inr (qkj.1 h)))
   have i1:=qki [] X Y () (by simpa using hf) (by simp;omega)
   simp only[zX,zB,zQ,q1]at i1;have i2:=qki (ssK qk X) Y [] () (by simpa using f1) (by simp[yn];omega)
   simp only[zO,lX]at i2;have e20:20+Y.length=(X++Y).length:=by omega
   rw[e20]at i2;have hl1:(ssK qk X++Y).length=(X++Y).length:=by rw[zw,zw,lX,q1]
   have hl2:(ssK qk X++ssK qk Y).length=(X++Y).length:=by rw[zw,zw,lX,lY,q1]
   by_cases hB:(X++Y).length<40
   · have s1:itP 100 Jm (Qb (X++Y).length (X++Y).length 20 0 20 (X++Y))=some (Qb (X++Y).length (X++Y).length 20 20 40 (ssK qk X++Y)) :=
      (ja.next (K:=50) (qoA rfl (by omega) (by omega) i1) (ja.stop (K:=49) (qkk (by omega)))) 100 (by omega)
     by_cases hY:Y=[]
     · subst hY
       have e:ssK qk X++ssK qk []=ssK qk (X++[]):=by rw[Ju (key:=qk) Srt.nil,zO,zO]
       rw[← e];exact qfm rfl s1 hl1 i2 (itQ (qfl (bs:=20) (by simp;omega)))
     · have y0:=Kg.2 hY
       have sy:=qfj [] (ssK qk X) (ssK qk Y) [] () (k:=1000000) (nz _ (by omega)) (nz _ (by omega)) (YQ _ _) (YQ _ _) (by omega) (by simpa using f2) (by simp[yn];omega)
       simp only[zX,zO,zB,zQ,lX,lY,e20,qqC]at sy;refine qfm (bs2:=40) (a2:=0) (b2:=40) rfl s1 hl1 i2 ?_
       exact(ja.next (K:=50) (qAE (a':=0) (b':=40) hl2 (by omega) (by omega) (itQ (qqD (by omega))) (by omega) (by omega) sy) (ja.stop (K:=49) (qfl (by omega)))) 100 (by omega)
   · have hN:(X++Y).length=40:=by omega
     have s1:itP 100 Jm (Qb (X++Y).length (X++Y).length 20 0 20 (X++Y))=some (Qb (X++Y).length (X++Y).length 20 40 60 (ssK qk X++ssK qk Y)) :=
      (ja.next (K:=50) (qoA rfl (by omega) (by omega) i1) (ja.next (K:=49) (qoA hl1 (by omega) (by omega) (by rw[hN]at i2;exact i2)) (ja.stop (K:=48) (qkk (by omega))))) 100 (by omega)
     have i3:=qki (ssK qk X++ssK qk Y) [] [] () (by simpa using f2) (by simp[yn];omega)
     simp only[zO,zB,Kr,hl2,Ju (key:=qk) Srt.nil]at i3;have sy:=qfj [] (ssK qk X) (ssK qk Y) [] () (k:=1000000) (nz _ (by omega)) (nz _ (by omega)) (YQ _ _) (YQ _ _) (by omega) (by simpa using f2) (by simp[yn];omega)
     simp only[zX,zO,zB,zQ,lX,lY,e20,qqC]at sy;have r3:itP 100 Jn (Qb (X++Y).length (X++Y).length 20 0 (2*20) (ssK qk X++ssK qk Y))=some (Qb (X++Y).length (X++Y).length 20 40 80 (ssK qk (X++Y))) :=
      (ja.next (K:=50) (qFc hl2 (by omega) (by omega) (by omega) (by rw[hN]at sy;exact sy)) (ja.stop (K:=49) (qqD (by omega)))) 100 (by omega)
     refine qfm (bs2:=40) (a2:=40) (b2:=80) rfl s1 hl2 (by rw[← hN];rw[hN]at i3 ⊢;exact i3) ?_
     exact(ja.next (K:=50) (qFd (by omega) (by omega) r3 (by omega) (by omega)) (ja.stop (K:=49) (qfl (by omega)))) 100 (by omega)
end
end Su
end
section
namespace Su
open Go Fly
noncomputable section
def rSS  (L:(List Tm))(u:Unit):Option (List T) :=
 (bif(true&&(Nat.beq (List.length (List.map (vT) L)) (List.length (List.map (vT) L))))then
 (qu (List.map (vT) L)).bind fun x0=>
 (qkl x0 ((((List.length (List.map (vT) L)):Nat):Int),())).bind fun x1=>
 some (List.map (vT) x1)
 else none)
def qmS(L:List Tm)(_:Unit):Option (List Tm):=bif qv8 L&&Nat.ble L.length 40 then some (ssK qk L)else none
theorem qFe(L:List Tm)(u:Unit)(L':List Tm)(hl:L.length≤maxLen)(hg:(d1 (cF 135)).good u)(h:qmS L u=some L'):rSS L u=some (L'.map vT):=by
 obtain⟨h1,h2⟩:=qi h;have:=soi h2;subst this
 unfold rSS;refine(qH (qmR (by rw[rkM]))).trans (obs (qA _) ?_)
 rw[rkM];refine obs (t:=ssK qk L) (qH ?_) rfl
 rw[zm];exact⟨zf rfl,h1⟩
end
end Su
end
section
namespace Su
open Go Fly
noncomputable section
abbrev qdQ:=((List T)×Int×Int×Int×Int×Unit)
def qc3(p9:((List T)×Int×(List Tm)×Int×Int×Bool×Int×(List Tm)×Int×(List T)×Bool×Int×Nat×Nat×Int×Unit))(x10:Tm):qdQ→Option (qdQ ⊕ (Lp qdQ (((List T)×Int×(List Tm)×Int×Int×Bool×Int×(List Tm)×Int×(List T)×Bool×Int×Nat×Nat×Int×Unit) ⊕ ((List T)×Int×(List Tm)×Int×Int×Bool×Int×(List Tm)×Int×(List T)×Bool×Int×Nat×Nat×Int×Unit)))):=fun p11=>(bif(decide (p11.2.2.1<p11.2.1))then
 (idx p11.1 p11.2.2.1).bind fun x12=>
 ((x12.cells)[0]?).bind fun x13=>
 (asI .i64 (.t x13)).bind fun x14=>
 ((x12.cells)[1]?).bind fun x15=>
 (asI .u64 (.t x15)).bind fun x16=>
 (bif((decide (p11.2.2.2.1=x14))&&((decide (p11.2.2.2.2.1=x16))&&true))then
 (bif(!(decide (0≤p11.2.2.1)))then
 some (.inl (p9.1,(((upS 0 [p9.2.1,(((yE (Int.toNat (Tm.c x10))):Nat):Int)]):Nat):Int),p9.2.2.1,p9.2.2.2.1,(IntKind.wrap .i64 (p9.2.2.2.2.1+1)),p9.2.2.2.2.2.1,p9.2.2.2.2.2.2.1,p9.2.2.2.2.2.2.2.1,p9.2.2.2.2.2.2.2.2.1,p9.2.2.2.2.2.2.2.2.2.1,p9.2.2.2.2.2.2.2.2.2.2.1,p9.2.2.2.2.2.2.2.2.2.2.2.1,p9.2.2.2.2.2.2.2.2.2.2.2.2.1,p9.2.2.2.2.2.2.2.2.2.2.2.2.2.1,p9.2.2.2.2.2.2.2.2.2.2.2.2.2.2.1,()))
 else
  some (.inl (p9.1,p9.2.1,p9.2.2.1,p9.2.2.2.1,(IntKind.wrap .i64 (p9.2.2.2.2.1+1)),p9.2.2.2.2.2.1,p9.2.2.2.2.2.2.1,p9.2.2.2.2.2.2.2.1,p9.2.2.2.2.2.2.2.2.1,p9.2.2.2.2.2.2.2.2.2.1,p9.2.2.2.2.2.2.2.2.2.2.1,p9.2.2.2.2.2.2.2.2.2.2.2.1,p9.2.2.2.2.2.2.2.2.2.2.2.2.1,p9.2.2.2.2.2.2.2.2.2.2.2.2.2.1,p9.2.2.2.2.2.2.2.2.2.2.2.2.2.2.1,()))).bind fun x17=>
  some (.inr (.ret x17))
 else
  some (.inl (p11.1,p11.2.1,(IntKind.wrap .i64 (p11.2.2.1+1)),p11.2.2.2.1,p11.2.2.2.2.1,())))
 else
  some (.inr (.exit 0 (p11.1,p11.2.1,p11.2.2.1,p11.2.2.2.1,p11.2.2.2.2.1,()))))
abbrev qdR:=((List T)×Int×(List Tm)×Int×Int×Bool×Int×(List Tm)×Int×(List T)×Bool×Int×Nat×Nat×Int×Unit)
def qbo(fu:Nat):qdR→Option (qdR ⊕ qdR):=fun p9=>(bif(decide (p9.2.2.2.2.1<p9.2.2.2.1))then
 (idx p9.2.2.1 p9.2.2.2.2.1).bind fun x10=>
 (itP fu (qc3 p9 x10) (p9.1,(List.length p9.1:Int),(0:Int),(Tm.id x10),(Tm.c x10),())).bind fun x18=>
 (match x18 with
 | .exit i19 p20=>(bif(Nat.beq i19 0)then
  some (.inl (p9.1,(((upS 0 [p9.2.1,(((yE (Int.toNat (Tm.c x10))):Nat):Int)]):Nat):Int),p9.2.2.1,p9.2.2.2.1,(IntKind.wrap .i64 (p9.2.2.2.2.1+1)),p9.2.2.2.2.2.1,p9.2.2.2.2.2.2.1,p9.2.2.2.2.2.2.2.1,p9.2.2.2.2.2.2.2.2.1,p9.2.2.2.2.2.2.2.2.2.1,p9.2.2.2.2.2.2.2.2.2.2.1,p9.2.2.2.2.2.2.2.2.2.2.2.1,p9.2.2.2.2.2.2.2.2.2.2.2.2.1,p9.2.2.2.2.2.2.2.2.2.2.2.2.2.1,p9.2.2.2.2.2.2.2.2.2.2.2.2.2.2.1,()))
 else none)
 | .ret o21=>some o21)
 else
  some (.inr (p9.1,p9.2.1,p9.2.2.1,p9.2.2.2.1,p9.2.2.2.2.1,p9.2.2.2.2.2.1,p9.2.2.2.2.2.2.1,p9.2.2.2.2.2.2.2.1,p9.2.2.2.2.2.2.2.2.1,p9.2.2.2.2.2.2.2.2.2.1,p9.2.2.2.2.2.2.2.2.2.2.1,p9.2.2.2.2.2.2.2.2.2.2.2.1,p9.2.2.2.2.2.2.2.2.2.2.2.2.1,p9.2.2.2.2.2.2.2.2.2.2.2.2.2.1,p9.2.2.2.2.2.2.2.2.2.2.2.2.2.2.1,())))
def qAG  (fu:Nat)(a:Fm)(most:Int):Option Fm :=
 (bif(List.any [a] (fun z0=>(z0.1||(!(yz z0)))))then
 some (true,(0:Int),[],(0:Int))
 else
  (bif(JL a.2.2.1)then
  some a.2.2.1
 else none).bind fun x1=>
  (bif(true&&(Nat.beq (List.length (List.map (vT) x1)) (List.length (List.map (vT) x1))))then
  (qu (List.map (vT) x1)).bind fun x2=>
  (qmS x2 ()).bind fun x3=>
  (bif(true&&((decide (0≤(min (max most 0) (((List.length (List.map (vT) x1)):Nat):Int))))&&((decide ((min (max most 0) (((List.length (List.map (vT) x1)):Nat):Int))≤(min (max most 0) (((List.length (List.map (vT) x1)):Nat):Int))))&&(decide ((min (max most 0) (((List.length (List.map (vT) x1)):Nat):Int))≤(((List.length (List.map (vT) x1)):Nat):Int))))))then
  (bif(true&&(Nat.ble (Int.toNat (min (max most 0) (((List.length (List.map (vT) x1)):Nat):Int))) (List.length (List.map (vT) x3))))then
  (qu (List.take (Int.toNat (min (max most 0) (((List.length (List.map (vT) x1)):Nat):Int))) (List.map (vT) x3))).bind fun x4=>
  (soS x4 ()).bind fun x5=>
  (bif(Nat.beq x5.length (Int.toNat (min (max most 0) (((List.length (List.map (vT) x1)):Nat):Int))))then
  (Su.sub ((List.map (vT) x5)++(List.drop (Int.toNat (min (max most 0) (((List.length (List.map (vT) x1)):Nat):Int))) (List.map (vT) x3))) 0 (List.length (List.map (vT) x1))).bind fun x6=>
  (Su.sub ((List.map (vT) x5)++(List.drop (Int.toNat (min (max most 0) (((List.length (List.map (vT) x1)):Nat):Int))) (List.map (vT) x3))) 0 (Int.toNat (min (max most 0) (((List.length (List.map (vT) x1)):Nat):Int)))).bind fun x7=>
  (Su.sub ((List.map (vT) x5)++(List.drop (Int.toNat (min (max most 0) (((List.length (List.map (vT) x1)):Nat):Int))) (List.map (vT) x3))) 0 (Int.toNat (min (max most 0) (((List.length (List.map (vT) x1)):Nat):Int)))).bind fun x8=>
  (itP fu (qbo fu) (x7,a.2.2.2,a.2.2.1,(List.length a.2.2.1:Int),(0:Int),a.1,a.2.1,a.2.2.1,a.2.2.2,[],false,(0:Int),0,0,(0:Int),())).bind fun x22=>
  ((qu x22.1).bind fun x23=>
  (bif(JL x23)then
  some x23
 else none)).bind fun x24=>
  (((((qu (List.map (vT) x24)).bind fun x25=>
  some (x25,x22.2.1)).bind fun x26=>
  some (x22.2.2.2.2.2.2.1,x26)).bind fun x27=>
  some (false,x27)).bind fun x28=>
  (bif(List.all x28.2.2.1 (fun z29=>(!(zI (Tm.c z29)))))then
  some (jR x28)
 else none)).bind fun x30=>
  some x30
 else none)
 else none)
 else none)
 else none))
theorem wU{j M:Nat}(h:j<M)(hM:M≤549755813888):IntKind.i64.wrap ((j:Int)+1)=((j+1:Nat):Int):=by
 rw[show((j:Int)+1)=((j+1:Nat):Int) by omega];exact rkW (by omega) (by omega)
abbrev qAH:=(Bool×Int×(List Tm)×Int×(List T)×Bool×Int×Nat×Nat×Int×Unit)
def qg6(K A:List Tm)(R:qAH)(i:Nat)(e:Int):(List T)×(Int×(List Tm)×Int×Int×qAH):=(K.map vT,e,A,((A.length:Nat):Int),(i:Int),R)
theorem ixT{K:List Tm}{j:Nat}(h:j<K.length):idx (K.map vT) (j:Int)=some (vT K[j]):=by
 rw[jB,KQ,zD h];rfl
def qr9(K:List Tm)(t:Tm)(j:Nat):Bool:=match K[j]? with
 | some u=>!(decide (t.id=u.id)&&(decide (t.c=u.c)&&true))
 | none=>true
theorem allK(K:List Tm)(t:Tm):qr5 K.length (qr9 K t) = !inK K t:=by
 cases h:inK K t with
 | true=>
  obtain⟨j,hj,e⟩:=List.getElem_of_mem (qkg.1 h)
  refine qv2.2 ⟨j,hj,?_⟩
  unfold qr9;rw[zD hj,e];simp
 | false=>
  refine qmM.2 fun j hj=>?_
  unfold qr9;rw[zD hj];show(!(decide (t.id=K[j].id)&&(decide (t.c=K[j].c)&&true)))=true
  cases hq:(decide (t.id=K[j].id)&&(decide (t.c=K[j].c)&&true))with
  | false=>rfl
  | true=>
   have:inK K t=true:=by
    unfold inK;rw[List.any_eq_true];exact⟨K[j],XQ hj,by simpa using hq⟩
   rw[h]at this;cases this
theorem qFf{K A:List Tm}{R:qAH}{i:Nat}{e:Int}{t:Tm}(hK:K.length≤549755813888)(hA:A.length≤549755813888)(hi:i<A.length) :
 ja (K.length+1) (qc3 (qg6 K A R i e) t) (K.map vT,(((K.map vT).length:Nat):Int),((0:Nat):Int),t.id,t.c,())
  (bif qr5 K.length (qr9 K t)then .exit 0 (K.map vT,(((K.map vT).length:Nat):Int),((K.length:Nat):Int),t.id,t.c,())else .ret (.inl (qg6 K A R (i+1) e))):=by
 refine qv3 (mk:=fun j=>(K.map vT,(((K.map vT).length:Nat):Int),(j:Int),t.id,t.c,())) ?_ ?_ ?_
 · intro j hj ho
   have d0:decide ((j:Int)<(((K.map vT).length:Nat):Int))=true:=zf (by simp;omega)
   have g:=ixT hj;have w:=wU hj hK;unfold qr9 at ho;rw[zD hj]at ho;have hq:(decide (t.id=K[j].id)&&(decide (t.c=K[j].c)&&true))=false:=by simpa only[KR]using ho
   simp only[qc3,d0,g,qg1,qg2,qg3,qg4,zi,zd,hq,zh,w]
 · intro j hj ho
   have d0:decide ((j:Int)<(((K.map vT).length:Nat):Int))=true:=zf (by simp;omega)
   have d1:decide ((0:Int)≤(j:Int))=true:=zf (by omega)
   have g:=ixT hj;have w:=wU hi hA;unfold qr9 at ho;rw[zD hj]at ho;have hq:(decide (t.id=K[j].id)&&(decide (t.c=K[j].c)&&true))=true:=by simpa using ho
   simp only[qc3,d0,d1,g,qg1,qg2,qg3,qg4,zi,zd,hq,zh,Kh,qg6,w]
 · have d0:decide (((K.length:Nat):Int)<(((K.map vT).length:Nat):Int))=false:=zk (by simp)
   simp only[qc3,d0,zh]
theorem qAI{K A:List Tm}{R:qAH}(hK:K.length≤549755813888)(hA:A.length≤549755813888){fu:Nat}(hf:K.length+1≤fu) :
 ∀(d i m:Nat) (e:Int),i+d=A.length→d+1≤m→itP m (qbo fu) (qg6 K A R i e)=some (qg6 K A R A.length (qke (inK K) (A.drop i) e)):=by
 intro d;induction d with
 | zero=>
  intro i m e hi hm;have hi:i=A.length:=by omega
  subst hi;obtain⟨m',rfl⟩:∃m',m=m'+1:=⟨m-1,by omega⟩
  rw[qC,List.drop_length];simp only[qbo,qg6,Int.lt_irrefl,XV,zh,zi,qke]
 | succ d ih=>
  intro i m e hi hm;obtain⟨m',rfl⟩:∃m',m=m'+1:=⟨m-1,by omega⟩
  have hi':i<A.length:=by omega
  have d0:decide ((i:Int)<((A.length:Nat):Int))=true:=zf (by omega)
  have w:=wU hi' hA;have r:=qFf (R:=R) (e:=e) (t:=A[i]) hK hA hi' fu hf
  rw[allK]at r;have step:qbo fu (qg6 K A R i e)=some (.inl (qg6 K A R (i+1) (bif inK K A[i]then e else upI [e,qcY A[i].c]))):=by
   cases hk:inK K A[i]with
   | true=>
    rw[hk]at r;simp only[Kh,zh]at r;simp only[qg6]at r ⊢;simp only[qbo,d0,zd,ixl hi',zi];rw[show(0:Int)=((0:Nat):Int) from rfl,r];rfl
   | false=>
    rw[hk]at r;simp only[Kl,zd]at r;simp only[qg6]at r ⊢;simp only[qbo,d0,zd,ixl hi',zi];rw[show(0:Int)=((0:Nat):Int) from rfl,r];simp only[zi,w];rfl
  rw[qC,step];show itP m' _ _=_
  rw[ih (i+1) m' _ (by omega) (by omega),Kk hi'];rfl
def qkm(a:Fm)(l:List Tm):Fm:=jR (false,a.2.1,l,qke (inK l) a.2.2.1 a.2.2.2)
def jV(A:List Tm)(most:Int):List Tm:=ssK Tm.id ((ssK qk A).take (min (max most 0) (A.length:Int)).toNat)
theorem anyN{a:Fm}(h:okF a=true):(List.any [a] fun z0=>(z0.1||(!(yz z0))))=false:=by
 have:(List.any [a] fun z0=>(z0.1||(!(yz z0)))) = !okF a:=by simp[okF]
 rw[this,h];rfl
theorem qkn:∀ {l:List Tm} {lo:Int},ye lo l=true→∀t∈l,zI t.c=false∧fI t.c=true
 | [],_,_,t,ht=>by cases ht
 | a::l,lo,h,t,ht=>by
  unfold ye at h;simp only[zm,KR]at h;rcases zJ.1 ht with rfl | ht
  · exact⟨h.2.1,h.2.2.1⟩
  · exact qkn h.2.2.2 t ht
theorem qmT:∀ {l:List Tm} {lo:Int},ye lo l=true→(l.map Tm.id).Nodup
 | [],_,_=>Wq
 | a::l,lo,h=>by
  unfold ye at h;simp only[zm,KR,zF]at h;rw[KY,Vc];refine⟨fun hm=>?_,qmT h.2.2.2⟩
  obtain⟨t,ht,e⟩:=K4.1 hm;have:=qfh h.2.2.2 t ht
  omega
theorem qh9{A:List Tm}{lo most:Int}(h:ye lo A=true):(jV A most).Perm (A.filter (inK (jV A most))):=by
 unfold jV;refine kept (r:=(ssK qk A).drop (min (max most 0) (A.length:Int)).toNat) (qgB h) ?_
 refine List.Perm.trans ((QQ Tm.id _).append_right _) ?_
 rw[Ky];exact QQ qk A
theorem qmU(A:List Tm)(most:Int):((jV A most).length:Int)=min (max most 0) (A.length:Int):=by
 unfold jV;rw[yn,Kj,yn];omega
theorem subR(K:List Tm)(r:List T)(n:Nat)(h:n≤(K.map vT++r).length):Su.sub (K.map vT++r) 0 n=some ((K.map vT++r).take n):=by
 unfold Su.sub;rw[zQ,zn h,zd,WH]
theorem qAJ(b:Bool)(mid:Int)(A:List Tm)(e:Int)(most:Int)(ho:okF (b,mid,A,e)=true)(hl:A.length≤40) :
 ∃n,qAG n (b,mid,A,e) most=some (qkm (b,mid,A,e) (jV A most)):=by
 obtain⟨N,hN⟩:∃N:Nat,min (max most 0) ((A.length:Nat):Int)=(N:Int):=⟨(min (max most 0) ((A.length:Nat):Int)).toNat,by omega⟩
 have hNl:N≤A.length:=by omega
 have hr:ye (-1) A=true:=qkf ho
 have hK0:jV A most=ssK Tm.id ((ssK qk A).take N):=by unfold jV;rw[hN,zl]
 have hkl:(jV A most).length=N:=by have:=qmU A most;omega
 have hLl:(ssK qk A).length=A.length:=yn _ _
 refine⟨A.length+50,?_⟩
 have r3:=qAI (K:=jV A most) (A:=A) (R:=(b,mid,A,e,[],false,0,0,0,0,())) (by omega) (by omega) (fu:=A.length+50) (by omega) A.length 0 (A.length+50) e (by omega) (by omega)
 unfold qAG;refine(Qa (anyN ho)).trans (obs (t:=A) (qH (zn (by show A.length≤_;omega))) ?_)
 simp only[rkM,hN,zl];refine(qH (by simp)).trans (obs (qA A) ?_)
 have ss:qmS A ()=some (ssK qk A):=qH (by rw[ZE.2 (fun t ht=>(qkn hr t ht).2),zn hl];rfl)
 refine obs ss ?_
 refine(qH (by rw[zf (by omega),zf (by omega),zf (by omega)];rfl)).trans ?_
 refine(qH (by rw[hLl,zn hNl];rfl)).trans ?_
 refine obs (t:=(ssK qk A).take N) (by rw[← qHJ];exact qA _) ?_
 have hnd:ndI ((ssK qk A).take N)=true:=zf (by
  have h1:((ssK qk A).map Tm.id).Nodup:=((QQ qk A).map Tm.id).nodup_iff.2 (qmT hr)
  exact h1.sublist ((List.take_sublist _ _).map _))
 have so:soS ((ssK qk A).take N) ()=some (jV A most):=by
  rw[hK0];exact qH (by rw[hnd,zn (by rw[Kj];omega)];rfl)
 refine obs so ((qH (by rw[hkl];simp)).trans ?_)
 have lr:(List.map vT (jV A most)++List.drop N (List.map vT (ssK qk A))).length=A.length:=by
  rw[zw,rkM,hkl,Vf,rkM,hLl];omega
 have sb:Su.sub (List.map vT (jV A most)++List.drop N (List.map vT (ssK qk A))) 0 N=some (List.map vT (jV A most)):=by
  rw[subR _ _ _ (by rw[lr];exact hNl),Wa (by rw[rkM,hkl])]
 refine obs (subR _ _ _ (by rw[lr];exact zE _)) (obs sb (obs sb ?_))
 refine obs r3 ?_
 refine obs (t:=jV A most) (obs (qA (jV A most)) (qH (zn (by rw[hkl];omega)))) ?_
 refine obs (t:=qkm (b,mid,A,e) (jV A most)) (obs (t:=(false,mid,jV A most,qke (inK (jV A most)) A e)) (obs (obs (obs (qA (jV A most)) rfl) rfl) rfl) (qH ?_)) rfl
 refine KH.2 fun t ht=>?_
 have hm:t∈A:=(Wi.1 ((qh9 hr).mem_iff.1 ht)).1
 rw[(qkn hr t hm).1];rfl
def qko(p:Fm×Int):Option Fm:=bif okF p.1&&Nat.ble p.1.2.2.1.length 40 then some (qkm p.1 (jV p.1.2.2.1 p.2))else none
theorem qAK(p:Fm×Int)(y:Fm)(hg:(dc qB (d1 (cI .i64))).good p)(h:qko p=some y):∃n,qAG n p.1 p.2=some y:=by
 obtain⟨⟨b,mid,A,e⟩,most⟩:=p;obtain⟨h1,h2⟩:=qi h;have:=soi h2;subst this
 rw[zm]at h1;exact qAJ b mid A e most h1.1 (zo h1.2)
end
end Su
end
section
namespace Su
open Go Fly
noncomputable section
def qCK  (f:Int):Option (Bool×(List Int)×List Int) :=
 (QN (yE f.toNat:Int)).bind fun x0=>
 some x0.1
def qmV(f:Int):Rt:=bif Yz (yE f.toNat)then(false,[],[])else JR (yE f.toNat)
def qbp(f:Int):Option Rt:=bif okS []then some (qmV f)else none
theorem qwg(f:Int)(y:Rt)(hg:(d1 (cI .u64)).good f)(h:qbp f=some y):qCK f=some y:=by
 obtain⟨_,h⟩:=qi h;have:=soi h;subst this
 refine obB (Z6 _) ?_
 unfold qmV;rw[zl];cases Yz (yE f.toNat) <;> rfl
end
end Su
end
section
namespace Su
open Go Fly
noncomputable section
def qkp:((List Tm)×Int×Int×Bool×(List Int)×(List Int)×Bool×(List Int)×(List Int)×Bool×(List Int)×(List Int)×Unit)→Option (((List Tm)×Int×Int×Bool×(List Int)×(List Int)×Bool×(List Int)×(List Int)×Bool×(List Int)×(List Int)×Unit) ⊕ ((List Tm)×Int×Int×Bool×(List Int)×(List Int)×Bool×(List Int)×(List Int)×Bool×(List Int)×(List Int)×Unit)):=fun p4=>(bif(decide (p4.2.2.1<p4.2.1))then
 (idx p4.1 p4.2.2.1).bind fun x5=>
 (qbp (Tm.c x5)).bind fun x6=>
 (Z4 ((p4.2.2.2.2.2.2.2.2.2.1,p4.2.2.2.2.2.2.2.2.2.2.1,p4.2.2.2.2.2.2.2.2.2.2.2.1),x6)).bind fun x7=>
 some (.inl (p4.1,p4.2.1,(IntKind.wrap .i64 (p4.2.2.1+1)),p4.2.2.2.1,p4.2.2.2.2.1,p4.2.2.2.2.2.1,p4.2.2.2.2.2.2.1,p4.2.2.2.2.2.2.2.1,p4.2.2.2.2.2.2.2.2.1,x7.1,x7.2.1,x7.2.2,()))
 else
  some (.inr (p4.1,p4.2.1,p4.2.2.1,p4.2.2.2.1,p4.2.2.2.2.1,p4.2.2.2.2.2.1,p4.2.2.2.2.2.2.1,p4.2.2.2.2.2.2.2.1,p4.2.2.2.2.2.2.2.2.1,p4.2.2.2.2.2.2.2.2.2.1,p4.2.2.2.2.2.2.2.2.2.2.1,p4.2.2.2.2.2.2.2.2.2.2.2.1,())))
def aOf  (fu:Nat)(a:Fm)(f:Int):Option Bool :=
 (QN f).bind fun x0=>
 (bif(!x0.2)then
 some x0.2
 else
  (bif(List.any [a] (fun z1=>(z1.1||(!(yz z1)))))then
  some x0.2
 else
  (QN a.2.1).bind fun x2=>
  (qbp a.2.2.2).bind fun x3=>
  (itP fu (qkp) (a.2.2.1,(List.length a.2.2.1:Int),(0:Int),x0.1.1,x0.1.2.1,x0.1.2.2,x2.1.1,x2.1.2.1,x2.1.2.2,x3.1,x3.2.1,x3.2.2,())).bind fun x8=>
  (qaN ((x8.2.2.2.1,x8.2.2.2.2.1,x8.2.2.2.2.2.1),x8.2.2.2.2.2.2.1,x8.2.2.2.2.2.2.2.1,x8.2.2.2.2.2.2.2.2.1)).bind fun x9=>
  (Zb x9).bind fun x10=>
  (qaM (x10,x8.2.2.2.2.2.2.2.2.2.1,x8.2.2.2.2.2.2.2.2.2.2.1,x8.2.2.2.2.2.2.2.2.2.2.2.1)).bind fun x11=>
  some (decide (x11≤0))))
theorem qmW{c:Int}(hg:inR .u64 c=true)(h:fI c=true):qmV c=mkQ (avF c:Int) QD:=by
 obtain⟨n,rfl,hn⟩:=q9 hg;have h':jT (bK n)=true:=by have:=h;unfold fI at this;rwa [zl]at this
 have hnan:qP (bK n)=false:=y9.2 (by have:=qZ.1 h';omega)
 have hab:yE n=bK n:=by unfold yE;rw[hnan];rfl
 have hnum:Yz (bK n)=false:=by
  have:=qj3 (bK n)
  rw[qh3,h']at this;cases hx:Yz (bK n)with
  | false=>rfl
  | true=>rw[hx]at this;cases this
 unfold qmV avF;rw[zl,hab,hnum,zh,YP]
 congr 1
 unfold fv fvK;rw[qh3,qvF,h',zd,zd,zh];cases bS n <;> simp
abbrev OfS:=List Tm×(Int×Int×Bool×List Int×List Int×Bool×List Int×List Int×Bool×List Int×List Int×Unit)
def qAL(l:List Tm)(v m r:Rt)(i:Int):OfS:=(l,((l.length:Nat):Int),i,v.1,v.2.1,v.2.2,m.1,m.2.1,m.2.2,r.1,r.2.1,r.2.2,())
theorem qmX(c:Int):qbp c=some (qmV c):=by unfold qbp;rw[qjJ,zd]
theorem qqE{p r:Int}(h1:p.natAbs<1048576*2^BX)(h2:r.natAbs<1048576*2^BX):Z4 (mkQ p QD,mkQ r QD)=some (mkQ (p+r) QD):=by
 unfold Z4;simp only[];rw[(qaU h1).ok4 (by omega),(qaU h2).ok4 (by omega),addD];rfl
theorem qqF(l:List Tm)(hl:l.length≤1000000)(hg:∀t∈l,inR .u64 t.c=true)(hf:∀t∈l,fI t.c=true)(v m:Rt):∀(r A:List Tm) (s k:Nat),A++r=l→s<k*2^BX→k+r.length≤1000010 →
 ja (r.length+1) qkp (qAL l v m (mkQ (s:Int) QD) A.length) (qAL l v m (mkQ ((Zd r s:Nat):Int) QD) l.length)
 | [],A,s,k,h,_,_=>by
  rw[zO]at h;subst h;refine ja.stop ?_
  unfold qAL;simp only[qkp,ltN,zk (Nat.lt_irrefl _),zh];rfl
 | x::r,A,s,k,h,hs,hk=>by
  have hm:l.length≤maxLen:=by rw[jb];omega
  have hi:A.length<l.length:=by rw[← h];simp
  have hx:x∈l:=by rw[← h];simp
  have hgx:idx l (A.length:Int)=some x:=by
   rw[jB,← h,zP (by omega),Vi];rfl
  have ha:=qb2 x.c;have hs':s+avF x.c<(k+1)*2^BX:=by rw[zV];omega
  rw[zq]at hk;have hbig:∀z q:Nat,z<q*2^BX→q≤1048576→(z:Int).natAbs<1048576*2^BX:=fun z q h1 h2=>by
   rw[VE];exact Ki h1 (zH _ h2)
  have hadd:=qqE (hbig s k hs (by omega)) (hbig (avF x.c) 1 (by omega) (by omega))
  have ih:=qqF l hl hg hf v m r (A++[x]) (s+avF x.c) (k+1) (by rw[← h];simp) hs' (by omega)
  refine ja.next ?_ ih
  unfold qAL;simp only[qkp,ltN,zf hi,zd,hgx,zi,w1 hi hm,qmX];rw[qmW (hg x hx) (hf x hx)];refine obB hadd ?_
  rw[show(A++[x]).length=A.length+1 by simp];rfl
def qc4(p:Fm×Int):Option Bool:=bif Nat.ble p.1.2.2.1.length 1000000 then some (ofS p.1 p.2)else none
theorem qFg(p:Fm×Int)(y:Bool)(hg:(dc qB (d1 (cI .u64))).good p)(h:qc4 p=some y):∃n,aOf n p.1 p.2=some y:=by
 obtain⟨a,f⟩:=p;obtain⟨hm,h⟩:=qi h;have:=soi h;subst this
 have hl:a.2.2.1.length≤1000000:=zo hm
 refine⟨a.2.2.1.length+1,?_⟩
 show aOf (a.2.2.1.length+1) a f=some (ofS a f)
 have ha:List.any [a] (fun z0=>(z0.1||(!(yz z0)))) = !okF a:=by simp[okF]
 unfold aOf ofS;refine obB (Z6 f) ?_
 rcases XM (Yz f.toNat)with hn | hn
 · rw[hn];rfl
 · rw[hn]
   simp only[zh,Kh,Kl,zG];rw[ha];rcases XM (okF a)with ho | ho
   · obtain⟨h0,hfin⟩:=yR ho
     rw[ho];simp only[zh,Kh,VL];obtain⟨-,g1,⟨g2,-⟩,g3⟩:=hg.1
     refine obB (Z6 a.2.1) ?_
     rw[qj4 hfin.mid,zh];refine obB (qmX _) ?_
     rw[qmW g3 hfin.err];have hrun:=qqF a.2.2.1 hl (fun t ht=>(g2 t ht).2) hfin.tms (JR f.toNat) (JR a.2.1.toNat) a.2.2.1 [] (avF a.2.2.2) 1 rfl (by have:=qb2 a.2.2.2;omega) (by omega)
     refine obB (hrun _ (zE _)) ?_
     have b1:=qdE f.toNat;have b2:=qdE a.2.1.toNat;have b3:(fv f.toNat-fv a.2.1.toNat).natAbs<1048576*2^BX:=by omega
     have b4:((Zf a:Nat):Int).natAbs<1048576*2^BX:=by
      have:=qj5 a.2.2.1 (avF a.2.2.2) 1 (by have:=qb2 a.2.2.2;omega)
      rw[VE];exact Ki this (zH _ (by omega))
     have z1:Sz (JR f.toNat) 100000:=(qc0 _).mono (by omega)
     have z2:Sz (JR a.2.1.toNat) 100000:=(qc0 _).mono (by omega)
     have s1:qaN (JR f.toNat,JR a.2.1.toNat)=some (mkQ (fv f.toNat-fv a.2.1.toNat) QD):=by
      rw[(qvD z1 z2).1,YP,YP,subD]
     have s2:Zb (mkQ (fv f.toNat-fv a.2.1.toNat) QD)=some (mkQ ((fv f.toNat-fv a.2.1.toNat).natAbs:Int) QD):=by
      rw[(qop ((qaU b3).mono (by omega))).1,qj1 _ JG]
     have s3:qaM (mkQ ((fv f.toNat-fv a.2.1.toNat).natAbs:Int) QD,mkQ ((Zf a:Nat):Int) QD)=some (qaT ((fv f.toNat-fv a.2.1.toNat).natAbs:Int) (Zf a:Int)):=by
      rw[qvE ((qaU (by rw[VE];exact b3)).mono (by omega)) ((qaU b4).mono (by omega)),cmpD]
     refine obB s1 (obB s2 (obB s3 ?_))
     rw[qqj]
     congr 1
     by_cases hle:(fv f.toNat-fv a.2.1.toNat).natAbs≤Zf a
     · rw[zf hle,zf (by omega)]
     · rw[zk hle,zk (by omega)]
   · rw[ho];rfl
end
end Su
end
section
namespace Su
open Go Fly
noncomputable section
def qFh  (s:(Bool×Int×Int))(f:Int):Option Bool :=
 (bif(!(decide ((((qE (bK f.toNat)):Nat):Int)=3)))then
 (bif(!(qK (false,f,f)).1)then
 (bif(qK (qK (false,f,f))).1 then
 some true
 else
  (bif(!(qK s).1)then
  (bif(leF (qK s).2.1 (qK (qK (false,f,f))).2.1)then
  some (leF (qK (qK (false,f,f))).2.2 (qK s).2.2)
 else
  some false)
 else
  some false))
 else
  some false)
 else
  some false)
def qwh(p:Spn×Int):Option Bool:=some (qey p.1 p.2)
theorem qAM(p:Spn×Int)(y:Bool)(hg:(dc qgV (d1 (cI .u64))).good p)(h:qwh p=some y):qFh p.1 p.2=some y:=by
 have:=soi h;subst this
 unfold qFh qey qEJ qmz;have e:decide (((qE (bK p.2.toNat):Nat):Int)=3)=decide (qE (bK p.2.toNat)=3):=qn2 _ 3
 rw[e];generalize qK (false,p.2,p.2)=t
 generalize qK t=u
 generalize qK p.1=t'
 cases decide (qE (bK p.2.toNat)=3)with
 | true=>rfl
 | false=>
  cases t.1 with
  | true=>rfl
  | false=>
   cases u.1 with
   | true=>rfl
   | false=>
    cases t'.1 with
    | true=>rfl
    | false=>cases leF t'.2.1 u.2.1 <;> rfl
end
end Su
end
section
namespace Su
open Go Fly
noncomputable section
theorem qc5:∀(l:List Tm) (s:Nat),Zd l s=s+Zd l 0
 | [],s=>rfl
 | t::l,s=>by
  show Zd l (s+avF t.c)=s+Zd l (0+avF t.c)
  rw[qc5 l (s+avF t.c),qc5 l (0+avF t.c)];omega
theorem qia(t:Tm)(l:List Tm):Zd (t::l) 0=avF t.c+Zd l 0:=by
 show Zd l (0+avF t.c)=_
 rw[qc5];omega
theorem qwi{nz:Int→Int}(hz:Nz8 nz):∀l:List Tm,((lnS nz l).natAbs:Int)≤8*((Zd l 0:Nat):Int)
 | []=>by show((0:Int).natAbs:Int)≤8*((0:Nat):Int);decide
 | t::l=>by
  have h1:=qwi hz l;have h2:=Zg (d:=fv t.c.toNat) (Vy _) (hz t.id).1 (hz t.id).2
  rw[qia];show((fv t.c.toNat*nz t.id+lnS nz l).natAbs:Int)≤_
  have e:avF t.c=(fv t.c.toNat).natAbs:=rfl
  generalize fv t.c.toNat*nz t.id=u at *
  omega
def sgZ(c:Int):Int:=if 0≤fv c.toNat then 8 else -8
def hiZ:List Tm→Int→Int
 | [],_=>0
 | t::l,i=>if t.id=i then sgZ t.c else hiZ l i
theorem sg8(c:Int) : -8≤sgZ c∧sgZ c≤8:=by unfold sgZ;by_cases h:0≤fv c.toNat <;> simp[h]
theorem hi8:∀l:List Tm,Nz8 (hiZ l)
 | [],i=>by show -8≤(0:Int)∧(0:Int)≤8;omega
 | t::l,i=>by
  unfold hiZ;by_cases h:t.id=i
  · rw[Kp h];exact sg8 _
  · rw[zZ h];exact hi8 l i
theorem qwj:∀ {l:List Tm} {lo:Int},ye lo l=true→∀t∈l,hiZ l t.id=sgZ t.c
 | [],_,_,t,ht=>by cases ht
 | x::l,lo,h,t,ht=>by
  unfold hiZ;rcases zJ.1 ht with rfl | ht
  · rw[Kp rfl]
  · unfold ye at h
    simp only[zm,KR,zF]at h;have:=qfh h.2.2.2 t ht
    rw[zZ (by omega)];exact qwj h.2.2.2 t ht
theorem qAN(c:Int):fv c.toNat*sgZ c=8*((avF c:Nat):Int):=by
 unfold sgZ avF;by_cases h:0≤fv c.toNat
 · rw[Kp h];omega
 · rw[zZ h];omega
theorem qwk(nz:Int→Int)(k:Int):∀l:List Tm,(∀t∈l,nz t.id=k*sgZ t.c)→lnS nz l=k*(8*((Zd l 0:Nat):Int))
 | [],_=>by show(0:Int)=k*(8*((0:Nat):Int));simp
 | t::l,h=>by
  rw[qia];show fv t.c.toNat*nz t.id+lnS nz l=_
  rw[qwk nz k l fun t ht=>h t (zp _ ht),h t (zu ..),Int.mul_left_comm,qAN,Vg,Int.mul_add,Int.mul_add]
theorem qAO{a:Fm}(ha:okF a=true):∃n1 n2,Nz8 n1∧Nz8 n2∧qbx n1 a (8*(fv a.2.1.toNat+((Zf a:Nat):Int))) 1∧qbx n2 a (8*(fv a.2.1.toNat-((Zf a:Nat):Int))) 1:=by
 have he:=qkc ha;have hm:=qwj (qkf ha)
 have ea:((avF a.2.2.2:Nat):Int)=fv a.2.2.2.toNat:=by unfold avF;omega
 have er:((Zf a:Nat):Int)=fv a.2.2.2.toNat+((Zd a.2.2.1 0:Nat):Int):=by
  unfold Zf;rw[qc5,Vg,ea]
 have z2:Nz8 fun i=>-hiZ a.2.2.1 i:=fun i=>by have:=hi8 a.2.2.1 i;show -8≤-hiZ a.2.2.1 i∧-hiZ a.2.2.1 i≤8;omega
 refine⟨hiZ a.2.2.1,fun i=>-hiZ a.2.2.1 i,hi8 _,z2,.inr ?_,.inr ?_⟩
 · have:=qwk (hiZ a.2.2.1) 1 a.2.2.1 fun t ht=>by rw[hm t ht,Int.one_mul]
   unfold smN;rw[this,er];omega
 · have:=qwk (fun i=>-hiZ a.2.2.1 i) (-1) a.2.2.1 fun t ht=>by show -hiZ a.2.2.1 t.id=_;rw[hm t ht,V8,Int.one_mul]
   unfold smN;rw[this,er];omega
theorem qkq{a c:Fm}(ha:okF a=true)(h:∀nz X,Nz8 nz→qbx nz a X 1→qbx nz c X 1){f:Int}(hf:ofS a f=true):ofS c f=true:=by
 unfold ofS at hf ⊢
 rw[zm,Vw,ha]at hf;obtain⟨hn,h1⟩:=hf;rw[zm,Vw];refine⟨hn,?_⟩
 cases hc:okF c with
 | false=>exact .inl rfl
 | true=>
  right;have h1:(fv f.toNat-fv a.2.1.toNat).natAbs≤Zf a:=by
   rcases h1 with h1 | h1
   · cases h1
   · exact KC h1
  refine zf ?_
  obtain⟨n1,n2,z1,z2,q1,q2⟩:=qAO ha;have c1:c.1=false:=(yR hc).1
  have r1:=(h n1 _ z1 q1).resolve_left (by rw[c1];simp)
  have r2:=(h n2 _ z2 q2).resolve_left (by rw[c1];simp)
  have l1:=qwi z1 c.2.2.1;have l2:=qwi z2 c.2.2.1;have he:=qkc hc;have ea:((avF c.2.2.2:Nat):Int)=fv c.2.2.2.toNat:=by unfold avF;omega
  have er:((Zf c:Nat):Int)=fv c.2.2.2.toNat+((Zd c.2.2.1 0:Nat):Int):=by
   unfold Zf;rw[qc5,Vg,ea]
  unfold smN at r1 r2;omega
end
end Su
end
