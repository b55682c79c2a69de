/-
  What functions of the program compute, in plain Lean, and that the evaluator finds it.
-/
import Derived.Test.YtnegfdebjikfiaaGreatSuXl
import Derived.Test.YtnegfdebjikfiaaGreatNS04
import Derived.Test.YtnegfdebjikfiaaGreatNC31
import Derived.Test.YtnegfdebjikfiaaGreatNC08
set_option linter.unusedVariables false
set_option linter.unusedSimpArgs false
set_option maxRecDepth 10000
section
namespace Su
open Go Fly
noncomputable section
def Qq:Stp (Nat×Int×Int×Int×Int×(List T)×Unit):=fun p0=>(bif(decide (p0.2.2.2.2.1≤p0.2.1))then
 (bif(true&&(Nat.beq p0.1 p0.2.2.2.2.2.1.length))then
 (qD p0.2.2.2.2.2.1).bind fun x1=>
 (YM x1 (p0.2.2.2.1,p0.2.2.2.2.1,())).bind fun x2=>
 some (.inl (p0.1,p0.2.1,p0.2.2.1,p0.2.2.2.2.1,(IntKind.wrap .i64 (p0.2.2.2.2.1+p0.2.2.1)),(List.map (vT) x2),()))
 else none)
 else
  some (.inr (p0.1,p0.2.1,p0.2.2.1,p0.2.2.2.1,p0.2.2.2.2.1,p0.2.2.2.2.2.1,())))
def Qr:Stp (Nat×Int×Int×Int×Int×(List T)×Unit):=fun p7=>(bif(decide (p7.2.2.2.2.1≤p7.2.1))then
 (bif(true&&(Nat.beq p7.1 p7.2.2.2.2.2.1.length))then
 (qD p7.2.2.2.2.2.1).bind fun x8=>
 (QU 1000000 x8 (p7.2.2.2.1,(IntKind.wrap .i64 (p7.2.2.2.1+p7.2.2.1)),p7.2.2.2.2.1,())).bind fun x9=>
 some (.inl (p7.1,p7.2.1,p7.2.2.1,p7.2.2.2.2.1,(IntKind.wrap .i64 (p7.2.2.2.2.1+(IntKind.wrap .i64 (2*p7.2.2.1)))),(List.map (vT) x9),()))
 else none)
 else
  some (.inr (p7.1,p7.2.1,p7.2.2.1,p7.2.2.2.1,p7.2.2.2.2.1,p7.2.2.2.2.2.1,())))
def yS(fu:Nat):Stp (Nat×Int×Int×Int×Int×(List T)×Unit):=fun p6=>(bif(decide (p6.2.2.1<p6.2.1))then
 (itP fu (Qr) (p6.1,p6.2.1,p6.2.2.1,(0:Int),(IntKind.wrap .i64 (2*p6.2.2.1)),p6.2.2.2.2.2.1,())).bind fun x10=>
 (bif(decide ((IntKind.wrap .i64 (x10.2.2.2.1+x10.2.2.1))<x10.2.1))then
 (bif(true&&(Nat.beq x10.1 x10.2.2.2.2.2.1.length))then
 (qD x10.2.2.2.2.2.1).bind fun x11=>
 (QU 1000000 x11 (x10.2.2.2.1,(IntKind.wrap .i64 (x10.2.2.2.1+x10.2.2.1)),x10.2.1,())).bind fun x12=>
 some (.inl (x10.1,x10.2.1,(IntKind.wrap .i64 (x10.2.2.1*2)),x10.2.2.2.1,x10.2.2.2.2.1,(List.map (vT) x12),()))
 else none)
 else
  some (.inl (x10.1,x10.2.1,(IntKind.wrap .i64 (x10.2.2.1*2)),x10.2.2.2.1,x10.2.2.2.2.1,x10.2.2.2.2.2.1,())))
 else
  some (.inr (p6.1,p6.2.1,p6.2.2.1,p6.2.2.2.1,p6.2.2.2.2.1,p6.2.2.2.2.2.1,())))
def qsV  (fu:Nat)(L:(List Tm))(n:Int)(u:Unit):Option (List T) :=
 (itP fu (Qq) ((List.length (List.map (vT) L)),n,(20:Int),(0:Int),(20:Int),(List.map (vT) L),())).bind fun x3=>
 (bif(true&&(Nat.beq x3.1 x3.2.2.2.2.2.1.length))then
 (qD x3.2.2.2.2.2.1).bind fun x4=>
 (YM x4 (x3.2.2.2.1,x3.2.1,())).bind fun x5=>
 (itP fu (yS fu) (x3.1,x3.2.1,x3.2.2.1,x3.2.2.2.1,x3.2.2.2.2.1,(List.map (vT) x5),())).bind fun x13=>
 some x13.2.2.2.2.2.1
 else none)
theorem qiF(P O S:List Tm)(u:Unit)(hf:∀t∈P++O++S,fI t.c=true)(hn:(P++O++S).length≤1000000):YM (P++O++S) (((P.length:Nat):Int),((P.length+O.length:Nat):Int),u)=some (P++ssK qh O++S):=by
 have hl:(P++O++S).length=P.length+O.length+S.length:=by simp only[zp]
 unfold YM;simp only[zm];rw[qiE];refine jp ?_
 simp only[zl,zy];exact⟨by omega,by omega,by omega,Yd.2 hf,zB hn⟩
theorem qnV(X Y:List Tm):ssK qh (ssK qh X++ssK qh Y)=ssK qh (X++Y) :=
 ZE (QT _ _) (((YJ qh X).app (YJ qh Y)).trans (YJ _ _))
theorem qiG{L:List Tm}{t:Tm}:t∈ssK qh L↔t∈L:=(j8 qh L).mem_iff
abbrev StbS:=Nat×(Int×Int×Int×Int×(List T)×Unit)
def yu(N n bs a b:Nat)(K:List Tm):StbS:=(N,(n:Int),(bs:Int),(a:Int),(b:Int),K.map vT,())
theorem wPl{x y:Nat}(h:x+y≤1000000):IntKind.i64.wrap ((x:Int)+(y:Int))=((x+y:Nat):Int):=by
 rw[show((x:Int)+(y:Int))=((x+y:Nat):Int) by omega];exact rkW (by omega) (by omega)
theorem qB6{x:Nat}(h:x≤1000000):IntKind.i64.wrap (2*(x:Int))=((2*x:Nat):Int):=by
 rw[show(2*(x:Int))=((2*x:Nat):Int) by omega];exact rkW (by omega) (by omega)
theorem wTwr{x:Nat}(h:x≤1000000):IntKind.i64.wrap ((x:Int)*2)=((2*x:Nat):Int):=by
 rw[show((x:Int)*2)=((2*x:Nat):Int) by omega];exact rkW (by omega) (by omega)
theorem qmc{N n bs a b:Nat}{K K':List Tm}(hl:K.length=N)(hb:b≤n)(hs:b+bs≤1000000)(h:YM K ((a:Int),(b:Int),())=some K'):Qq (yu N n bs a b K)=some (.inl (yu N n bs b (b+bs) K')):=by
 have d0:decide ((b:Int)≤(n:Int))=true:=zd (by omega)
 show Qq (N,(n:Int),(bs:Int),(a:Int),(b:Int),K.map vT,())=_
 unfold Qq;refine(jp d0).trans ((jp (qks hl)).trans (obs (qL _) (obs h ?_)))
 show some (Sum.inl (N,(n:Int),(bs:Int),(b:Int),IntKind.i64.wrap ((b:Int)+(bs:Int)),K'.map vT,()))=_
 rw[wPl hs];rfl
theorem qiH{N n bs a b:Nat}{K:List Tm}(hb:n<b):Qq (yu N n bs a b K)=some (.inr (yu N n bs a b K)):=by
 have d0:decide ((b:Int)≤(n:Int))=false:=zh (by omega)
 show Qq (N,(n:Int),(bs:Int),(a:Int),(b:Int),K.map vT,())=_
 unfold Qq;exact QG d0
theorem qB7{N n bs a b:Nat}{K K':List Tm}(hl:K.length=N)(hb:b≤n)(hs:b+2*bs≤1000000)(ha:a+bs≤1000000)(h:QU 1000000 K ((a:Int),((a+bs:Nat):Int),(b:Int),())=some K'):Qr (yu N n bs a b K)=some (.inl (yu N n bs b (b+2*bs) K')):=by
 have d0:decide ((b:Int)≤(n:Int))=true:=zd (by omega)
 show Qr (N,(n:Int),(bs:Int),(a:Int),(b:Int),K.map vT,())=_
 unfold Qr;refine(jp d0).trans ((jp (qks hl)).trans (obs (qL _) ?_))
 show(QU 1000000 K ((a:Int),IntKind.i64.wrap ((a:Int)+(bs:Int)),(b:Int),())).bind _=_
 rw[wPl ha];refine obs h ?_
 show some (Sum.inl (N,(n:Int),(bs:Int),(b:Int),IntKind.i64.wrap ((b:Int)+IntKind.i64.wrap (2*(bs:Int))),K'.map vT,()))=_
 rw[qB6 (by omega),wPl (by omega)];rfl
theorem qnW{N n bs a b:Nat}{K:List Tm}(hb:n<b):Qr (yu N n bs a b K)=some (.inr (yu N n bs a b K)):=by
 have d0:decide ((b:Int)≤(n:Int))=false:=zh (by omega)
 show Qr (N,(n:Int),(bs:Int),(a:Int),(b:Int),K.map vT,())=_
 unfold Qr;exact QG d0
theorem qd8{N n bs a b fu:Nat}{K:List Tm}(hb:n≤bs):yS fu (yu N n bs a b K)=some (.inr (yu N n bs a b K)):=by
 have d0:decide ((bs:Int)<(n:Int))=false:=zh (by omega)
 show yS fu (N,(n:Int),(bs:Int),(a:Int),(b:Int),K.map vT,())=_
 unfold yS;exact QG d0
theorem qB8{N n bs a b a' b' fu:Nat}{K K1:List Tm}(hb:bs<n)(hbs:bs≤100000)(h:itP fu Qr (yu N n bs 0 (2*bs) K)=some (yu N n bs a' b' K1))(ha:a'+bs≤1000000)(hc:n≤a'+bs) :
 yS fu (yu N n bs a b K)=some (.inl (yu N n (2*bs) a' b' K1)):=by
 have d0:decide ((bs:Int)<(n:Int))=true:=zd (by omega)
 show yS fu (N,(n:Int),(bs:Int),(a:Int),(b:Int),K.map vT,())=_
 unfold yS;refine(jp d0).trans ?_
 simp only[qB6 (x:=bs) (by omega)];refine obs (t:=yu N n bs a' b' K1) h ?_
 refine(QG ?_).trans ?_
 · show decide (IntKind.i64.wrap ((a':Int)+(bs:Int))<(n:Int))=false
   rw[wPl ha];exact zh (by omega)
 · show some (Sum.inl (N,(n:Int),IntKind.i64.wrap ((bs:Int)*2),(a':Int),(b':Int),K1.map vT,()))=_
   rw[wTwr (by omega)];rfl
theorem qx9{N n bs a b a' b' fu:Nat}{K K1 K2:List Tm}(hl:K1.length=N)(hb:bs<n)(hbs:bs≤100000)(h:itP fu Qr (yu N n bs 0 (2*bs) K)=some (yu N n bs a' b' K1))(ha:a'+bs≤1000000)(hc:a'+bs<n)(hs:QU 1000000 K1 ((a':Int),((a'+bs:Nat):Int),(n:Int),())=some K2) :
 yS fu (yu N n bs a b K)=some (.inl (yu N n (2*bs) a' b' K2)):=by
 have d0:decide ((bs:Int)<(n:Int))=true:=zd (by omega)
 show yS fu (N,(n:Int),(bs:Int),(a:Int),(b:Int),K.map vT,())=_
 unfold yS;refine(jp d0).trans ?_
 simp only[qB6 (x:=bs) (by omega)];refine obs (t:=yu N n bs a' b' K1) h ?_
 refine(jp ?_).trans ((jp (qks hl)).trans (obs (qL _) ?_))
 · show decide (IntKind.i64.wrap ((a':Int)+(bs:Int))<(n:Int))=true
   rw[wPl ha];exact zd (by omega)
 · show(QU 1000000 K1 ((a':Int),IntKind.i64.wrap ((a':Int)+(bs:Int)),(n:Int),())).bind _=_
   rw[wPl ha];refine obs hs ?_
   show some (Sum.inl (N,(n:Int),IntKind.i64.wrap ((bs:Int)*2),(a':Int),(b':Int),K2.map vT,()))=_
   rw[wTwr (by omega)];rfl
theorem itQ{S R:Type}{n:Nat}{F:S→Option (S ⊕ R)}{s:S}{r:R}(h:F s=some (.inr r)):itP (n+1) F s=some r:=by rw[qu,h];rfl
theorem qd9{N n a b fu:Nat}{L K1 K2 K3:List Tm}{a2 b2 bs2:Nat}{u:Unit}(hL:L.length=N)(h1:itP fu Qq (yu N n 20 0 20 L)=some (yu N n 20 a b K1))(hl:K1.length=N)(h2:YM K1 ((a:Int),(n:Int),())=some K2)(h3:itP fu (yS fu) (yu N n 20 a b K2)=some (yu N n bs2 a2 b2 K3)) :
 qsV fu L (n:Int) u=some (K3.map vT):=by
 unfold qsV;rw[rkM,hL];exact obs (t:=yu N n 20 a b K1) h1 ((jp (qks hl)).trans (obs (qL _) (obs h2 (obs (t:=yu N n bs2 a2 b2 K3) h3 rfl))))
def qiI(L:List Tm)(p:Int×Unit):Option (List Tm):=bif decide (p.1=(L.length:Int))&&(qsO L&&Nat.ble L.length 40)then some (ssK qh L)else none
theorem qya(L:List Tm)(p:Int×Unit)(L':List Tm)(hl:L.length≤maxLen)(hg:(dc (cI .i64) (d1 (cF 79))).good p)(h:qiI L p=some L'):∃n,qsV n L p.1 p.2=some (L'.map vT):=by
 obtain⟨n,u⟩:=p;obtain⟨h1,h2⟩:=qj h;have:=soi h2;subst this
 simp only[zl,zy]at h1;obtain⟨rfl,hf,hm⟩:=h1;have hf:=Yd.1 hf;have hm:=zr hm;refine⟨100,?_⟩
 show qsV 100 L ((L.length:Nat):Int) u=_
 by_cases hA:L.length<20
 · have i1:=qiF [] L [] () (by simpa using hf) (by simp;omega)
   simp only[Ka,zD,zN,Kk]at i1;exact qd9 (a:=0) (b:=20) (bs2:=20) (a2:=0) (b2:=20) (K1:=L) (K2:=ssK qh L) rfl (itQ (qiH (by omega))) rfl i1 (itQ (qd8 (by omega)))
 · obtain⟨X,Y,rfl,q1⟩:=Ye (l:=L) (n:=20) (by omega)
   have q2:(X++Y).length=X.length+Y.length:=zp
   have lX:(ssK qh X).length=20:=by rw[jM,q1]
   have lY:(ssK qh Y).length=Y.length:=jM _ _
   have f1:∀t∈ssK qh X++Y,fI t.c=true:=fun t ht=>by
    rcases zF.1 ht with h | h
    · exact hf t (zF.2 (.inl (qiG.1 h)))
    · exact hf t (zF.2 (.inr h))
   have f2:∀t∈ssK qh X++ssK qh Y,fI t.c=true:=fun t ht=>by
    rcases zF.1 ht with h | h
    · exact hf t (zF.2 (.inl (qiG.1 h)))
    · exact hf t (zF.2 (.inr (qiG.1 h)))
   have i1:=qiF [] X Y () (by simpa using hf) (by simp;omega)
   simp only[Ka,zN,Kk,q1]at i1;have i2:=qiF (ssK qh X) Y [] () (by simpa using f1) (by simp[jM];omega)
   simp only[zD,lX]at i2;have e20:20+Y.length=(X++Y).length:=by omega
   rw[e20]at i2;have hl1:(ssK qh X++Y).length=(X++Y).length:=by rw[zp,zp,lX,q1]
   have hl2:(ssK qh X++ssK qh Y).length=(X++Y).length:=by rw[zp,zp,lX,lY,q1]
   by_cases hB:(X++Y).length<40
   · have s1:itP 100 Qq (yu (X++Y).length (X++Y).length 20 0 20 (X++Y))=some (yu (X++Y).length (X++Y).length 20 20 40 (ssK qh X++Y)) :=
      (jj.next (K:=50) (qmc rfl (by omega) (by omega) i1) (jj.stop (K:=49) (qiH (by omega)))) 100 (by omega)
     by_cases hY:Y=[]
     · subst hY
       have e:ssK qh X++ssK qh []=ssK qh (X++[]):=by rw[QB (key:=qh) Srt.nil,zD,zD]
       rw[← e];exact qd9 rfl s1 hl1 i2 (itQ (qd8 (bs:=20) (by simp;omega)))
     · have y0:=zS.2 hY
       have sy:=qd6 [] (ssK qh X) (ssK qh Y) [] () (k:=1000000) (nz _ (by omega)) (nz _ (by omega)) (QT _ _) (QT _ _) (by omega) (by simpa using f2) (by simp[jM];omega)
       simp only[Ka,zD,zN,Kk,lX,lY,e20,qnV]at sy;refine qd9 (bs2:=40) (a2:=0) (b2:=40) rfl s1 hl1 i2 ?_
       exact(jj.next (K:=50) (qx9 (a':=0) (b':=40) hl2 (by omega) (by omega) (itQ (qnW (by omega))) (by omega) (by omega) sy) (jj.stop (K:=49) (qd8 (by omega)))) 100 (by omega)
   · have hN:(X++Y).length=40:=by omega
     have s1:itP 100 Qq (yu (X++Y).length (X++Y).length 20 0 20 (X++Y))=some (yu (X++Y).length (X++Y).length 20 40 60 (ssK qh X++ssK qh Y)) :=
      (jj.next (K:=50) (qmc rfl (by omega) (by omega) i1) (jj.next (K:=49) (qmc hl1 (by omega) (by omega) (by rw[hN]at i2;exact i2)) (jj.stop (K:=48) (qiH (by omega))))) 100 (by omega)
     have i3:=qiF (ssK qh X++ssK qh Y) [] [] () (by simpa using f2) (by simp[jM];omega)
     simp only[zD,zN,Kr,hl2,QB (key:=qh) Srt.nil]at i3;have sy:=qd6 [] (ssK qh X) (ssK qh Y) [] () (k:=1000000) (nz _ (by omega)) (nz _ (by omega)) (QT _ _) (QT _ _) (by omega) (by simpa using f2) (by simp[jM];omega)
     simp only[Ka,zD,zN,Kk,lX,lY,e20,qnV]at sy;have r3:itP 100 Qr (yu (X++Y).length (X++Y).length 20 0 (2*20) (ssK qh X++ssK qh Y))=some (yu (X++Y).length (X++Y).length 20 40 80 (ssK qh (X++Y))) :=
      (jj.next (K:=50) (qB7 hl2 (by omega) (by omega) (by omega) (by rw[hN]at sy;exact sy)) (jj.stop (K:=49) (qnW (by omega)))) 100 (by omega)
     refine qd9 (bs2:=40) (a2:=40) (b2:=80) rfl s1 hl2 (by rw[← hN];rw[hN]at i3 ⊢;exact i3) ?_
     exact(jj.next (K:=50) (qB8 (by omega) (by omega) r3 (by omega) (by omega)) (jj.stop (K:=49) (qd8 (by omega)))) 100 (by omega)
end
end Su
end
section
namespace Su
open Go Fly
noncomputable section
def rSS  (L:(List Tm))(u:Unit):Option (List T) :=
 (bif(true&&(Nat.beq (List.length (List.map (vT) L)) (List.length (List.map (vT) L))))then
 (qD (List.map (vT) L)).bind fun x0=>
 (qiI x0 ((((List.length (List.map (vT) L)):Nat):Int),())).bind fun x1=>
 some (List.map (vT) x1)
 else none)
def qkt(L:List Tm)(_:Unit):Option (List Tm):=bif qsO L&&Nat.ble L.length 40 then some (ssK qh L)else none
theorem qB9(L:List Tm)(u:Unit)(L':List Tm)(hl:L.length≤maxLen)(hg:(d1 (cF 79)).good u)(h:qkt L u=some L'):rSS L u=some (L'.map vT):=by
 obtain⟨h1,h2⟩:=qj h;have:=soi h2;subst this
 unfold rSS;refine(jp (qks (by rw[rkM]))).trans (obs (qL _) ?_)
 rw[rkM];refine obs (t:=ssK qh L) (jp ?_) rfl
 rw[zl];exact⟨zd rfl,h1⟩
end
end Su
end
section
namespace Su
open Go Fly
noncomputable section
abbrev qcW:=((List T)×Int×Int×Int×Int×Unit)
def qbT(p9:((List T)×Int×(List Tm)×Int×Int×Bool×Int×(List Tm)×Int×(List T)×Bool×Int×Nat×Nat×Int×Unit))(x10:Tm):qcW→Option (qcW ⊕ (Lp qcW (((List T)×Int×(List Tm)×Int×Int×Bool×Int×(List Tm)×Int×(List T)×Bool×Int×Nat×Nat×Int×Unit) ⊕ ((List T)×Int×(List Tm)×Int×Int×Bool×Int×(List Tm)×Int×(List T)×Bool×Int×Nat×Nat×Int×Unit)))):=fun p11=>(bif(decide (p11.2.2.1<p11.2.1))then
 (idx p11.1 p11.2.2.1).bind fun x12=>
 ((x12.cells)[0]?).bind fun x13=>
 (asI .i64 (.t x13)).bind fun x14=>
 ((x12.cells)[1]?).bind fun x15=>
 (asI .u64 (.t x15)).bind fun x16=>
 (bif((decide (p11.2.2.2.1=x14))&&((decide (p11.2.2.2.2.1=x16))&&true))then
 (bif(!(decide (0≤p11.2.2.1)))then
 some (.inl (p9.1,(((upS 0 [p9.2.1,(((jT (Int.toNat (Tm.c x10))):Nat):Int)]):Nat):Int),p9.2.2.1,p9.2.2.2.1,(IntKind.wrap .i64 (p9.2.2.2.2.1+1)),p9.2.2.2.2.2.1,p9.2.2.2.2.2.2.1,p9.2.2.2.2.2.2.2.1,p9.2.2.2.2.2.2.2.2.1,p9.2.2.2.2.2.2.2.2.2.1,p9.2.2.2.2.2.2.2.2.2.2.1,p9.2.2.2.2.2.2.2.2.2.2.2.1,p9.2.2.2.2.2.2.2.2.2.2.2.2.1,p9.2.2.2.2.2.2.2.2.2.2.2.2.2.1,p9.2.2.2.2.2.2.2.2.2.2.2.2.2.2.1,()))
 else
  some (.inl (p9.1,p9.2.1,p9.2.2.1,p9.2.2.2.1,(IntKind.wrap .i64 (p9.2.2.2.2.1+1)),p9.2.2.2.2.2.1,p9.2.2.2.2.2.2.1,p9.2.2.2.2.2.2.2.1,p9.2.2.2.2.2.2.2.2.1,p9.2.2.2.2.2.2.2.2.2.1,p9.2.2.2.2.2.2.2.2.2.2.1,p9.2.2.2.2.2.2.2.2.2.2.2.1,p9.2.2.2.2.2.2.2.2.2.2.2.2.1,p9.2.2.2.2.2.2.2.2.2.2.2.2.2.1,p9.2.2.2.2.2.2.2.2.2.2.2.2.2.2.1,()))).bind fun x17=>
  some (.inr (.ret x17))
 else
  some (.inl (p11.1,p11.2.1,(IntKind.wrap .i64 (p11.2.2.1+1)),p11.2.2.2.1,p11.2.2.2.2.1,())))
 else
  some (.inr (.exit 0 (p11.1,p11.2.1,p11.2.2.1,p11.2.2.2.1,p11.2.2.2.2.1,()))))
def Z8(fu:Nat):Stp ((List T)×Int×(List Tm)×Int×Int×Bool×Int×(List Tm)×Int×(List T)×Bool×Int×Nat×Nat×Int×Unit):=fun p9=>(bif(decide (p9.2.2.2.2.1<p9.2.2.2.1))then
 (idx p9.2.2.1 p9.2.2.2.2.1).bind fun x10=>
 (itP fu (qbT p9 x10) (p9.1,(List.length p9.1:Int),(0:Int),(Tm.id x10),(Tm.c x10),())).bind fun x18=>
 (match x18 with
 | .exit i19 p20=>(bif(Nat.beq i19 0)then
  some (.inl (p9.1,(((upS 0 [p9.2.1,(((jT (Int.toNat (Tm.c x10))):Nat):Int)]):Nat):Int),p9.2.2.1,p9.2.2.2.1,(IntKind.wrap .i64 (p9.2.2.2.2.1+1)),p9.2.2.2.2.2.1,p9.2.2.2.2.2.2.1,p9.2.2.2.2.2.2.2.1,p9.2.2.2.2.2.2.2.2.1,p9.2.2.2.2.2.2.2.2.2.1,p9.2.2.2.2.2.2.2.2.2.2.1,p9.2.2.2.2.2.2.2.2.2.2.2.1,p9.2.2.2.2.2.2.2.2.2.2.2.2.1,p9.2.2.2.2.2.2.2.2.2.2.2.2.2.1,p9.2.2.2.2.2.2.2.2.2.2.2.2.2.2.1,()))
 else none)
 | .ret o21=>some o21)
 else
  some (.inr (p9.1,p9.2.1,p9.2.2.1,p9.2.2.2.1,p9.2.2.2.2.1,p9.2.2.2.2.2.1,p9.2.2.2.2.2.2.1,p9.2.2.2.2.2.2.2.1,p9.2.2.2.2.2.2.2.2.1,p9.2.2.2.2.2.2.2.2.2.1,p9.2.2.2.2.2.2.2.2.2.2.1,p9.2.2.2.2.2.2.2.2.2.2.2.1,p9.2.2.2.2.2.2.2.2.2.2.2.2.1,p9.2.2.2.2.2.2.2.2.2.2.2.2.2.1,p9.2.2.2.2.2.2.2.2.2.2.2.2.2.2.1,())))
def qpB  (fu:Nat)(a:Fm)(most:Int):Option Fm :=
 (bif(List.any [a] (fun z0=>(z0.1||(!(yn z0)))))then
 some (true,(0:Int),[],(0:Int))
 else
  (bif(qgI a.2.2.1)then
  some a.2.2.1
 else none).bind fun x1=>
  (bif(true&&(Nat.beq (List.length (List.map (vT) x1)) (List.length (List.map (vT) x1))))then
  (qD (List.map (vT) x1)).bind fun x2=>
  (qkt x2 ()).bind fun x3=>
  (bif(true&&((decide (0≤(min (max most 0) (((List.length (List.map (vT) x1)):Nat):Int))))&&((decide ((min (max most 0) (((List.length (List.map (vT) x1)):Nat):Int))≤(min (max most 0) (((List.length (List.map (vT) x1)):Nat):Int))))&&(decide ((min (max most 0) (((List.length (List.map (vT) x1)):Nat):Int))≤(((List.length (List.map (vT) x1)):Nat):Int))))))then
  (bif(true&&(Nat.ble (Int.toNat (min (max most 0) (((List.length (List.map (vT) x1)):Nat):Int))) (List.length (List.map (vT) x3))))then
  (qD (List.take (Int.toNat (min (max most 0) (((List.length (List.map (vT) x1)):Nat):Int))) (List.map (vT) x3))).bind fun x4=>
  (soS x4 ()).bind fun x5=>
  (bif(Nat.beq x5.length (Int.toNat (min (max most 0) (((List.length (List.map (vT) x1)):Nat):Int))))then
  (Su.sub ((List.map (vT) x5)++(List.drop (Int.toNat (min (max most 0) (((List.length (List.map (vT) x1)):Nat):Int))) (List.map (vT) x3))) 0 (List.length (List.map (vT) x1))).bind fun x6=>
  (Su.sub ((List.map (vT) x5)++(List.drop (Int.toNat (min (max most 0) (((List.length (List.map (vT) x1)):Nat):Int))) (List.map (vT) x3))) 0 (Int.toNat (min (max most 0) (((List.length (List.map (vT) x1)):Nat):Int)))).bind fun x7=>
  (Su.sub ((List.map (vT) x5)++(List.drop (Int.toNat (min (max most 0) (((List.length (List.map (vT) x1)):Nat):Int))) (List.map (vT) x3))) 0 (Int.toNat (min (max most 0) (((List.length (List.map (vT) x1)):Nat):Int)))).bind fun x8=>
  (itP fu (Z8 fu) (x7,a.2.2.2,a.2.2.1,(List.length a.2.2.1:Int),(0:Int),a.1,a.2.1,a.2.2.1,a.2.2.2,[],false,(0:Int),0,0,(0:Int),())).bind fun x22=>
  ((qD x22.1).bind fun x23=>
  (bif(qgI x23)then
  some x23
 else none)).bind fun x24=>
  (((((qD (List.map (vT) x24)).bind fun x25=>
  some (x25,x22.2.1)).bind fun x26=>
  some (x22.2.2.2.2.2.2.1,x26)).bind fun x27=>
  some (false,x27)).bind fun x28=>
  (bif(List.all x28.2.2.1 (fun z29=>(!(zI (Tm.c z29)))))then
  some (yY x28)
 else none)).bind fun x30=>
  some x30
 else none)
 else none)
 else none)
 else none))
theorem wU{j M:Nat}(h:j<M)(hM:M≤549755813888):IntKind.i64.wrap ((j:Int)+1)=((j+1:Nat):Int):=by
 rw[show((j:Int)+1)=((j+1:Nat):Int) by omega];exact rkW (by omega) (by omega)
abbrev qyb:=(Bool×Int×(List Tm)×Int×(List T)×Bool×Int×Nat×Nat×Int×Unit)
def qfW(K A:List Tm)(R:qyb)(i:Nat)(e:Int):(List T)×(Int×(List Tm)×Int×Int×qyb):=(K.map vT,e,A,((A.length:Nat):Int),(i:Int),R)
theorem ixT{K:List Tm}{j:Nat}(h:j<K.length):idx (K.map vT) (j:Int)=some (vT K[j]):=by
 rw[jL,KM,zG h];rfl
def qpC(K:List Tm)(t:Tm)(j:Nat):Bool:=match K[j]? with
 | some u=>!(decide (t.id=u.id)&&(decide (t.c=u.c)&&true))
 | none=>true
theorem allK(K:List Tm)(t:Tm):qpx K.length (qpC K t) = !inK K t:=by
 cases h:inK K t with
 | true=>
  obtain⟨j,hj,e⟩:=List.getElem_of_mem (JE.1 h)
  refine qsH.2 ⟨j,hj,?_⟩
  unfold qpC;rw[zG hj,e];simp
 | false=>
  refine qkn.2 fun j hj=>?_
  unfold qpC;rw[zG hj];show(!(decide (t.id=K[j].id)&&(decide (t.c=K[j].c)&&true)))=true
  cases hq:(decide (t.id=K[j].id)&&(decide (t.c=K[j].c)&&true))with
  | false=>rfl
  | true=>
   have:inK K t=true:=by
    unfold inK;rw[List.any_eq_true];exact⟨K[j],List.getElem_mem hj,by simpa using hq⟩
   rw[h]at this;cases this
theorem qCa{K A:List Tm}{R:qyb}{i:Nat}{e:Int}{t:Tm}(hK:K.length≤549755813888)(hA:A.length≤549755813888)(hi:i<A.length) :
 jj (K.length+1) (qbT (qfW K A R i e) t) (K.map vT,(((K.map vT).length:Nat):Int),((0:Nat):Int),t.id,t.c,())
  (bif qpx K.length (qpC K t)then .exit 0 (K.map vT,(((K.map vT).length:Nat):Int),((K.length:Nat):Int),t.id,t.c,())else .ret (.inl (qfW K A R (i+1) e))):=by
 refine qsI (mk:=fun j=>(K.map vT,(((K.map vT).length:Nat):Int),(j:Int),t.id,t.c,())) ?_ ?_ ?_
 · intro j hj ho
   have d0:decide ((j:Int)<(((K.map vT).length:Nat):Int))=true:=zd (by simp;omega)
   have g:=ixT hj;have w:=wU hj hK;unfold qpC at ho;rw[zG hj]at ho;have hq:(decide (t.id=K[j].id)&&(decide (t.c=K[j].c)&&true))=false:=by simpa only[Ky]using ho
   simp only[qbT,d0,g,qfR,qfS,qfT,qfU,zj,zf,hq,zi,w]
 · intro j hj ho
   have d0:decide ((j:Int)<(((K.map vT).length:Nat):Int))=true:=zd (by simp;omega)
   have d1:decide ((0:Int)≤(j:Int))=true:=zd (by omega)
   have g:=ixT hj;have w:=wU hi hA;unfold qpC at ho;rw[zG hj]at ho;have hq:(decide (t.id=K[j].id)&&(decide (t.c=K[j].c)&&true))=true:=by simpa using ho
   simp only[qbT,d0,d1,g,qfR,qfS,qfT,qfU,zj,zf,hq,zi,Kf,qfW,w]
 · have d0:decide (((K.length:Nat):Int)<(((K.map vT).length:Nat):Int))=false:=zh (by simp)
   simp only[qbT,d0,zi]
theorem qyc{K A:List Tm}{R:qyb}(hK:K.length≤549755813888)(hA:A.length≤549755813888){fu:Nat}(hf:K.length+1≤fu) :
 ∀(d i m:Nat) (e:Int),i+d=A.length→d+1≤m→itP m (Z8 fu) (qfW K A R i e)=some (qfW K A R A.length (qkl (inK K) (A.drop i) e)):=by
 intro d;induction d with
 | zero=>
  intro i m e hi hm;have hi:i=A.length:=by omega
  subst hi;obtain⟨m',rfl⟩:∃m',m=m'+1:=⟨m-1,by omega⟩
  rw[qu,List.drop_length];simp only[Z8,qfW,Int.lt_irrefl,decide_false,zi,zj,qkl]
 | succ d ih=>
  intro i m e hi hm;obtain⟨m',rfl⟩:∃m',m=m'+1:=⟨m-1,by omega⟩
  have hi':i<A.length:=by omega
  have d0:decide ((i:Int)<((A.length:Nat):Int))=true:=zd (by omega)
  have w:=wU hi' hA;have r:=qCa (R:=R) (e:=e) (t:=A[i]) hK hA hi' fu hf
  rw[allK]at r;have step:Z8 fu (qfW K A R i e)=some (.inl (qfW K A R (i+1) (bif inK K A[i]then e else upI [e,qcU A[i].c]))):=by
   cases hk:inK K A[i]with
   | true=>
    rw[hk]at r;simp only[Kf,zi]at r;simp only[qfW]at r ⊢;simp only[Z8,d0,zf,ixl hi',zj];rw[show(0:Int)=((0:Nat):Int) from rfl,r];rfl
   | false=>
    rw[hk]at r;simp only[zX,zf]at r;simp only[qfW]at r ⊢;simp only[Z8,d0,zf,ixl hi',zj];rw[show(0:Int)=((0:Nat):Int) from rfl,r];simp only[zj,w];rfl
  rw[qu,step];show itP m' _ _=_
  rw[ih (i+1) m' _ (by omega) (by omega),Kb hi'];rfl
def qyd(a:Fm)(l:List Tm):Fm:=yY (false,a.2.1,l,qkl (inK l) a.2.2.1 a.2.2.2)
def yk(A:List Tm)(most:Int):List Tm:=ssK Tm.id ((ssK qh A).take (min (max most 0) (A.length:Int)).toNat)
theorem anyN{a:Fm}(h:okF a=true):(List.any [a] fun z0=>(z0.1||(!(yn z0))))=false:=by
 have:(List.any [a] fun z0=>(z0.1||(!(yn z0)))) = !okF a:=by simp[okF]
 rw[this,h];rfl
theorem qfd:∀ {l:List Tm} {lo:Int},ja lo l=true→∀t∈l,zI t.c=false∧fI t.c=true
 | [],_,_,t,ht=>by cases ht
 | a::l,lo,h,t,ht=>by
  unfold ja at h;simp only[zl,Ky]at h;rcases zA.1 ht with rfl | ht
  · exact⟨h.2.1,h.2.2.1⟩
  · exact qfd h.2.2.2 t ht
theorem qgN:∀ {l:List Tm} {lo:Int},ja lo l=true→(l.map Tm.id).Nodup
 | [],_,_=>V8
 | a::l,lo,h=>by
  unfold ja at h;simp only[zl,Ky,zy]at h;rw[KB,KQ];refine⟨fun hm=>?_,qgN h.2.2.2⟩
  obtain⟨t,ht,e⟩:=KJ.1 hm;have:=qbR h.2.2.2 t ht
  omega
theorem qpD{A:List Tm}{lo most:Int}(h:ja lo A=true):(yk A most).Perm (A.filter (inK (yk A most))):=by
 unfold yk;refine kept (r:=(ssK qh A).drop (min (max most 0) (A.length:Int)).toNat) (qfb h) ?_
 refine List.Perm.trans ((j8 Tm.id _).append_right _) ?_
 rw[Kv];exact j8 qh A
theorem qsW(A:List Tm)(most:Int):((yk A most).length:Int)=min (max most 0) (A.length:Int):=by
 unfold yk;rw[jM,zV,jM];omega
theorem subR(K:List Tm)(r:List T)(n:Nat)(h:n≤(K.map vT++r).length):Su.sub (K.map vT++r) 0 n=some ((K.map vT++r).take n):=by
 unfold Su.sub;rw[Kk,zB h,zf,VT]
theorem qye(b:Bool)(mid:Int)(A:List Tm)(e:Int)(most:Int)(ho:okF (b,mid,A,e)=true)(hl:A.length≤40) :
 ∃n,qpB n (b,mid,A,e) most=some (qyd (b,mid,A,e) (yk A most)):=by
 obtain⟨N,hN⟩:∃N:Nat,min (max most 0) ((A.length:Nat):Int)=(N:Int):=⟨(min (max most 0) ((A.length:Nat):Int)).toNat,by omega⟩
 have hNl:N≤A.length:=by omega
 have hr:ja (-1) A=true:=qiD ho
 have hK0:yk A most=ssK Tm.id ((ssK qh A).take N):=by unfold yk;rw[hN,zm]
 have hkl:(yk A most).length=N:=by have:=qsW A most;omega
 have hLl:(ssK qh A).length=A.length:=jM _ _
 refine⟨A.length+50,?_⟩
 have r3:=qyc (K:=yk A most) (A:=A) (R:=(b,mid,A,e,[],false,0,0,0,0,())) (by omega) (by omega) (fu:=A.length+50) (by omega) A.length 0 (A.length+50) e (by omega) (by omega)
 unfold qpB;refine(QG (anyN ho)).trans (obs (t:=A) (jp (zB (by show A.length≤_;omega))) ?_)
 simp only[rkM,hN,zm];refine(jp (by simp)).trans (obs (qL A) ?_)
 have ss:qkt A ()=some (ssK qh A):=jp (by rw[Yd.2 (fun t ht=>(qfd hr t ht).2),zB hl];rfl)
 refine obs ss ?_
 refine(jp (by rw[zd (by omega),zd (by omega),zd (by omega)];rfl)).trans ?_
 refine(jp (by rw[hLl,zB hNl];rfl)).trans ?_
 refine obs (t:=(ssK qh A).take N) (by rw[← List.map_take];exact qL _) ?_
 have hnd:ndI ((ssK qh A).take N)=true:=zd (by
  have h1:((ssK qh A).map Tm.id).Nodup:=((j8 qh A).map Tm.id).nodup_iff.2 (qgN hr)
  exact h1.sublist ((List.take_sublist _ _).map _))
 have so:soS ((ssK qh A).take N) ()=some (yk A most):=by
  rw[hK0];exact jp (by rw[hnd,zB (by rw[zV];omega)];rfl)
 refine obs so ((jp (by rw[hkl];simp)).trans ?_)
 have lr:(List.map vT (yk A most)++List.drop N (List.map vT (ssK qh A))).length=A.length:=by
  rw[zp,rkM,hkl,VC,rkM,hLl];omega
 have sb:Su.sub (List.map vT (yk A most)++List.drop N (List.map vT (ssK qh A))) 0 N=some (List.map vT (yk A most)):=by
  rw[subR _ _ _ (by rw[lr];exact hNl),VM (by rw[rkM,hkl])]
 refine obs (subR _ _ _ (by rw[lr];exact zE _)) (obs sb (obs sb ?_))
 refine obs r3 ?_
 refine obs (t:=yk A most) (obs (qL (yk A most)) (jp (zB (by rw[hkl];omega)))) ?_
 refine obs (t:=qyd (b,mid,A,e) (yk A most)) (obs (t:=(false,mid,yk A most,qkl (inK (yk A most)) A e)) (obs (obs (obs (qL (yk A most)) rfl) rfl) rfl) (jp ?_)) rfl
 refine KA.2 fun t ht=>?_
 have hm:t∈A:=(Vx.1 ((qpD hr).mem_iff.1 ht)).1
 rw[(qfd hr t hm).1];rfl
def qcX(p:Fm×Int):Option Fm:=bif okF p.1 then(bif Nat.ble p.1.2.2.1.length 40 then some (qyd p.1 (yk p.1.2.2.1 p.2))else none)else some qaS
theorem qyf(p:Fm×Int)(y:Fm)(hg:(dc jC (d1 (cI .i64))).good p)(h:qcX p=some y):∃n,qpB n p.1 p.2=some y:=by
 obtain⟨⟨b,mid,A,e⟩,most⟩:=p;unfold qcX at h;cases ho:okF (b,mid,A,e)with
 | true=>
  simp only[ho,zf]at h;obtain⟨h1,h2⟩:=qj h;have:=soi h2;subst this
  exact qye b mid A e most ho (zr h1)
 | false=>
  simp only[ho,zi]at h;have:=soi h;subst this
  refine⟨0,?_⟩
  have:(List.any [(b,mid,A,e)] fun z0=>(z0.1||(!(yn z0)))) = !okF (b,mid,A,e):=by simp[okF]
  show qpB 0 (b,mid,A,e) most=some qaS
  unfold qpB;exact jp (this.trans (by rw[ho];rfl))
end
end Su
end
section
namespace Su
open Go Fly
def qf:List Bool→Nat
 | []=>0
 | b::l=>b.toNat+2*qf l
theorem qbU:∀(a b:List Bool),qf (a++b)=qf a+2^a.length*qf b
 | [],b=>by simp[qf]
 | x::a,b=>by
  simp only[Wj,qf,qbU a b,zw,VG,Ws];rw[← zZ,Kw 2 (2^a.length)];omega
theorem Z9:∀(a:List Bool),qf a<2^a.length
 | []=>by simp[qf]
 | x::a=>by
  have:=Z9 a
  simp only[qf,zw,VG];have hx:x.toNat≤1:=by cases x <;> decide
  omega
theorem qsX(n:Nat):qf (List.replicate n false)=0:=by
 induction n with
 | zero=>rfl
 | succ n ih=>simp[Wg,qf,ih]
theorem qpE{a:List Bool}{n:Nat}(h:n<a.length):qf (a.take (n+1))=qf (a.take n)+2^n*a[n].toNat:=by
 rw[List.take_succ_eq_append_getElem h,qbU,zV,Vb (Nat.le_of_lt h)];simp[qf]
abbrev eB(b:Bool):T:=T.s (.bool b)
theorem qaa(l:List Bool):qI 4 (l.map eB)=some l:=JA (u:=4) (by decide) l
def qK:Nat→Nat→List Bool
 | 0,_=>[]
 | k+1,n=>(n % 2 == 1)::qK k (n / 2)
theorem yh:∀(k n:Nat),(qK k n).length=k
 | 0,_=>rfl
 | k+1,n=>by simp[qK,yh k]
theorem Yf:∀(k n:Nat),qf (qK k n)=n % 2^k
 | 0,n=>by simp[qK,qf,Nat.mod_one]
 | k+1,n=>by
  simp only[qK,qf,Yf k];have h1:(n % 2 == 1).toNat=n % 2:=by rcases Vj n with h | h <;> rw[h] <;> rfl
  rw[h1,Nat.pow_succ',Nat.mod_mul]
end Su
end
section
namespace Su
open Go Fly
noncomputable section
def qCb  (a:(List Bool))(i:Int):Option Bool :=
 (bif(decide (0≤i))then
 (bif(decide (i<(List.length a:Int)))then
 (idx a i).bind fun x0=>
 some x0
 else
  some false)
 else
  some false)
def qbV:Stp ((List Bool)×Int×Unit):=fun p0=>(bif(decide (0<p0.2.1))then
 (idx p0.1 (IntKind.wrap .i64 (p0.2.1-1))).bind fun x1=>
 (bif(!x1)then
 some (.inl (p0.1,(IntKind.wrap .i64 (p0.2.1-1)),()))
 else
  some (.inr (p0.1,p0.2.1,())))
 else
  some (.inr (p0.1,p0.2.1,())))
def qCc  (fu:Nat)(a:(List Bool)):Option Int :=
 (itP fu (qbV) (a,(List.length a:Int),())).bind fun x2=>
 some x2.2.1
def qab:Stp ((List Bool)×Int×Nat×Int×(List T)×Unit):=fun p0=>(bif(decide (p0.2.2.2.1<p0.2.1))then
 (bif((true&&(Nat.beq p0.2.2.1 p0.2.2.2.2.1.length))&&(Nat.ble (p0.2.2.2.2.1.length+1) 549755813888))then
 some (.inl (p0.1,p0.2.1,(List.length (p0.2.2.2.2.1++[(T.s (.bool false))])),(IntKind.wrap .i64 (p0.2.2.2.1+1)),(p0.2.2.2.2.1++[(T.s (.bool false))]),()))
 else none)
 else
  some (.inr (p0.1,p0.2.1,p0.2.2.1,p0.2.2.2.1,p0.2.2.2.2.1,())))
def qCd  (fu:Nat)(a:(List Bool))(n:Int):Option (List Bool) :=
 (itP fu (qab) (a,n,0,(0:Int),[],())).bind fun x1=>
 (bif((true&&(Nat.beq x1.2.2.1 x1.2.2.2.2.1.length))&&(Nat.ble (x1.2.2.2.2.1.length+(List.length (List.map (fun z2=>(T.s (.bool z2))) x1.1))) 549755813888))then
 (Su.sub (x1.2.2.2.2.1++(List.map (fun z3=>(T.s (.bool z3))) x1.1)) 0 (List.length (x1.2.2.2.2.1++(List.map (fun z4=>(T.s (.bool z4))) x1.1)))).bind fun x5=>
 (qI 4 x5)
 else none)
def qi(a:List Bool)(i:Int):Bool:=bif decide (0≤i)then(a[i.toNat]?).getD false else false
def qsY(p:List Bool×Int):Option Bool:=some (qi p.1 p.2)
theorem qyg(p:List Bool×Int)(y:Bool)(hg:(dc (cQ 4 1) (d1 (cI .i64))).good p)(h:qsY p=some y):qCb p.1 p.2=some y:=by
 obtain⟨a,i⟩:=p;have:=soi h;subst this
 unfold qCb qi;simp only[];by_cases h0:0≤i
 · obtain⟨n,rfl⟩:∃n:Nat,i=(n:Int):=⟨i.toNat,by omega⟩
   rw[zd h0,zf,zf,jL,zm];by_cases h1:n<a.length
   · rw[zd (by omega),zf,zG h1];rfl
   · rw[zh (by omega),zi,Vu (by omega)];rfl
 · rw[zh h0,zi,zi]
theorem qbW(l:List Bool):sub (l.map eB) 0 (l.map eB).length=some (l.map eB):=by
 unfold sub;rw[show Nat.ble (0+(l.map eB).length) (l.map eB).length=true by rw[KX];omega];rw[zf,VT,KR (zE _)]
def qsZ(a:List Bool):Option Int:=some (qn (qf a):Int)
theorem qfe(a:List Bool)(hl:a.length≤9223372036854775807):∀n:Nat,n≤a.length→∃f,itP f qbV (a,(n:Int),())=some (a,((qn (qf (a.take n)):Nat):Int),())
 | 0,_=>yP (by simp[qbV,qf,qn])
 | n+1,h=>by
  have e1:IntKind.i64.wrap (((n+1:Nat):Int)-1)=(n:Int):=by rw[w64 (by omega) (by omega)];omega
  have hn:n<a.length:=by omega
  have hi:idx a (n:Int)=some a[n]:=by rw[jL,zG hn]
  have hlt:qf (a.take n)<2^n:=by
   have:=Z9 (a.take n)
   rwa [zV,Vb (by omega)]at this
  rw[qpE hn];cases hb:a[n]with
  | false=>
   obtain⟨f,hf⟩:=qfe a hl n (by omega)
   refine QR (s':=(a,(n:Int),())) ?_ ⟨f,by rw[hf];simp⟩
   simp only[qbV];rw[zd (by omega),zf,e1,hi,zj,hb];rfl
  | true=>
   have:qn (qf (a.take n)+2^n*true.toNat)=n+1:=qnl (by simp) (by rw[VG];simp;omega)
   rw[this];refine yP ?_
   simp only[qbV];rw[zd (by omega),zf,e1,hi,zj,hb];rfl
theorem qyh(a:List Bool)(y:Int)(hg:(d1 (cQ 4 1)).good a)(h:qsZ a=some y):∃n,qCc n a=some y:=by
 have:=soi h;subst this
 have hl:=hg.2;rw[jc]at hl;obtain⟨f,hf⟩:=qfe a hl a.length (zE _)
 rw[WI]at hf;exact⟨f,by unfold qCc;rw[hf];rfl⟩
def jv(p:List Bool×Int):Option (List Bool):=bif Nat.ble (p.2.toNat+p.1.length) 549755813888 then some (List.replicate p.2.toNat false++p.1)else none
theorem qgO(a:List Bool)(N:Nat)(hN:N≤549755813888):∀k i:Nat,i+k=N→∃f,itP f qab (a,(N:Int),i,(i:Int),(List.replicate i false).map eB,())=some (a,(N:Int),N,(N:Int),(List.replicate N false).map eB,())
 | 0,i,hk=>by
  have:i=N:=by omega
  subst this;refine yP ?_
  simp only[qab];rw[zh (by omega),zi]
 | k+1,i,hk=>by
  obtain⟨f,hf⟩:=qgO a N hN k (i+1) (by omega)
  refine QR ?_ ⟨f,hf⟩
  simp only[qab];have h1:Nat.beq i ((List.replicate i false).map eB).length=true:=by rw[zn,KN];exact Vm _
  have h2:Nat.ble (((List.replicate i false).map eB).length+1) 549755813888=true:=by rw[KX,zn,KN];omega
  have h3:(List.replicate i false).map eB++[T.s (.bool false)]=(List.replicate (i+1) false).map eB:=by rw[List.replicate_succ',zU];rfl
  rw[zd (by omega),zf,h1,h2,h3,w64 (by omega) (by omega)];simp only[zW,zf,zn,KN];rfl
theorem qyi(p:List Bool×Int)(y:List Bool)(hg:(dc (cQ 4 1) (d1 (cI .i64))).good p)(h:jv p=some y):∃n,qCd n p.1 p.2=some y:=by
 obtain⟨a,n⟩:=p;obtain⟨hle,h⟩:=qj h;have:=soi h;subst this
 have hle:=zr hle;simp only[]at hle ⊢;have main:∃f,itP f qab (a,n,0,(0:Int),([]:List T),())=some (a,n,n.toNat,(n.toNat:Int),(List.replicate n.toNat false).map eB,()):=by
  by_cases h0:n<0
  · have:n.toNat=0:=by omega
    rw[this];refine yP ?_
    simp only[qab];rw[zh (by omega),zi];rfl
  · obtain⟨N,rfl⟩:∃N:Nat,n=(N:Int):=⟨n.toNat,by omega⟩
    rw[zm]at hle ⊢;exact qgO a N (by omega) N 0 (by omega)
 obtain⟨f,hf⟩:=main;refine⟨f,?_⟩
 unfold qCd;rw[hf,zj];simp only[];have h1:Nat.beq n.toNat ((List.replicate n.toNat false).map eB).length=true:=by rw[zn,KN];exact Vm _
 have e:List.map (fun z=>T.s (.bool z)) a=a.map eB:=rfl
 rw[h1,e];have h2:Nat.ble (((List.replicate n.toNat false).map eB).length+(a.map eB).length) 549755813888=true:=by rw[KX];simp;omega
 rw[h2,← zU];have h3:=qbW (List.replicate n.toNat false++a)
 rw[h3];simp only[zW,zf];exact qaa _
end
end Su
end
section
namespace Su
open Go Fly
theorem qff:∀(k n:Nat),qK (k+1) n=qK k n++[n / 2^k % 2 == 1]
 | 0,n=>by simp[qK]
 | k+1,n=>by
  show(n % 2 == 1)::qK (k+1) (n / 2)=((n % 2 == 1)::qK k (n / 2))++_
  rw[qff k (n / 2),zQ,← Nat.pow_succ'];rfl
theorem qCe:∀(a:List Bool) (i:Nat),(a[i]?).getD false=(qf a / 2^i % 2 == 1)
 | [],i=>by simp[qf]
 | x::a,0=>by
  have h:(x.toNat+2*qf a) / 2^0 % 2=x.toNat:=by
   have hx:x.toNat≤1:=by cases x <;> decide
   rw[KH,Wq];omega
  simp only[Vh,Option.getD_some,qf,h];cases x <;> rfl
 | x::a,i+1=>by
  have h:(x.toNat+2*qf a) / 2^(i+1)=qf a / 2^i:=by
   have hx:x.toNat≤1:=by cases x <;> decide
   rw[Nat.pow_succ',← zQ];congr 1;omega
  simp only[K8,qf,h];exact qCe a i
def tb2(A i:Nat):Bool:=A / 2^i % 2 == 1
def cy(A B i:Nat):Nat:=(A % 2^i+B % 2^i) / 2^i
theorem qz5(A B i:Nat):cy A B i≤1:=by
 unfold cy;have hp:=zJ i;have h1:=Vo A hp;have h2:=Vo B hp;have:(A % 2^i+B % 2^i) / 2^i<2:=by rw[Vs hp];omega
 omega
theorem qnX(A B:Nat):cy A B 0=0:=by simp[cy,Nat.mod_one]
theorem qyj(A B i:Nat):cy A B (i+1)=(A / 2^i % 2+B / 2^i % 2+cy A B i) / 2:=by
 unfold cy;have hp:=zJ i;rw[Nat.mod_pow_succ (x:=A) (b:=2) (k:=i),Nat.mod_pow_succ (x:=B) (b:=2) (k:=i),VG,← zQ];generalize A % 2^i=r
 generalize B % 2^i=s
 generalize A / 2^i % 2=x
 generalize B / 2^i % 2=y
 generalize 2^i=P at *
 have:r+P*x+(s+P*y)=r+s+P*(x+y):=by rw[Ws];omega
 rw[this,Wc _ _ hp]
 congr 1;omega
theorem qyk(A B i:Nat):(A+B) / 2^i % 2=(A / 2^i % 2+B / 2^i % 2+cy A B i) % 2:=by
 unfold cy;have hp:=zJ i;have h1:=K6 A (2^i)
 have h2:=K6 B (2^i)
 generalize A % 2^i=r at *
 generalize B % 2^i=s at *
 generalize A / 2^i=x at *
 generalize B / 2^i=y at *
 generalize 2^i=P at *
 have:A+B=r+s+P*(x+y):=by rw[Ws];omega
 rw[this,Wc _ _ hp];omega
def cyB(A B i:Nat):Bool:=cy A B i == 1
theorem qbX(n:Nat):n % 2=(n % 2 == 1).toNat:=by rcases Vj n with h | h <;> rw[h] <;> rfl
theorem qbY(A B i:Nat):cy A B i=(cyB A B i).toNat:=by
 unfold cyB;have:=qz5 A B i
 have:cy A B i=0∨cy A B i=1:=by omega
 rcases this with h | h <;> rw[h] <;> rfl
theorem qku(A B i:Nat):cyB A B (i+1)=(tb2 A i&&tb2 B i||tb2 A i&&cyB A B i||tb2 B i&&cyB A B i):=by
 have h:=qyj A B i;rw[qbX (A / 2^i),qbX (B / 2^i),qbY A B i]at h;rw[show cyB A B (i+1)=(cy A B (i+1) == 1) from rfl,h];unfold tb2;cases(A / 2^i % 2 == 1) <;> cases(B / 2^i % 2 == 1) <;> cases cyB A B i <;> rfl
theorem qkv(A B i:Nat):tb2 (A+B) i=((tb2 A i != tb2 B i) != cyB A B i):=by
 have h:=qyk A B i;rw[qbX (A / 2^i),qbX (B / 2^i),qbY A B i]at h;rw[show tb2 (A+B) i=((A+B) / 2^i % 2 == 1) from rfl,h];unfold tb2;cases(A / 2^i % 2 == 1) <;> cases(B / 2^i % 2 == 1) <;> cases cyB A B i <;> rfl
theorem qs0{A B n:Nat}(hA:A<2^n)(hB:B<2^n):A+B<2^(n+cy A B n):=by
 unfold cy;rw[Kq hA,Kq hB];by_cases h:A+B<2^n
 · rw[VP h];exact h
 · have:(A+B) / 2^n=1:=by
    have hp:=zJ n;have h1:(A+B) / 2^n<2:=by rw[Vs hp];omega
    have h2:1≤(A+B) / 2^n:=by rw[Nat.le_div_iff_mul_le hp];omega
    omega
   rw[this,VG];omega
theorem qnY{A B n i:Nat}(hS:A+B<2^n)(h:n≤i):cyB A B i=false:=by
 unfold cyB cy;have h1:=K9 hS (KK (n:=2) (by omega) h)
 rw[Kq (by omega:A<2^i),Kq (by omega:B<2^i),VP h1];rfl
theorem QC{a:List Bool}{n:Nat}(h:a.length≤n):qf a<2^n:=K9 (Z9 a) (KK (by omega) h)
def QH(a b:List Bool):List Bool:=qK (max a.length b.length+cy (qf a) (qf b) (max a.length b.length)) (qf a+qf b)
theorem qbZ(a b:List Bool):qf (QH a b)=qf a+qf b:=by
 unfold QH;rw[Yf];exact Kq (qs0 (QC (Nat.le_max_left ..)) (QC (Nat.le_max_right ..)))
theorem ZG(a b:List Bool):(QH a b).length≤max a.length b.length+1:=by
 unfold QH;rw[yh];have:=qz5 (qf a) (qf b) (max a.length b.length)
 omega
theorem qs1(a:List Bool)(i:Nat):(bif decide (0≤(i:Int))then(a[(i:Int).toNat]?).getD false else false)=tb2 (qf a) i:=by
 rw[zd (by omega),zf,zm];exact qCe a i
theorem qnZ{A B i:Nat}(h:B≤A):tb2 (A-B) i=((tb2 A i != tb2 B i) != cyB B (A-B) i):=by
 have h1:=qkv B (A-B) i
 rw[Nat.add_sub_cancel' h]at h1;revert h1;cases tb2 A i <;> cases tb2 B i <;> cases tb2 (A-B) i <;> cases cyB B (A-B) i <;> decide
theorem qCf{A B i:Nat}(h:B≤A):cyB B (A-B) (i+1)=(!tb2 A i&&(tb2 B i||cyB B (A-B) i)||tb2 A i&&tb2 B i&&cyB B (A-B) i):=by
 rw[qku,qnZ h];cases tb2 A i <;> cases tb2 B i <;> cases cyB B (A-B) i <;> rfl
theorem qyl{A B i:Nat}(h:A / 2^(i+1)=B / 2^(i+1))(hx:tb2 A i≠tb2 B i):jN A B=bif tb2 A i then 1 else -1:=by
 have hp:=zJ i;rw[VG,← zQ,← zQ]at h;have h1:=K6 A (2^i)
 have h2:=K6 B (2^i)
 have h3:=Vo A hp;have h4:=Vo B hp;have hA:=qbX (A / 2^i)
 have hB:=qbX (B / 2^i)
 unfold tb2 at *
 unfold jN;generalize A % 2^i=r at *
 generalize B % 2^i=s at *
 generalize A / 2^i=x at *
 generalize B / 2^i=y at *
 generalize 2^i=P at *
 cases hx1:(x % 2 == 1)with
 | true=>
  cases hy1:(y % 2 == 1)with
  | true=>exact absurd (hx1.trans hy1.symm) hx
  | false=>
   rw[hx1]at hA;rw[hy1]at hB;simp only[Bool.toNat_true,WF]at hA hB;have hxy:x=y+1:=by omega
   have:P*x=P*y+P:=by rw[hxy,Nat.mul_succ]
   rw[zP (by omega),zP (by omega)];rfl
 | false=>
  cases hy1:(y % 2 == 1)with
  | false=>exact absurd (hx1.trans hy1.symm) hx
  | true=>
   rw[hx1]at hA;rw[hy1]at hB;simp only[Bool.toNat_true,WF]at hA hB;have hxy:y=x+1:=by omega
   have:P*y=P*x+P:=by rw[hxy,Nat.mul_succ]
   rw[zR (by omega)];rfl
theorem qym{A B i:Nat}(h:A / 2^(i+1)=B / 2^(i+1))(hx:tb2 A i=tb2 B i):A / 2^i=B / 2^i:=by
 rw[VG,← zQ,← zQ]at h;have hA:=qbX (A / 2^i)
 have hB:=qbX (B / 2^i)
 unfold tb2 at hx;rw[hx]at hA;omega
theorem qpF(A:Nat):jN A A=0:=by unfold jN;rw[zP (by omega),zR rfl]
end Su
end
