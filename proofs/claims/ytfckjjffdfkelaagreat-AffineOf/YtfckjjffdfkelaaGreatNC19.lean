/-
  What functions of the program compute, in plain Lean, and that the evaluator finds it.
-/
import Derived.Test.YtfckjjffdfkelaaGreatSuSd
import Derived.Test.YtfckjjffdfkelaaGreatNC14
set_option linter.unusedVariables false
set_option linter.unusedSimpArgs false
set_option maxRecDepth 10000
section
namespace Su
open Go Fly
noncomputable section
abbrev qW:=((List Tm)×(List Tm)×Nat×Int×(List T)×Unit)
def jc :=
 fun(p5006:qW) x5007 x5008=>
 (bif(true&&((true&&(decide (1≤(List.length p5006.2.1:Int))))&&(decide ((List.length p5006.2.1:Int)≤(List.length p5006.2.1:Int)))))then
 (bif((true&&(Nat.beq p5006.2.2.1 p5006.2.2.2.2.1.length))&&(Nat.ble (p5006.2.2.2.2.1.length+(List.length [(T.agg [(T.s (.int .i64 (Tm.id x5007))),(T.s (.int .u64 (Tm.c x5008)))])])) 549755813888))then
 some (.inl (p5006.1,(List.take (Int.toNat ((List.length p5006.2.1:Int)-1)) (List.drop 1 p5006.2.1)),(List.length (p5006.2.2.2.2.1++[(T.agg [(T.s (.int .i64 (Tm.id x5007))),(T.s (.int .u64 (Tm.c x5008)))])])),p5006.2.2.2.1,(p5006.2.2.2.2.1++[(T.agg [(T.s (.int .i64 (Tm.id x5007))),(T.s (.int .u64 (Tm.c x5008)))])]),()))
 else none)
 else
  none:Option (qW ⊕ qW))
def jd :=
 fun(p5009:qW) x5010 x5011=>
 (bif((true&&(Nat.beq p5009.2.2.1 p5009.2.2.2.2.1.length))&&(Nat.ble (p5009.2.2.2.2.1.length+(List.length [(T.agg [(T.s (.int .i64 (Tm.id x5010))),(T.s (.int .u64 (Tm.c x5011)))])])) 549755813888))then
 some (.inl ((List.take (Int.toNat ((List.length p5009.1:Int)-1)) (List.drop 1 p5009.1)),(List.take (Int.toNat ((List.length p5009.2.1:Int)-1)) (List.drop 1 p5009.2.1)),(List.length (p5009.2.2.2.2.1++[(T.agg [(T.s (.int .i64 (Tm.id x5010))),(T.s (.int .u64 (Tm.c x5011)))])])),p5009.2.2.2.1,(p5009.2.2.2.2.1++[(T.agg [(T.s (.int .i64 (Tm.id x5010))),(T.s (.int .u64 (Tm.c x5011)))])]),()))
 else
  none:Option (qW ⊕ qW))
def je :=
 fun(p5002:qW)=>
 (bif(decide ((List.length p5002.1:Int)=0))then
 (idx p5002.2.1 0).bind fun x8=>
 (idx p5002.2.1 0).bind fun x9=>
 (jc p5002 x8 x9)
 else
  (idx p5002.2.1 0).bind fun x10=>
  (idx p5002.1 0).bind fun x11=>
  (bif(decide ((Tm.id x10)<(Tm.id x11)))then
  (idx p5002.2.1 0).bind fun x12=>
  (idx p5002.2.1 0).bind fun x13=>
  (jc p5002 x12 x13)
 else
  (idx p5002.1 0).bind fun x14=>
  (idx p5002.1 0).bind fun x15=>
  (idx p5002.2.1 0).bind fun x16=>
  (bif(true&&((true&&(decide (1≤(List.length p5002.1:Int))))&&(decide ((List.length p5002.1:Int)≤(List.length p5002.1:Int)))))then
  (bif(true&&((true&&(decide (1≤(List.length p5002.2.1:Int))))&&(decide ((List.length p5002.2.1:Int)≤(List.length p5002.2.1:Int)))))then
  (bif(decide ((Tm.c x15)=0))then
  (jd p5002 x14 x16)
 else
  (bif(decide ((Tm.c x16)=0))then
  (jd p5002 x14 x15)
 else
  (bif((true&&(Nat.beq p5002.2.2.1 p5002.2.2.2.2.1.length))&&(Nat.ble (p5002.2.2.2.2.1.length+(List.length [(T.agg [(T.s (.int .i64 (Tm.id x14))),(T.s (.int .u64 (((Qt (Int.toNat (Tm.c x15)) (Int.toNat (Tm.c x16)) 0):Nat):Int)))])])) 549755813888))then
  some (.inl ((List.take (Int.toNat ((List.length p5002.1:Int)-1)) (List.drop 1 p5002.1)),(List.take (Int.toNat ((List.length p5002.2.1:Int)-1)) (List.drop 1 p5002.2.1)),(List.length (p5002.2.2.2.2.1++[(T.agg [(T.s (.int .i64 (Tm.id x14))),(T.s (.int .u64 (((Qt (Int.toNat (Tm.c x15)) (Int.toNat (Tm.c x16)) 0):Nat):Int)))])])),(((upS 0 [p5002.2.2.2.1,(((Qt (Int.toNat (((Qt (Int.toNat (Tm.c x15)) (Int.toNat (Tm.c x16)) 1):Nat):Int)) (Int.toNat (((QS (Int.toNat (((Qt (Int.toNat (Tm.c x15)) (Int.toNat (Tm.c x16)) 2):Nat):Int))):Nat):Int)) 1):Nat):Int)]):Nat):Int),(p5002.2.2.2.2.1++[(T.agg [(T.s (.int .i64 (Tm.id x14))),(T.s (.int .u64 (((Qt (Int.toNat (Tm.c x15)) (Int.toNat (Tm.c x16)) 0):Nat):Int)))])]),()))
 else none)))
 else none)
 else none)):Option (qW ⊕ qW))
def jf :=
 fun(p5003:qW) x5004 x5005=>
 (bif(true&&((true&&(decide (1≤(List.length p5003.1:Int))))&&(decide ((List.length p5003.1:Int)≤(List.length p5003.1:Int)))))then
 (bif(decide ((Tm.c x5004)=0))then
 (bif((true&&(Nat.beq p5003.2.2.1 p5003.2.2.2.2.1.length))&&(Nat.ble (p5003.2.2.2.2.1.length+(List.length [(T.agg [(T.s (.int .i64 (Tm.id x5005))),(T.s (.int .u64 0))])])) 549755813888))then
 some (.inl ((List.take (Int.toNat ((List.length p5003.1:Int)-1)) (List.drop 1 p5003.1)),p5003.2.1,(List.length (p5003.2.2.2.2.1++[(T.agg [(T.s (.int .i64 (Tm.id x5005))),(T.s (.int .u64 0))])])),p5003.2.2.2.1,(p5003.2.2.2.2.1++[(T.agg [(T.s (.int .i64 (Tm.id x5005))),(T.s (.int .u64 0))])]),()))
 else none)
 else
  (bif((true&&(Nat.beq p5003.2.2.1 p5003.2.2.2.2.1.length))&&(Nat.ble (p5003.2.2.2.2.1.length+(List.length [(T.agg [(T.s (.int .i64 (Tm.id x5005))),(T.s (.int .u64 (Tm.c x5004)))])])) 549755813888))then
  some (.inl ((List.take (Int.toNat ((List.length p5003.1:Int)-1)) (List.drop 1 p5003.1)),p5003.2.1,(List.length (p5003.2.2.2.2.1++[(T.agg [(T.s (.int .i64 (Tm.id x5005))),(T.s (.int .u64 (Tm.c x5004)))])])),p5003.2.2.2.1,(p5003.2.2.2.2.1++[(T.agg [(T.s (.int .i64 (Tm.id x5005))),(T.s (.int .u64 (Tm.c x5004)))])]),()))
 else none))
 else
  none:Option (qW ⊕ qW))
def jg :=
 fun(p5012:qW)=>
 bif(decide ((List.length p5012.2.1:Int)=0))then
 (idx p5012.1 0).bind fun x2=>
 (idx p5012.1 0).bind fun x3=>
 (jf p5012 x3 x2)
 else
  (bif(decide (0<(List.length p5012.1:Int)))then
  (idx p5012.1 0).bind fun x4=>
  (idx p5012.2.1 0).bind fun x5=>
  (bif(decide ((Tm.id x4)<(Tm.id x5)))then
  (idx p5012.1 0).bind fun x6=>
  (idx p5012.1 0).bind fun x7=>
  (jf p5012 x7 x6)
 else
  (je p5012))
 else
  (je p5012))
def ym:qW→Option (qW ⊕ qW):=fun p1=>(bif(decide (0<(List.length p1.1:Int)))then
 (jg p1)
 else
  (bif(decide (0<(List.length p1.2.1:Int)))then
  (jg p1)
 else
  some (.inr (p1.1,p1.2.1,p1.2.2.1,p1.2.2.2.1,p1.2.2.2.2.1,()))))
def qED  (fu:Nat)(a:Fm)(b:Fm):Option Fm :=
 (bif(List.any [(a.1,a.2.1,a.2.2.1,a.2.2.2),(b.1,b.2.1,b.2.2.1,b.2.2.2)] (fun z0=>(z0.1||(!(yz z0)))))then
 some (true,(0:Int),[],(0:Int))
 else
  (itP fu (ym) (a.2.2.1,b.2.2.1,0,(((upS 0 [a.2.2.2,b.2.2.2,(((Qt (Int.toNat (Qt a.2.1.toNat b.2.1.toNat 1:Int)) (Int.toNat (((QS (Int.toNat (Qt a.2.1.toNat b.2.1.toNat 2:Int))):Nat):Int)) 1):Nat):Int)]):Nat):Int),[],())).bind fun x50=>
  (bif(true&&(Nat.beq x50.2.2.1 x50.2.2.2.2.1.length))then
  (((((qu x50.2.2.2.2.1).bind fun x51=>
  some (x51,x50.2.2.2.1)).bind fun x52=>
  some ((Qt a.2.1.toNat b.2.1.toNat 0:Int),x52)).bind fun x53=>
  some (false,x53)).bind fun x54=>
  some (jR x54)).bind fun x55=>
  some (x55.1,x55.2.1,x55.2.2.1,x55.2.2.2)
 else none))
def qol(x y:Int):Int:=Jc (Jc x y 1) (qam (Jc x y 2)) 1
def qcX(x y:Int):Int:=Jc (yP x y 1) (qam (yP x y 2)) 1
def jM(id:Int)(r:Int×Int)(g:Int→List Tm×Int):List Tm×Int:=(⟨id,r.1⟩::(g r.2).1,(g r.2).2)
def qh(f:Int→Int→Int→Int×Int):Nat→List Tm→List Tm→Int→List Tm×Int
 | 0,_,_,e=>([],e)
 | _+1,[],[],e=>([],e)
 | n+1,a::l,[],e=>jM a.id (f e a.c 0) (qh f n l [])
 | n+1,[],b::m,e=>jM b.id (f e 0 b.c) (qh f n [] m)
 | n+1,a::l,b::m,e=>bif decide (a.id<b.id)then jM a.id (f e a.c 0) (qh f n l (b::m))else bif decide (b.id<a.id)then jM b.id (f e 0 b.c) (qh f n (a::l) m)else jM a.id (f e a.c b.c) (qh f n l m)
def qan(e x y:Int):Int×Int:=bif decide (x=0)then(y,e)else bif decide (y=0)then(x,e)else(Jc x y 0,upI [e,qol x y])
def qvj(a b:Fm):Fm:=bif okF a&&okF b then(let r:=qh qan (a.2.2.1.length+b.2.2.1.length) a.2.2.1 b.2.2.1 (upI [a.2.2.2,b.2.2.2,qol a.2.1 b.2.1]);jR (false,Jc a.2.1 b.2.1 0,r.1,r.2))else qgX
def qvk:{f:Fm→Fm→Fm // ∀a b,f a b=qvj a b}:=Classical.choice ⟨⟨_,fun _ _=>rfl⟩⟩
def qvl(a b:Fm):Fm:=qvk.1 a b
theorem qvm(a b:Fm):qvl a b=qvj a b:=qvk.2 a b
theorem yQ(n:Nat):decide (0<((n+1:Nat):Int))=true:=zf (by omega)
theorem hz0:decide (((0:Nat):Int)=0)=true:=rfl
theorem hnz(n:Nat):decide (((n+1:Nat):Int)=0)=false:=zk (by omega)
theorem hp0:decide (0<((0:Nat):Int))=false:=rfl
theorem JS(n:Nat):decide (1≤((n+1:Nat):Int))=true:=zf (by omega)
theorem hle(n:Int):decide (n≤n)=true:=zf (by omega)
theorem QT{α:Type}(x:α)(l:List α):idx (x::l) 0=some x:=rfl
theorem yD{α:Type}(x:α)(l:List α):List.take (Int.toNat (((l.length+1:Nat):Int)-1)) (List.drop 1 (x::l))=l:=by
 rw[show Int.toNat (((l.length+1:Nat):Int)-1)=l.length by omega];exact List.take_length
theorem JT(A:List Tm)(i c:Int):A.map vT++[T.agg [T.s (.int .i64 i),T.s (.int .u64 c)]]=(A++[(⟨i,c⟩:Tm)]).map vT:=by simp;rfl
theorem JU(A:List Tm)(t:Tm):((A++[t]).map vT).length=(A++[t]).length:=by simp
theorem qmq:∀(n:Nat) (l m:List Tm) (e:Int) (A:List Tm),l.length+m.length≤n→A.length+n≤549755813888 →
 ∃fu,itP fu ym (l,m,A.length,e,A.map vT,())=some ([],[],(A++(qh qan n l m e).1).length,(qh qan n l m e).2,(A++(qh qan n l m e).1).map vT,())
 | 0,l,m,e,A,h,hA=>by
  have h1:l=[]:=Ka.1 (by omega)
  have h2:m=[]:=Ka.1 (by omega)
  subst h1 h2
  refine⟨1,?_⟩
  rw[qC];simp only[ym,jg,jf,je,jd,jc,zB,hp0,zh,zi,qh,zO]
 | n+1,l,m,e,A,h,hA=>by
  have hb:Nat.ble (A.length+1) 549755813888=true:=zn (by omega)
  have go:∀(l' m':List Tm) (e' id c:Int),l'.length+m'.length≤n →
   ym (l,m,A.length,e,A.map vT,())=some (.inl (l',m',(A++[(⟨id,c⟩:Tm)]).length,e',(A++[(⟨id,c⟩:Tm)]).map vT,())) →
   qh qan (n+1) l m e=jM id (c,e') (qh qan n l' m') →
   ∃fu,itP fu ym (l,m,A.length,e,A.map vT,())=some ([],[],(A++(qh qan (n+1) l m e).1).length,(qh qan (n+1) l m e).2,(A++(qh qan (n+1) l m e).1).map vT,()):=by
   intro l' m' e' id c hl' hstep hm;obtain⟨fu,q⟩:=qmq n l' m' e' (A++[⟨id,c⟩]) hl' (by simp;omega)
   refine⟨fu+1,?_⟩
   rw[qC,hstep,hm];simp only[zi,jM];rw[q];simp only[Ke,WY]
  match l,m,h with
  | [],[],h=>
   refine⟨1,?_⟩
   rw[qC];simp only[ym,jg,jf,je,jd,jc,zB,hp0,zh,zi,qh,zO]
  | x::l,[],h=>
   simp only[zq,zB]at h;cases hx:decide (x.c=0)with
   | true=>
    have hx':=KC hx;refine go l [] e x.id 0 (by simp;omega) ?_ ?_
    · simp only[ym,jg,jf,je,jd,jc,zq,zB,yQ,hz0,hnz,hp0,JS,hle,QT,yD,hx,hb,zr,qx,zN,zG,zd,zh,zi,JT,JU]
    · simp only[qh,qan,hx,zd]
   | false=>
    refine go l [] e x.id x.c (by simp;omega) ?_ ?_
    · simp only[ym,jg,jf,je,jd,jc,zq,zB,yQ,hz0,hnz,hp0,JS,hle,QT,yD,hx,hb,zr,qx,zN,zG,zd,zh,zi,JT,JU]
    · simp only[qh,qan,hx,zh];rfl
  | [],y::m,h=>
   simp only[zq,zB]at h;refine go [] m e y.id y.c (by simp;omega) ?_ ?_
   · simp only[ym,jg,jf,je,jd,jc,zq,zB,yQ,hz0,hnz,hp0,JS,hle,QT,yD,hb,zr,qx,zN,zG,zd,zh,zi,JT,JU]
   · simp only[qh,qan];rfl
  | x::l,y::m,h=>
   simp only[zq]at h;cases h1:decide (x.id<y.id)with
   | true=>
    cases hx:decide (x.c=0)with
    | true=>
     refine go l (y::m) e x.id 0 (by simp;omega) ?_ ?_
     · simp only[ym,jg,jf,je,jd,jc,zq,zB,yQ,hz0,hnz,hp0,JS,hle,QT,yD,h1,hx,hb,zr,qx,zN,zG,zd,zh,zi,JT,JU]
     · simp only[qh,h1,qan,hx,zd]
    | false=>
     refine go l (y::m) e x.id x.c (by simp;omega) ?_ ?_
     · simp only[ym,jg,jf,je,jd,jc,zq,zB,yQ,hz0,hnz,hp0,JS,hle,QT,yD,h1,hx,hb,zr,qx,zN,zG,zd,zh,zi,JT,JU]
     · simp only[qh,h1,qan,hx,zd,zh];rfl
   | false=>
    cases h2:decide (y.id<x.id)with
    | true=>
     refine go (x::l) m e y.id y.c (by simp;omega) ?_ ?_
     · simp only[ym,jg,jf,je,jd,jc,zq,zB,yQ,hz0,hnz,hp0,JS,hle,QT,yD,h1,h2,hb,zr,qx,zN,zG,zd,zh,zi,JT,JU]
     · simp only[qh,h1,h2,qan,zd,zh];rfl
    | false=>
     cases hx:decide (x.c=0)with
     | true=>
      refine go l m e x.id y.c (by omega) ?_ ?_
      · simp only[ym,jg,jf,je,jd,jc,zq,zB,yQ,hz0,hnz,hp0,JS,hle,QT,yD,h1,h2,hx,hb,zr,qx,zN,zG,zd,zh,zi,JT,JU]
      · simp only[qh,h1,h2,qan,hx,zd,zh]
     | false=>
      cases hy:decide (y.c=0)with
      | true=>
       refine go l m e x.id x.c (by omega) ?_ ?_
       · simp only[ym,jg,jf,je,jd,jc,zq,zB,yQ,hz0,hnz,hp0,JS,hle,QT,yD,h1,h2,hx,hy,hb,zr,qx,zN,zG,zd,zh,zi,JT,JU]
       · simp only[qh,h1,h2,qan,hx,hy,zd,zh]
      | false=>
       refine go l m (upI [e,qol x.c y.c]) x.id (Jc x.c y.c 0) (by omega) ?_ ?_
       · simp only[ym,jg,jf,je,jd,jc,zq,zB,yQ,hz0,hnz,hp0,JS,hle,QT,yD,h1,h2,hx,hy,hb,zr,qx,zN,zG,zd,zh,zi,JT,JU]
         rfl
       · simp only[qh,h1,h2,qan,hx,hy,zd,zh]
def qjV(p:Fm×Fm):Option Fm:=bif Nat.ble (p.1.2.2.1.length+p.2.2.2.1.length) 549755813888 then some (qvl p.1 p.2)else none
theorem qzQ(p:Fm×Fm)(y:Fm)(hg:(dc qB (d1 qB)).good p)(h:qjV p=some y):∃n,qED n p.1 p.2=some y:=by
 obtain⟨⟨b1,m1,l1,e1⟩,b2,m2,l2,e2⟩:=p;obtain⟨h1,h2⟩:=qi h;have:=soi h2;subst this
 have hl:l1.length+l2.length≤549755813888:=zo h1
 have ha:List.any [((b1,m1,l1,e1):Fm),(b2,m2,l2,e2)] (fun z0=>(z0.1||(!(yz z0)))) = !(okF (b1,m1,l1,e1)&&okF (b2,m2,l2,e2)):=by simp[okF]
 obtain⟨n,q⟩:=qmq _ l1 l2 (upI [e1,e2,qol m1 m2]) [] (zE _) (by simpa using hl)
 refine⟨n,?_⟩
 rw[qvm];unfold qED qvj;simp only[];rw[ha];cases(okF (b1,m1,l1,e1)&&okF (b2,m2,l2,e2))with
 | false=>rfl
 | true=>
  rw[Kh,zh,zd];refine obs q ?_
  simp only[zX,zr,qx,zN,zd];exact obs (obs (obs (obs (obs (qA _) rfl) rfl) rfl) rfl) rfl
end
end Su
end
section
namespace Su
open Go Fly
noncomputable section
def qEE  (a:Fm)(b:Fm):Option Fm :=
 (qjU (b.1,b.2.1,b.2.2.1,b.2.2.2)).bind fun x0=>
 (qjV ((a.1,a.2.1,a.2.2.1,a.2.2.2),x0.1,x0.2.1,x0.2.2.1,x0.2.2.2)).bind fun x1=>
 some (x1.1,x1.2.1,x1.2.2.1,x1.2.2.2)
def qG2(a b:Fm):Fm:=qvl a (qmn b)
def qvn(p:Fm×Fm):Option Fm:=bif JL p.2.2.2.1&&Nat.ble (p.1.2.2.1.length+(qmn p.2).2.2.1.length) 549755813888 then some (qG2 p.1 p.2)else none
theorem qzR(p:Fm×Fm)(y:Fm)(hg:(dc qB (d1 qB)).good p)(h:qvn p=some y):qEE p.1 p.2=some y:=by
 obtain⟨⟨b1,m1,l1,e1⟩,b2,m2,l2,e2⟩:=p;obtain⟨h1,h2⟩:=qi h;have:=soi h2;subst this
 simp only[zm]at h1;have h3:JL l2=true:=h1.1
 have h4:Nat.ble (l1.length+(qmn (b2,m2,l2,e2)).2.2.1.length) 549755813888=true:=h1.2
 unfold qEE qjU qjV;simp only[h3,zd,zi,h4];rfl
end
end Su
end
section
namespace Su
open Go Fly
noncomputable section
def qEF  (a:Int)(b:Int):Option Bool :=
 (bif(qgW a.toNat b.toNat)then
 some (decide ((qcG a.toNat b.toNat)≤0))
 else
  some false)
def leF(a b:Int):Bool:=qgW a.toNat b.toNat&&decide (qcG a.toNat b.toNat≤0)
def qvo(p:Int×Int):Option Bool:=some (leF p.1 p.2)
theorem qzS(p:Int×Int)(y:Bool)(hg:(dc (cI .u64) (d1 (cI .u64))).good p)(h:qvo p=some y):qEF p.1 p.2=some y:=by
 have:=soi h;subst this
 unfold qEF leF;cases qgW p.1.toNat p.2.toNat <;> rfl
end
end Su
end
section
namespace Su
open Go Fly
noncomputable section
abbrev qaQ:=(Nat×Int×Int×Bool×Int×Int×Bool×Int×Int×Unit)
def qh0:qaQ→Option (qaQ ⊕ qaQ):=fun p0=>(bif(decide (p0.2.2.1<p0.2.1))then
 (bif(true&&(true&&((decide (0≤p0.2.2.1))&&(decide (p0.2.2.1<(p0.1:Int))))))then
 (bif(Nat.beq p0.2.2.1.toNat 0)then
 (bif(decide ((((qE (bK p0.2.2.2.2.1.toNat)):Nat):Int)=0))then
 some (.inl (p0.1,p0.2.1,(IntKind.wrap .i64 (p0.2.2.1+1)),p0.2.2.2.1,(0:Int),p0.2.2.2.2.2.1,p0.2.2.2.2.2.2.1,p0.2.2.2.2.2.2.2.1,p0.2.2.2.2.2.2.2.2.1,()))
 else
  some (.inl (p0.1,p0.2.1,(IntKind.wrap .i64 (p0.2.2.1+1)),p0.2.2.2.1,p0.2.2.2.2.1,p0.2.2.2.2.2.1,p0.2.2.2.2.2.2.1,p0.2.2.2.2.2.2.2.1,p0.2.2.2.2.2.2.2.2.1,())))
 else
  (bif(Nat.beq (p0.2.2.1.toNat-1) 0)then
  (bif(decide ((((qE (bK p0.2.2.2.2.2.1.toNat)):Nat):Int)=0))then
  some (.inl (p0.1,p0.2.1,(IntKind.wrap .i64 (p0.2.2.1+1)),p0.2.2.2.1,p0.2.2.2.2.1,(0:Int),p0.2.2.2.2.2.2.1,p0.2.2.2.2.2.2.2.1,p0.2.2.2.2.2.2.2.2.1,()))
 else
  some (.inl (p0.1,p0.2.1,(IntKind.wrap .i64 (p0.2.2.1+1)),p0.2.2.2.1,p0.2.2.2.2.1,p0.2.2.2.2.2.1,p0.2.2.2.2.2.2.1,p0.2.2.2.2.2.2.2.1,p0.2.2.2.2.2.2.2.2.1,())))
 else none))
 else none)
 else
  some (.inr (p0.1,p0.2.1,p0.2.2.1,p0.2.2.2.1,p0.2.2.2.2.1,p0.2.2.2.2.2.1,p0.2.2.2.2.2.2.1,p0.2.2.2.2.2.2.2.1,p0.2.2.2.2.2.2.2.2.1,())))
def qom  (fu:Nat)(s:(Bool×Int×Int)):Option (Bool×Int×Int) :=
 (bif s.1 then
 some (true,(0:Int),(0:Int))
 else
  (bif(!(leF s.2.1 s.2.2))then
  some (true,(0:Int),(0:Int))
 else
  (bif(decide (s.2.1=((9218868437227405312:Nat):Int)))then
  some (true,(0:Int),(0:Int))
 else
  (bif(decide (s.2.2=((18442240474082181120:Nat):Int)))then
  some (true,(0:Int),(0:Int))
 else
  (itP fu (qh0) (2,(2:Int),(0:Int),s.1,s.2.1,s.2.2,false,(0:Int),(0:Int),())).bind fun x1=>
  some (x1.2.2.2.1,x1.2.2.2.2.1,x1.2.2.2.2.2.1)))))
abbrev Spn:=Bool×(Int×Int)
def qqc:Spn:=(true,0,0)
def qK(s:Spn):Spn:=bif s.1||(!leF s.2.1 s.2.2||(decide (s.2.1=9218868437227405312)||decide (s.2.2=18442240474082181120)))then qqc else(s.1,nzI s.2.1,nzI s.2.2)
def qmr(s:Spn):Option Spn:=some (qK s)
theorem qrY(s y:Spn)(hg:(d1 qgV).good s)(h:qmr s=some y):∃n,qom n s=some y:=by
 obtain⟨e,lo,hi⟩:=s;have:=soi h;subst this
 refine⟨3,?_⟩
 unfold qom qK nzI zI;have hz:∀f:Int,decide (((qE (bK f.toNat):Nat):Int)=0)=Nat.beq (bK f.toNat) 0:=fun f=>qge _
 have w1:IntKind.i64.wrap 1=1:=by decide
 have w2:IntKind.i64.wrap 2=2:=by decide
 simp only[qC,qh0,hz];cases e with
 | true=>rfl
 | false=>
  cases leF lo hi with
  | false=>rfl
  | true=>
   cases h1:decide (lo=9218868437227405312)with
   | true=>simp[h1];rfl
   | false=>
    cases h2:decide (hi=18442240474082181120)with
    | true=>simp[h1,h2];rfl
    | false=>
     cases h3:Nat.beq (bK lo.toNat) 0 <;> cases h4:Nat.beq (bK hi.toNat) 0 <;> (simp[h1,h2,h3,h4,w1,w2];try rfl)
end
end Su
end
section
namespace Su
open Go Fly
noncomputable section
def qfa:(Int×(List Tm)×Int×Int×Bool×Int×(List Tm)×Int×Unit)→Option ((Int×(List Tm)×Int×Int×Bool×Int×(List Tm)×Int×Unit) ⊕ (Int×(List Tm)×Int×Int×Bool×Int×(List Tm)×Int×Unit)):=fun p1=>(bif(decide (p1.2.2.2.1<p1.2.2.1))then
 (idx p1.2.1 p1.2.2.2.1).bind fun x2=>
 some (.inl ((((upS 0 [p1.1,(((yE (Int.toNat (Tm.c x2))):Nat):Int)]):Nat):Int),p1.2.1,p1.2.2.1,(IntKind.wrap .i64 (p1.2.2.2.1+1)),p1.2.2.2.2.1,p1.2.2.2.2.2.1,p1.2.2.2.2.2.2.1,p1.2.2.2.2.2.2.2.1,()))
 else
  some (.inr (p1.1,p1.2.1,p1.2.2.1,p1.2.2.2.1,p1.2.2.2.2.1,p1.2.2.2.2.2.1,p1.2.2.2.2.2.2.1,p1.2.2.2.2.2.2.2.1,())))
def qEG  (fu:Nat)(a:Fm):Option Int :=
 (bif(List.any [(a.1,a.2.1,a.2.2.1,a.2.2.2)] (fun z0=>(z0.1||(!(yz z0)))))then
 some ((9218868437227405312:Nat):Int)
 else
  (itP fu (qfa) ((0:Int),a.2.2.1,(List.length a.2.2.1:Int),(0:Int),a.1,a.2.1,a.2.2.1,a.2.2.2,())).bind fun x3=>
  some (upS 0 [x3.1,x3.2.2.2.2.2.2.2.1]:Int))
def qcY(c:Int):Int:=((yE c.toNat:Nat):Int)
def qms:List Tm→Int→Int
 | [],s=>s
 | t::l,s=>qms l (upI [s,qcY t.c])
def radL:{f:Fm→Int // ∀a,f a=bif okF a then upI [qms a.2.2.1 0,a.2.2.2]else 9218868437227405312}:=Classical.choice ⟨⟨_,fun _=>rfl⟩⟩
def qjW(a:Fm):Int:=radL.1 a
theorem qjX(a:Fm):qjW a=bif okF a then upI [qms a.2.2.1 0,a.2.2.2]else 9218868437227405312:=radL.2 a
def qdB(a:Fm):Option Int:=bif JL a.2.2.1 then some (qjW a)else none
theorem qmt(l:List Tm)(hl:l.length≤549755813888)(q:Bool×Int×List Tm×Int×Unit):∀(rest A:List Tm) (s:Int),A++rest=l →
 ∃n,itP n qfa (s,l,(l.length:Int),(A.length:Int),q)=some (qms rest s,l,(l.length:Int),(l.length:Int),q)
 | [],A,s,hA=>by
  rw[zO]at hA;subst hA;refine⟨1,?_⟩
  rw[qC];simp only[qfa];rw[zk (by omega),zh];rfl
 | t::rest,A,s,hA=>by
  have hNl:A.length+(rest.length+1)=l.length:=by rw[← hA];simp
  have hg:idx l (A.length:Int)=some t:=by
   rw[jB,← hA,zP (by omega),Vi];rfl
  obtain⟨n,h⟩:=qmt l hl q rest (A++[t]) (upI [s,qcY t.c]) (by rw[← hA];simp)
  refine⟨n+1,?_⟩
  rw[qC];simp only[qfa];rw[zf (show(A.length:Int)<(l.length:Int) by omega),zd,hg,zi,w64 (by omega) (by omega),show((A.length:Int)+1)=(((A++[t]).length:Nat):Int) by simp];exact h
theorem qzT(a:Fm)(y:Int)(hg:(d1 qB).good a)(h:qdB a=some y):∃n,qEG n a=some y:=by
 obtain⟨b,m,l,e⟩:=a;obtain⟨h1,h2⟩:=qi h;have:=soi h2;subst this
 have hl:l.length≤549755813888:=zo h1
 have ha:List.any [((b,m,l,e):Fm)] (fun z0=>(z0.1||(!(yz z0)))) = !okF (b,m,l,e):=by simp[okF]
 obtain⟨n,q⟩:=qmt l hl (b,m,l,e,()) l [] 0 rfl
 refine⟨n,?_⟩
 rw[qjX];unfold qEG;simp only[];rw[ha];cases okF (b,m,l,e)with
 | false=>rfl
 | true=>
  rw[Kh,zh,zd];exact obs q rfl
end
end Su
end
section
namespace Su
open Go Fly
noncomputable section
def qvp  (a:Fm):Option Int :=
 (qdB (a.1,(0:Int),a.2.2.1,a.2.2.2)).bind fun x0=>
 some x0
def aMid  (a:Int)(b:Int):Option Int :=
 some (((Qt (Int.toNat (qrU a.toNat (Int.toNat 4602678819172646912) 0:Int)) (Int.toNat (qrU b.toNat (Int.toNat 4602678819172646912) 0:Int)) 0):Nat):Int)
def YA(a:Fm):Int:=qjW (a.1,0,a.2.2.1,a.2.2.2)
def JV(a:Fm):Option Int:=bif JL a.2.2.1 then some (YA a)else none
theorem qvq(a:Fm)(y:Int)(hg:(d1 qB).good a)(h:JV a=some y):qvp a=some y:=by
 obtain⟨h1,h2⟩:=qi h;have:=soi h2;subst this
 unfold qvp qdB;rw[h1];rfl
def qeC(a b:Int):Int:=Jc (yP a 4602678819172646912 0) (yP b 4602678819172646912 0) 0
def qvr(p:Int×Int):Option Int:=some (qeC p.1 p.2)
theorem qzU(p:Int×Int)(y:Int)(hg:(dc (cI .u64) (d1 (cI .u64))).good p)(h:qvr p=some y):aMid p.1 p.2=some y:=h
end
end Su
end
