/-
  What functions of the program compute, in plain Lean, and that the evaluator finds it.
-/
import Derived.Test.YtfckjjffdfkelaaGreatSuSd
import Derived.Test.YtfckjjffdfkelaaGreatNC19
import Derived.Test.YtfckjjffdfkelaaGreatNB10
import Derived.Test.YtfckjjffdfkelaaGreatNC14
set_option linter.unusedVariables false
set_option linter.unusedSimpArgs false
set_option maxRecDepth 10000
section
namespace Su
open Go Fly
noncomputable section
abbrev Qu:=List Tm×(List Tm×Nat×Bool×Int×List Tm×Int×Bool×Int×List Tm×Int×Int×Bool×List T×Unit)
def qgZ(s:Qu)(l m:List Tm)(id p q e:Int)(ok:Bool):Option (Qu ⊕ Qu) :=
 bif(true&&Nat.beq s.2.2.1 s.2.2.2.2.2.2.2.2.2.2.2.2.2.1.length)&&Nat.ble (s.2.2.2.2.2.2.2.2.2.2.2.2.2.1.length+[T.agg [T.s (.int .i64 id),T.s (.int .u64 (Jc p q 0))]].length) 549755813888 then
  some (.inl (l,m,(s.2.2.2.2.2.2.2.2.2.2.2.2.2.1++[T.agg [T.s (.int .i64 id),T.s (.int .u64 (Jc p q 0))]]).length,s.2.2.2.1,s.2.2.2.2.1,s.2.2.2.2.2.1,s.2.2.2.2.2.2.1,s.2.2.2.2.2.2.2.1,s.2.2.2.2.2.2.2.2.1,s.2.2.2.2.2.2.2.2.2.1,s.2.2.2.2.2.2.2.2.2.2.1,upI [e,qol p q],ok,s.2.2.2.2.2.2.2.2.2.2.2.2.2.1++[T.agg [T.s (.int .i64 id),T.s (.int .u64 (Jc p q 0))]],()))
 else none
def qaR(s:Qu)(l m:List Tm)(id mid x:Int)(c:Bool):Option (Qu ⊕ Qu) :=
 bif decide (x=0)then qgZ s l m id 0 0 s.2.2.2.2.2.2.2.2.2.2.2.1 s.2.2.2.2.2.2.2.2.2.2.2.2.1
 else bif s.2.2.2.2.2.2.2.2.2.2.2.2.1 then qgZ s l m id (bif c then yP mid x 0 else 0) (bif c then 0 else yP mid x 0) (upI [s.2.2.2.2.2.2.2.2.2.2.2.1,qcX mid x]) (fI (yP mid x 0))
 else qgZ s l m id (bif c then yP mid x 0 else 0) (bif c then 0 else yP mid x 0) (upI [s.2.2.2.2.2.2.2.2.2.2.2.1,qcX mid x]) false
def qjY(s:Qu)(l m:List Tm)(id x y:Int):Option (Qu ⊕ Qu) :=
 bif decide (y=0)then qaR s l m id s.2.2.2.2.2.2.2.2.1 x false
 else bif s.2.2.2.2.2.2.2.2.2.2.2.2.1 then
  (bif decide (x=0)then qgZ s l m id (yP s.2.2.2.2.1 y 0) 0 (upI [s.2.2.2.2.2.2.2.2.2.2.2.1,qcX s.2.2.2.2.1 y]) (fI (yP s.2.2.2.2.1 y 0))
   else bif fI (yP s.2.2.2.2.1 y 0)then qgZ s l m id (yP s.2.2.2.2.1 y 0) (yP s.2.2.2.2.2.2.2.2.1 x 0) (upI [upI [s.2.2.2.2.2.2.2.2.2.2.2.1,qcX s.2.2.2.2.1 y],qcX s.2.2.2.2.2.2.2.2.1 x]) (fI (yP s.2.2.2.2.2.2.2.2.1 x 0))
   else qgZ s l m id (yP s.2.2.2.2.1 y 0) (yP s.2.2.2.2.2.2.2.2.1 x 0) (upI [upI [s.2.2.2.2.2.2.2.2.2.2.2.1,qcX s.2.2.2.2.1 y],qcX s.2.2.2.2.2.2.2.2.1 x]) false)
 else
  (bif decide (x=0)then qgZ s l m id (yP s.2.2.2.2.1 y 0) 0 (upI [s.2.2.2.2.2.2.2.2.2.2.2.1,qcX s.2.2.2.2.1 y]) false
   else qgZ s l m id (yP s.2.2.2.2.1 y 0) (yP s.2.2.2.2.2.2.2.2.1 x 0) (upI [upI [s.2.2.2.2.2.2.2.2.2.2.2.1,qcX s.2.2.2.2.1 y],qcX s.2.2.2.2.2.2.2.2.1 x]) false)
def tl1(l:List Tm)(r:List Tm→Option (Qu ⊕ Qu)):Option (Qu ⊕ Qu) :=
 bif true&&((true&&decide (1≤((l.length:Nat):Int)))&&decide (((l.length:Nat):Int)≤((l.length:Nat):Int)))then r (List.take (Int.toNat (((l.length:Nat):Int)-1)) (List.drop 1 l))else none
def qzV(s:Qu):Option (Qu ⊕ Qu):=(idx s.1 0).bind fun x=>(idx s.1 0).bind fun y=>tl1 s.1 fun l=>qaR s l s.2.1 (Tm.id x) s.2.2.2.2.2.2.2.2.1 (Tm.c y) false
def qzW(s:Qu):Option (Qu ⊕ Qu):=(idx s.2.1 0).bind fun x=>(idx s.2.1 0).bind fun y=>tl1 s.2.1 fun m=>qaR s s.1 m (Tm.id x) s.2.2.2.2.1 (Tm.c y) true
def qmu(s:Qu):Option (Qu ⊕ Qu) :=
 bif decide (((s.1.length:Nat):Int)=0)then qzW s
 else(idx s.2.1 0).bind fun x=>(idx s.1 0).bind fun y=>bif decide (Tm.id x<Tm.id y)then qzW s
  else(idx s.1 0).bind fun x=>(idx s.1 0).bind fun y=>(idx s.2.1 0).bind fun z=>tl1 s.1 fun l=>tl1 s.2.1 fun m=>qjY s l m (Tm.id x) (Tm.c y) (Tm.c z)
def qgt(s:Qu):Option (Qu ⊕ Qu) :=
 bif decide (((s.2.1.length:Nat):Int)=0)then qzV s
 else bif decide (0<((s.1.length:Nat):Int))then(idx s.1 0).bind fun x=>(idx s.2.1 0).bind fun y=>bif decide (Tm.id x<Tm.id y)then qzV s else qmu s
 else qmu s
def yM:Qu→Option (Qu ⊕ Qu):=fun s=>
 bif decide (0<((s.1.length:Nat):Int))then qgt s else bif decide (0<((s.2.1.length:Nat):Int))then qgt s
 else some (.inr (s.1,s.2.1,s.2.2.1,s.2.2.2.1,s.2.2.2.2.1,s.2.2.2.2.2.1,s.2.2.2.2.2.2.1,s.2.2.2.2.2.2.2.1,s.2.2.2.2.2.2.2.2.1,s.2.2.2.2.2.2.2.2.2.1,s.2.2.2.2.2.2.2.2.2.2.1,s.2.2.2.2.2.2.2.2.2.2.2.1,s.2.2.2.2.2.2.2.2.2.2.2.2.1,s.2.2.2.2.2.2.2.2.2.2.2.2.2.1,()))
def qzX(a b:Fm)(r s:Int):Int:=upI [qcX a.2.1 b.2.1,yP (qcY a.2.1) b.2.2.2 1,yP (qcY b.2.1) a.2.2.2 1,yP r s 1]
def qjZ(fu:Nat)(a b:Fm)(r s:Int)(ok:Bool):Option Fm :=
 (itP fu yM (a.2.2.1,b.2.2.1,0,a.1,a.2.1,a.2.2.1,a.2.2.2,b.1,b.2.1,b.2.2.1,b.2.2.2,qzX a b r s,ok,[],())).bind fun x=>
 bif !x.2.2.2.2.2.2.2.2.2.2.2.2.1 then some (true,(0:Int),[],(0:Int))
 else bif true&&Nat.beq x.2.2.1 x.2.2.2.2.2.2.2.2.2.2.2.2.2.1.length then
  ((((((qu x.2.2.2.2.2.2.2.2.2.2.2.2.2.1).bind fun y=>some (y,x.2.2.2.2.2.2.2.2.2.2.2.1)).bind fun y=>some (yP x.2.2.2.2.1 x.2.2.2.2.2.2.2.2.1 0,y)).bind fun y=>some (false,y)).bind fun y=>some (jR y)).bind fun y=>some (y.1,y.2.1,y.2.2.1,y.2.2.2))
 else none
def qvs(fu:Nat)(a b:Fm):Option Fm :=
 bif List.any [(a.1,a.2.1,a.2.2.1,a.2.2.2),(b.1,b.2.1,b.2.2.1,b.2.2.2)] (fun z0=>(z0.1||(!(yz z0))))then some (true,(0:Int),[],(0:Int))
 else(JV (a.1,a.2.1,a.2.2.1,a.2.2.2)).bind fun r=>(JV (b.1,b.2.1,b.2.2.1,b.2.2.2)).bind fun s=>
  bif jT (bK r.toNat)then qjZ fu a b r s (jT (bK s.toNat))else qjZ fu a b r s false
def JF(ma mb e x y:Int):Int×Int :=
 (Jc (bif decide (y=0)then 0 else yP ma y 0) (bif decide (x=0)then 0 else yP mb x 0) 0,
  upI [bif decide (x=0)then(bif decide (y=0)then e else upI [e,qcX ma y])else upI [bif decide (y=0)then e else upI [e,qcX ma y],qcX mb x],
   qol (bif decide (y=0)then 0 else yP ma y 0) (bif decide (x=0)then 0 else yP mb x 0)])
def okD(ma mb x y:Int):Bool:=fI (bif decide (y=0)then 0 else yP ma y 0)&&fI (bif decide (x=0)then 0 else yP mb x 0)
def okE(ma mb e x y:Int):Int×Int:=(bif okD ma mb x y then 0 else 1,e)
def qg0(ma mb:Int)(n:Nat)(l m:List Tm):Bool:=(qh (okE ma mb) n l m 0).1.all fun t=>decide (t.c=0)
theorem qj0{l0 m0 l m:List Tm}{ba bb:Bool}{ma mb ea eb e0:Int}{ta tb:List Tm}{ok0:Bool}{A:List Tm}(hA:A.length+1≤549755813888)(id p q e:Int)(ok:Bool) :
 qgZ (l0,m0,A.length,ba,ma,ta,ea,bb,mb,tb,eb,e0,ok0,A.map vT,()) l m id p q e ok =
  some (.inl (l,m,(A++[(⟨id,Jc p q 0⟩:Tm)]).length,ba,ma,ta,ea,bb,mb,tb,eb,upI [e,qol p q],ok,(A++[(⟨id,Jc p q 0⟩:Tm)]).map vT,())):=by
 have hb:Nat.ble (A.length+1) 549755813888=true:=zn hA
 simp only[qgZ,zr,qx,zN,zG,Xr,hb,zd,JT,JU]
theorem qmv{l0 m0 l m:List Tm}{ba bb:Bool}{ma mb ea eb e:Int}{ta tb:List Tm}{ok:Bool}{A:List Tm}(hA:A.length+1≤549755813888)(id x:Int) :
 qaR (l0,m0,A.length,ba,ma,ta,ea,bb,mb,tb,eb,e,ok,A.map vT,()) l m id mb x false =
  some (.inl (l,m,(A++[(⟨id,(JF ma mb e x 0).1⟩:Tm)]).length,ba,ma,ta,ea,bb,mb,tb,eb,(JF ma mb e x 0).2,ok&&okD ma mb x 0,(A++[(⟨id,(JF ma mb e x 0).1⟩:Tm)]).map vT,())):=by
 unfold qaR;simp only[qj0 hA,JF,okD,WA,zd,zh,qoj,zG];cases decide (x=0) <;> cases ok <;> simp only[zd,zh,qoj,zG,KW,zY]
theorem qmw{l0 m0 l m:List Tm}{ba bb:Bool}{ma mb ea eb e:Int}{ta tb:List Tm}{ok:Bool}{A:List Tm}(hA:A.length+1≤549755813888)(id y:Int) :
 qaR (l0,m0,A.length,ba,ma,ta,ea,bb,mb,tb,eb,e,ok,A.map vT,()) l m id ma y true =
  some (.inl (l,m,(A++[(⟨id,(JF ma mb e 0 y).1⟩:Tm)]).length,ba,ma,ta,ea,bb,mb,tb,eb,(JF ma mb e 0 y).2,ok&&okD ma mb 0 y,(A++[(⟨id,(JF ma mb e 0 y).1⟩:Tm)]).map vT,())):=by
 unfold qaR;simp only[qj0 hA,JF,okD,WA,zd,zh,qoj,zN];cases decide (y=0) <;> cases ok <;> simp only[zd,zh,qoj,zG,KW,zY,zN]
theorem qon{l0 m0 l m:List Tm}{ba bb:Bool}{ma mb ea eb e:Int}{ta tb:List Tm}{ok:Bool}{A:List Tm}(hA:A.length+1≤549755813888)(id x y:Int) :
 qjY (l0,m0,A.length,ba,ma,ta,ea,bb,mb,tb,eb,e,ok,A.map vT,()) l m id x y =
  some (.inl (l,m,(A++[(⟨id,(JF ma mb e x y).1⟩:Tm)]).length,ba,ma,ta,ea,bb,mb,tb,eb,(JF ma mb e x y).2,ok&&okD ma mb x y,(A++[(⟨id,(JF ma mb e x y).1⟩:Tm)]).map vT,())):=by
 unfold qjY qaR;simp only[qj0 hA,JF,okD];cases decide (y=0) <;> cases decide (x=0) <;> cases ok <;> simp only[zd,zh,qoj,zG,KW,zY,zN] <;>
  (cases fI (yP ma y 0) <;> simp only[zd,zh,zG,KW])
theorem qdC{t:Tm}{l:List Tm}{r:List Tm→Option (Qu ⊕ Qu)}:tl1 (t::l) r=r l:=by
 unfold tl1;rw[zq,JS,hle,yD];rfl
theorem qrZ{ma mb:Int}{n:Nat}{l m l' m':List Tm}{id x y:Int}(h:∀(f:Int→Int→Int→Int×Int) (e:Int),qh f (n+1) l m e=jM id (f e x y) (qh f n l' m')):qg0 ma mb (n+1) l m=(okD ma mb x y&&qg0 ma mb n l' m'):=by
 unfold qg0;rw[h];simp only[jM,okE,WD];cases okD ma mb x y <;> rfl
theorem qmx{ba bb:Bool}{ma mb ea eb:Int}{ta tb:List Tm}:∀(n:Nat) (l m:List Tm) (e:Int) (ok:Bool) (A:List Tm),l.length+m.length≤n→A.length+n≤549755813888 →
 ∃fu,itP fu yM (l,m,A.length,ba,ma,ta,ea,bb,mb,tb,eb,e,ok,A.map vT,())=some ([],[],(A++(qh (JF ma mb) n l m e).1).length,ba,ma,ta,ea,bb,mb,tb,eb,(qh (JF ma mb) n l m e).2,ok&&qg0 ma mb n l m,(A++(qh (JF ma mb) n l m e).1).map vT,())
 | 0,l,m,e,ok,A,h,hA=>by
  have h1:l=[]:=Ka.1 (by omega)
  have h2:m=[]:=Ka.1 (by omega)
  subst h1 h2
  refine⟨1,?_⟩
  rw[qC];simp only[yM,zB,hp0,zh,zi,qh,zO,qg0,List.all_nil,zN]
 | n+1,l,m,e,ok,A,h,hA=>by
  have go:∀(l' m':List Tm) (id x y:Int),l'.length+m'.length≤n→(∀(f:Int→Int→Int→Int×Int) (e:Int),qh f (n+1) l m e=jM id (f e x y) (qh f n l' m')) →
   yM (l,m,A.length,ba,ma,ta,ea,bb,mb,tb,eb,e,ok,A.map vT,())=some (.inl (l',m',(A++[(⟨id,(JF ma mb e x y).1⟩:Tm)]).length,ba,ma,ta,ea,bb,mb,tb,eb,(JF ma mb e x y).2,ok&&okD ma mb x y,(A++[(⟨id,(JF ma mb e x y).1⟩:Tm)]).map vT,())) →
   ∃fu,itP fu yM (l,m,A.length,ba,ma,ta,ea,bb,mb,tb,eb,e,ok,A.map vT,())=some ([],[],(A++(qh (JF ma mb) (n+1) l m e).1).length,ba,ma,ta,ea,bb,mb,tb,eb,(qh (JF ma mb) (n+1) l m e).2,ok&&qg0 ma mb (n+1) l m,(A++(qh (JF ma mb) (n+1) l m e).1).map vT,()):=by
   intro l' m' id x y hl' hm hs;obtain⟨fu,q⟩:=qmx n l' m' (JF ma mb e x y).2 (ok&&okD ma mb x y) (A++[⟨id,(JF ma mb e x y).1⟩]) hl' (by simp;omega)
   refine⟨fu+1,?_⟩
   rw[qC,hs,hm,qrZ hm];simp only[zi,jM];rw[q];simp only[Ke,WY,Bool.and_assoc]
  have hA1:A.length+1≤549755813888:=by omega
  match l,m,h with
  | [],[],h=>
   refine⟨1,?_⟩
   rw[qC];simp only[yM,zB,hp0,zh,zi,qh,zO,qg0,List.all_nil,zN]
  | x::l,[],h=>
   simp only[zq,zB]at h;refine go l [] x.id x.c 0 (by simp;omega) (fun f e=>rfl) ?_
   simp only[yM,qgt,qzV,zq,zB,yQ,hz0,zd,QT,zi];rw[qdC,qmv hA1]
  | [],y::m,h=>
   simp only[zq,zB]at h;refine go [] m y.id 0 y.c (by simp;omega) (fun f e=>rfl) ?_
   simp only[yM,qgt,qmu,qzW,zq,zB,yQ,hz0,hnz,hp0,zd,zh,QT,zi];rw[qdC,qmw hA1]
  | x::l,y::m,h=>
   simp only[zq]at h;cases h1:decide (x.id<y.id)with
   | true=>
    refine go l (y::m) x.id x.c 0 (by simp;omega) (fun f e=>by simp only[qh,h1,zd]) ?_
    simp only[yM,qgt,qzV,zq,yQ,hnz,zd,zh,QT,zi,h1];rw[qdC,qmv hA1]
   | false=>
    cases h2:decide (y.id<x.id)with
    | true=>
     refine go (x::l) m y.id 0 y.c (by simp;omega) (fun f e=>by simp only[qh,h1,h2,zd,zh]) ?_
     simp only[yM,qgt,qmu,qzW,zq,yQ,hnz,zd,zh,QT,zi,h1,h2];rw[qdC,qmw hA1]
    | false=>
     refine go l m x.id x.c y.c (by omega) (fun f e=>by simp only[qh,h1,h2,zh]) ?_
     simp only[yM,qgt,qmu,zq,yQ,hnz,zd,zh,QT,zi,h1,h2];rw[qdC,qdC,qon hA1]
def qoo(a b:Fm):Fm :=
 bif okF a&&okF b then
  (bif(fI (YA a)&&fI (YA b))&&qg0 a.2.1 b.2.1 (a.2.2.1.length+b.2.2.1.length) a.2.2.1 b.2.2.1 then
    jR (false,yP a.2.1 b.2.1 0,(qh (JF a.2.1 b.2.1) (a.2.2.1.length+b.2.2.1.length) a.2.2.1 b.2.2.1 (qzX a b (YA a) (YA b))))
   else qgX)
 else qgX
def qvt:{f:Fm→Fm→Fm // ∀a b,f a b=qoo a b}:=Classical.choice ⟨⟨_,fun _ _=>rfl⟩⟩
def qCz(a b:Fm):Fm:=qvt.1 a b
theorem qvu(a b:Fm):qCz a b=qoo a b:=qvt.2 a b
def qqd(p:Fm×Fm):Option Fm:=bif Nat.ble (p.1.2.2.1.length+p.2.2.2.1.length) 549755813888 then some (qCz p.1 p.2)else none
theorem qvv(p:Fm×Fm)(y:Fm)(hg:(dc qB (d1 qB)).good p)(h:qqd p=some y):∃n,qvs n p.1 p.2=some y:=by
 obtain⟨a,b⟩:=p;obtain⟨h1,h2⟩:=qi h;have:=soi h2;subst this
 have hl:a.2.2.1.length+b.2.2.1.length≤549755813888:=zo h1
 have ha:List.any [(a.1,a.2.1,a.2.2.1,a.2.2.2),(b.1,b.2.1,b.2.2.1,b.2.2.2)] (fun z0=>(z0.1||(!(yz z0)))) = !(okF a&&okF b):=by simp[okF]
 rw[qvu];unfold qvs qoo;simp only[];rw[ha];cases okF a&&okF b with
 | false=>exact⟨0,rfl⟩
 | true=>
  rw[Kh];change ∃n,(JV _).bind _=some (bif _ then _ else _)
  have ra:JV (a.1,a.2.1,a.2.2.1,a.2.2.2)=some (YA a):=by
   unfold JV JL;simp only[];rw[zn (by omega),zd]
  have rb:JV (b.1,b.2.1,b.2.2.1,b.2.2.2)=some (YA b):=by
   unfold JV JL;simp only[];rw[zn (by omega),zd]
  have hf:∀f:Int,jT (bK f.toNat)=fI f:=fun _=>rfl
  have run:∀ok:Bool,∃n,qjZ n a b (YA a) (YA b) ok=some (bif ok&&qg0 a.2.1 b.2.1 (a.2.2.1.length+b.2.2.1.length) a.2.2.1 b.2.2.1 then
   jR (false,yP a.2.1 b.2.1 0,(qh (JF a.2.1 b.2.1) (a.2.2.1.length+b.2.2.1.length) a.2.2.1 b.2.2.1 (qzX a b (YA a) (YA b))))else qgX):=fun ok=>by
   obtain⟨n,q⟩:=qmx (ba:=a.1) (bb:=b.1) (ma:=a.2.1) (mb:=b.2.1) (ea:=a.2.2.2) (eb:=b.2.2.2) (ta:=a.2.2.1) (tb:=b.2.2.1) _ a.2.2.1 b.2.2.1 (qzX a b (YA a) (YA b)) ok [] (zE _) (by simpa using hl)
   refine⟨n,?_⟩
   unfold qjZ;refine obs q ?_
   simp only[zX];cases ok&&qg0 a.2.1 b.2.1 (a.2.2.1.length+b.2.2.1.length) a.2.2.1 b.2.2.1 with
   | false=>rfl
   | true=>
    simp only[Kh,zh,zr,qx,zN,zd];exact obs (obs (obs (obs (obs (qA _) rfl) rfl) rfl) rfl) rfl
  cases hr:fI (YA a)with
  | true=>
   obtain⟨n,q⟩:=run (fI (YA b))
   refine⟨n,obs ra (obs rb ?_)⟩
   rw[hf,hf,hr,zd,q,zG];rfl
  | false=>
   obtain⟨n,q⟩:=run false;refine⟨n,obs ra (obs rb ?_)⟩
   rw[hf,hr,zh,q,KW];rfl
end
end Su
end
section
namespace Su
open Go Fly
noncomputable section
def qvw  (a:Fm):Option (Bool×Int×Int) :=
 (bif(List.any [(a.1,a.2.1,a.2.2.1,a.2.2.2)] (fun z0=>(z0.1||(!(yz z0)))))then
 some ((qK (false,((18442240474082181120:Nat):Int),((9218868437227405312:Nat):Int))).1,(qK (false,((18442240474082181120:Nat):Int),((9218868437227405312:Nat):Int))).2.1,(qK (false,((18442240474082181120:Nat):Int),((9218868437227405312:Nat):Int))).2.2)
 else
  (qdB (a.1,a.2.1,a.2.2.1,a.2.2.2)).bind fun x1=>
  some ((qK (false,(((Qt a.2.1.toNat (Int.toNat (QS x1.toNat:Int)) 2):Nat):Int),(Qt a.2.1.toNat x1.toNat 1:Int))).1,(qK (false,(((Qt a.2.1.toNat (Int.toNat (QS x1.toNat:Int)) 2):Nat):Int),(Qt a.2.1.toNat x1.toNat 1:Int))).2.1,(qK (false,(((Qt a.2.1.toNat (Int.toNat (QS x1.toNat:Int)) 2):Nat):Int),(Qt a.2.1.toNat x1.toNat 1:Int))).2.2))
def qh1(a:Fm):Spn:=bif okF a then qK (false,Jc a.2.1 (qam (qjW a)) 2,Jc a.2.1 (qjW a) 1)else(false,18442240474082181120,9218868437227405312)
def qfb(a:Fm):Option Spn:=bif JL a.2.2.1 then some (qh1 a)else none
theorem qvx(a:Fm)(y:Spn)(hg:(d1 qB).good a)(h:qfb a=some y):qvw a=some y:=by
 obtain⟨b,m,l,r⟩:=a;obtain⟨h1,h2⟩:=qi h;have:=soi h2;subst this
 have h1:JL l=true:=h1
 have ha:List.any [((b,m,l,r):Fm)] (fun z0=>(z0.1||(!(yz z0)))) = !okF (b,m,l,r):=by simp[okF]
 unfold qvw qh1 qdB;simp only[];rw[ha];cases okF (b,m,l,r)with
 | false=>rfl
 | true=>
  rw[Kh,zh,zd,h1,zd];rfl
end
end Su
end
section
namespace Su
open Go Fly
noncomputable section
end
end Su
end
section
namespace Su
open Go Fly
noncomputable section
def qvy  (a:Fm)(e:Int):Option Fm :=
 (bif(List.any [(a.1,a.2.1,a.2.2.1,a.2.2.2)] (fun z0=>(z0.1||(!(yz z0)))))then
 some (true,(0:Int),[],(0:Int))
 else
  (bif(!(jT (bK e.toNat)))then
  some (true,(0:Int),[],(0:Int))
 else
  (bif(JL a.2.2.1)then
  some a.2.2.1
 else none).bind fun x1=>
  (bif(true&&(Nat.beq (List.length (List.map (vT) x1)) (List.length (List.map (vT) x1))))then
  (((((qu (List.map (vT) x1)).bind fun x2=>
  some (x2,(((upS 0 [a.2.2.2,(yE e.toNat:Int)]):Nat):Int))).bind fun x3=>
  some (a.2.1,x3)).bind fun x4=>
  some (a.1,x4)).bind fun x5=>
  some (jR x5)).bind fun x6=>
  some (x6.1,x6.2.1,x6.2.2.1,x6.2.2.2)
 else none)))
def qaS(a:Fm)(e:Int):Fm:=bif okF a&&fI e then jR (a.1,a.2.1,a.2.2.1,upI [a.2.2.2,qcY e])else qgX
def qfc(p:Fm×Int):Option Fm:=bif JL p.1.2.2.1 then some (qaS p.1 p.2)else none
theorem qvz(p:Fm×Int)(y:Fm)(hg:(dc qB (d1 (cI .u64))).good p)(h:qfc p=some y):qvy p.1 p.2=some y:=by
 obtain⟨⟨b,m,l,r⟩,e⟩:=p;obtain⟨h1,h2⟩:=qi h;have:=soi h2;subst this
 have h1:JL l=true:=h1
 have ha:List.any [((b,m,l,r):Fm)] (fun z0=>(z0.1||(!(yz z0)))) = !okF (b,m,l,r):=by simp[okF]
 have hf:∀f:Int,jT (bK f.toNat)=fI f:=fun _=>rfl
 unfold qvy qaS;simp only[];rw[ha,hf];cases okF (b,m,l,r)with
 | false=>rfl
 | true=>
  cases fI e with
  | false=>rfl
  | true=>
   simp only[Kh,zh,zd,zY,h1,zi,qx];exact obs (obs (obs (obs (obs (qA l) rfl) rfl) rfl) rfl) rfl
end
end Su
end
section
namespace Su
open Go Fly
noncomputable section
def mkQ(p:Int)(q:Nat):Rt:=Qr (decide (p<0)) p.natAbs q
def sv(a:Rt):Int:=bif a.1 then -(nu a:Int)else(nu a:Int)
theorem qcZ(neg:Bool)(d:Nat):Qr neg 0 d=(false,[],ofN 1):=by rw[Z3];unfold qew;rw[Kp (.inl rfl)]
theorem qdD(neg:Bool)(n d:Nat){k:Nat}(hk:0<k):Qr neg (n*k) (d*k)=Qr neg n d:=by
 rw[Z3,Z3];unfold qew;by_cases h:n=0∨d=0
 · rw[Kp h,Kp (by rcases h with h | h <;> simp[h])]
 · have h1:n≠0:=fun e=>h (.inl e)
   have h2:d≠0:=fun e=>h (.inr e)
   have h3 : ¬(n*k=0∨d*k=0):=by
    intro e;rcases e with e | e
    · rcases X5.1 e with e | e <;> omega
    · rcases X5.1 e with e | e <;> omega
   rw[zZ h,zZ h3,Nat.gcd_mul_right,WV _ _ hk,WV _ _ hk]
theorem qh2(neg:Bool)(n:Nat){d:Nat}(hd:0<d):∃g,0<g∧n=g*nu (Qr neg n d)∧d=g*de (Qr neg n d)∧(Qr neg n d).1=(neg&&decide (n≠0)):=by
 by_cases h:n=0
 · subst h
   rw[qcZ];refine⟨d,hd,?_,?_,by simp⟩
   · show 0=d*qa [];simp[qa]
   · show d=d*qa (ofN 1);rw[valN_ofN];omega
 · rw[Z3]
   unfold qew;rw[zZ (by omega)];refine⟨Nat.gcd n d,Nat.gcd_pos_of_pos_right _ hd,?_,?_,by simp[h]⟩
   · show n=_*qa (ofN _);rw[valN_ofN];exact(Nat.mul_div_cancel' (Nat.gcd_dvd_left _ _)).symm
   · show d=_*qa (ofN _);rw[valN_ofN];exact(Nat.mul_div_cancel' (Nat.gcd_dvd_right _ _)).symm
theorem Zz(p:Int)(q:Nat){k:Nat}(hk:0<k):mkQ (p*k) (q*k)=mkQ p q:=by
 unfold mkQ;have e1:(p*(k:Int)).natAbs=p.natAbs*k:=by rw[qHE];rfl
 have e2:decide (p*(k:Int)<0)=decide (p<0):=by
  have hk':(0:Int)<k:=by omega
  by_cases h:p<0
  · rw[zf h,zf (Int.mul_neg_of_neg_of_pos h hk')]
  · rw[zk h,zk]
    have:=qHD (a:=p) (b:=k) (by omega) (by omega)
    omega
 rw[e1,e2,qdD _ _ _ hk]
theorem YB(p:Int){q:Nat}(hq:0<q):∃g:Nat,0<g∧p=g*sv (mkQ p q)∧q=g*de (mkQ p q)∧0<de (mkQ p q):=by
 obtain⟨g,h0,h1,h2,h3⟩:=qh2 (decide (p<0)) p.natAbs hq
 refine⟨g,h0,?_,h2,WM fun e=>?_⟩
 · unfold sv
   have h4:(mkQ p q).1=decide (p<0):=by
    show(Qr _ _ _).1=_
    rw[h3];by_cases h:p<0
    · rw[zf h,zf (by omega)];rfl
    · rw[zk h];rfl
   rw[h4];have h5:p.natAbs=g*nu (mkQ p q):=h1
   have h6:((g*nu (mkQ p q):Nat):Int)=(g:Int)*(nu (mkQ p q):Int):=by simp
   by_cases h:p<0
   · rw[zf h,zd,Int.mul_neg,← h6,← h5];omega
   · rw[zk h,zh,← h6,← h5];omega
 · have h2':q=g*de (mkQ p q):=h2
   rw[e]at h2';omega
theorem Zc(neg:Bool)(n d:Nat):Qr neg n d=mkQ (bif neg then -(n:Int)else(n:Int)) d:=by
 unfold mkQ;by_cases h:n=0
 · subst h
   cases neg <;> simp[qcZ]
 · cases neg with
   | true=>rw[zd,zf (by omega),Int.natAbs_neg,VE]
   | false=>rw[zh,zk (by omega),VE]
theorem qzY(a:Rt):JQ a=mkQ (sv a) (de a):=Zc _ _ _
theorem qEH(p:Int){q:Nat}(hq:0<q):mkQ (sv (mkQ p q)) (de (mkQ p q))=mkQ p q:=by
 obtain⟨g,h0,h1,h2,h3⟩:=YB p hq;have:=Zz (sv (mkQ p q)) (de (mkQ p q)) h0
 rw[XT,← h1,zL,← h2]at this;exact this.symm
theorem qfd(p:Int){q:Nat}(hq:0<q):JQ (mkQ p q)=mkQ p q:=by rw[qzY,qEH p hq]
theorem qzZ(b c:Bool)(n m d:Nat):(bif decide (b=c)then Qr b (n+m) d else bif decide (m≤n)then Qr b (n-m) d else Qr c (m-n) d)=mkQ ((bif b then -(n:Int)else(n:Int))+(bif c then -(m:Int)else(m:Int))) d:=by
 cases b <;> cases c
 · rw[zf rfl,zd,Zc];congr 1
 · rw[zk (by simp),zh]
   by_cases h:m≤n
   · rw[zf h,zd,Zc];congr 1;simp only[zh,zd];omega
   · rw[zk h,zh,Zc];congr 1;simp only[zh,zd];omega
 · rw[zk (by simp),zh]
   by_cases h:m≤n
   · rw[zf h,zd,Zc];congr 1;simp only[zh,zd];omega
   · rw[zk h,zh,Zc];congr 1;simp only[zh,zd];omega
 · rw[zf rfl,zd,Zc];congr 1;simp only[zd];omega
theorem qqe(b:Bool)(n k:Nat):(bif b then -((n*k:Nat):Int)else((n*k:Nat):Int))=(bif b then -(n:Int)else(n:Int))*k:=by
 cases b
 · simp
 · simp only[zd,V8];simp
theorem qz0(x y:Rt):qob x y=mkQ (sv x*de y+sv y*de x) (de x*de y):=by
 unfold qob;rw[qzZ,qqe,qqe];rfl
theorem qqf(p r:Int){q s:Nat}(hq:0<q)(hs:0<s):qrN (mkQ p q) (mkQ r s)=mkQ (p*s+r*q) (q*s):=by
 unfold qrN;rw[qfd p hq,qfd r hs,qz0];obtain⟨g,h0,h1,h2,h3⟩:=YB p hq;obtain⟨h,k0,k1,k2,k3⟩:=YB r hs;generalize mkQ p q=x at *
 generalize mkQ r s=y at *
 rw[← Zz _ _ (Xx h0 k0)];have e1:de x*de y*(g*h)=q*s:=by rw[h2,k2];grind
 have e2:(sv x*de y+sv y*de x)*((g*h:Nat):Int)=p*s+r*q:=by
  have a2:(q:Int)=g*de x:=by rw[h2];simp
  have b2:(s:Int)=h*de y:=by rw[k2];simp
  rw[a2,b2,h1,k1];simp only[Kq]
  grind
 rw[e1,e2]
theorem qz1(p:Int){q:Nat}(hq:0<q):qmf (mkQ p q)=mkQ (-p) q:=by
 unfold qmf;rw[Zc];obtain⟨g,h0,h1,h2,h3⟩:=YB p hq;have e:(bif !(mkQ p q).1 then -(qa (mkQ p q).2.1:Int)else(qa (mkQ p q).2.1:Int)) = -(sv (mkQ p q)):=by
  unfold sv nu;cases(mkQ p q).1 <;> simp
 rw[e];generalize mkQ p q=x at *
 rw[← Zz _ _ h0,h1];have e1:qa x.2.2*g=q:=by rw[h2,zL];rfl
 rw[e1]
 congr 1
 rw[V8,XT]
theorem qz2(p r:Int){q s:Nat}(hq:0<q)(hs:0<s):qjK (mkQ p q) (mkQ r s)=mkQ (p*s-r*q) (q*s):=by
 unfold qjK;rw[qz1 r hs,qqf p (-r) hq hs,V8];rfl
theorem qj1(p:Int){q:Nat}(hq:0<q):qrM (mkQ p q)=mkQ (p.natAbs:Int) q:=by
 unfold qrM;rw[Zc];obtain⟨g,h0,h1,h2,h3⟩:=YB p hq;have e:p.natAbs=g*nu (mkQ p q):=by
  have h5:p.natAbs=(g*sv (mkQ p q)).natAbs:=congrArg Int.natAbs h1
  rw[h5,qHE,VE]
  congr 1
  unfold sv;generalize mkQ p q=x
  cases x.1 <;> simp
 generalize mkQ p q=x at *
 rw[e,← Zz _ _ h0];have e1:qa x.2.2*g=q:=by rw[h2,zL];rfl
 rw[e1,zh]
 congr 1
 simp only[Kq];rw[XT];rfl
def qaT(p r:Int):Int:=if p<r then -1 else if p=r then 0 else 1
theorem qgu(p r:Int){k:Nat}(hk:0<k):qaT (p*k) (r*k)=qaT p r:=by
 unfold qaT;have hk':(0:Int)<k:=by omega
 have e1:p*(k:Int)<r*k↔p<r:=Int.mul_lt_mul_right hk'
 have e2:p*(k:Int)=r*k↔p=r:=Int.mul_eq_mul_right_iff (by omega)
 simp only[e1,e2]
theorem qvA(a b:Nat):JC a b=qaT a b:=by
 unfold JC qaT;simp only[Int.ofNat_lt,Int.ofNat_inj]
theorem qEI(x y:Rt)(hx:0<de x)(hy:0<de y)(zx:x.1=true→nu x≠0)(zy:y.1=true→nu y≠0):rcm x y=qaT (sv x*de y) (sv y*de x):=by
 unfold rcm sv;have hx':(0:Int)<de x:=by omega
 have hy':(0:Int)<de y:=by omega
 have p1:(0:Int)≤nu x*de y:=qHD (by omega) (by omega)
 have p2:(0:Int)≤nu y*de x:=qHD (by omega) (by omega)
 cases hxs:x.1 <;> cases hys:y.1
 · simp only[WA,Kh,zh,qvA,Kq]
 · have h2:0<nu y:=WM (zy hys)
   have p3:(0:Int)<nu y*de x:=Int.mul_pos (by omega) hx'
   simp only[zd,zh,V8];unfold qaT;rw[zZ (by omega),zZ (by omega)];rfl
 · have h2:0<nu x:=WM (zx hxs)
   have p3:(0:Int)<nu x*de y:=Int.mul_pos (by omega) hy'
   simp only[zd,zh,V8];unfold qaT;rw[Kp (by omega)];rfl
 · simp only[WA,Kh,zh,zd,qvA,Kq,V8]
   generalize (nu x:Int)*de y=a
   generalize (nu y:Int)*de x=b
   unfold qaT;split
   · rw[zZ (by omega),zZ (by omega)];rfl
   · split
     · rw[zZ (by omega),Kp (by omega)];rfl
     · rw[Kp (by omega)]
theorem qqg(p:Int){q:Nat}(hq:0<q):(mkQ p q).1=true→nu (mkQ p q)≠0:=by
 intro h e;obtain⟨g,h0,h1,h2,h3⟩:=qh2 (decide (p<0)) p.natAbs hq
 have h4:(mkQ p q).1=(decide (p<0)&&decide (p.natAbs≠0)):=h3
 have h5:p.natAbs=g*nu (mkQ p q):=h1
 rw[e,VB]at h5;rw[h5]at h4;rw[h4]at h;simp at h
theorem qz3(p r:Int){q s:Nat}(hq:0<q)(hs:0<s):quH (mkQ p q) (mkQ r s)=qaT (p*s) (r*q):=by
 unfold quH;rw[qfd p hq,qfd r hs];have z1:=qqg p hq;have z2:=qqg r hs;obtain⟨g,h0,h1,h2,h3⟩:=YB p hq;obtain⟨h,k0,k1,k2,k3⟩:=YB r hs;generalize mkQ p q=x at *
 generalize mkQ r s=y at *
 rw[qEI x y h3 k3 z1 z2,← qgu _ _ (Xx h0 k0)];have a2:(q:Int)=g*de x:=by rw[h2];simp
 have b2:(s:Int)=h*de y:=by rw[k2];simp
 have e1:sv x*de y*((g*h:Nat):Int)=p*s:=by
  rw[b2,h1];simp only[Kq];grind
 have e2:sv y*de x*((g*h:Nat):Int)=r*q:=by
  rw[a2,k1];simp only[Kq];grind
 rw[e1,e2]
structure Sz (a:Rt) (k:Nat):Prop where
 wn:Wd a.2.1
 wd:Wd a.2.2
 ln:a.2.1.length≤k
 ld:a.2.2.length≤k
theorem qb1{neg:Bool}{n d k:Nat}(h1:n<4294967296^k)(h2:d<4294967296^k)(hk:1≤k):Sz (Qr neg n d) k:=by
 rw[Z3];unfold qew;by_cases h:n=0∨d=0
 · rw[Kp h]
   exact⟨.nil,ZY 1,Va _,zU (Jk (v:=1) (k:=1) (by decide)) hk⟩
 · rw[zZ h]
   exact⟨ZY _,ZY _,Jk (KX (VG _ _) h1),Jk (KX (VG _ _) h2)⟩
theorem Sz.nu{a:Rt}{k:Nat}(h:Sz a k):Su.nu a<4294967296^k:=Ki (jo _ h.wn) (Kf (by omega) h.ln)
theorem Sz.de{a:Rt}{k:Nat}(h:Sz a k):Su.de a<4294967296^k:=Ki (jo _ h.wd) (Kf (by omega) h.ld)
theorem Sz.mono{a:Rt}{k m:Nat}(h:Sz a k)(hm:k≤m):Sz a m:=⟨h.wn,h.wd,zU h.ln hm,zU h.ld hm⟩
theorem Sz.ok4{a:Rt}{k:Nat}(h:Sz a k)(hk:k≤400000):Su.ok4 a=true:=by
 unfold Su.ok4;rw[zn (zU h.ln hk),zn (zU h.ld hk)];rfl
theorem Sz.okRt{a:Rt}{k:Nat}(h:Sz a k)(hk:k≤1000000):Su.okRt a=true:=by
 unfold Su.okRt okL;rw[zn (zU h.ln hk),zn (zU h.ld hk)];rfl
theorem qqh{a:Rt}{k:Nat}(h:Sz a k)(hk:1≤k):Sz (JQ a) k:=qb1 h.nu h.de hk
theorem qz4{a:Rt}{k:Nat}(h:Sz a k)(hk:1≤k):Sz (qmf a) k:=qb1 h.nu h.de hk
theorem qz5{a:Rt}{k:Nat}(h:Sz a k)(hk:1≤k):Sz (qrM a) k:=qb1 h.nu h.de hk
theorem qj2{a b k m:Nat}(h1:a<4294967296^k)(h2:b<4294967296^m):a*b<4294967296^(k+m):=by
 rw[zW];exact Nat.mul_lt_mul'' h1 h2
theorem qz6{x y:Rt}{k m:Nat}(h:Sz x k)(h':Sz y m):Sz (qob x y) (k+m+1):=by
 have p1:=qj2 h.nu h'.de;have p2:=qj2 h.de h'.nu;have p3:=qj2 h.de h'.de;rw[zL]at p2;have p4:4294967296^(k+m+1)=4294967296^(k+m)*4294967296:=Kx ..
 unfold qob;generalize nu x*de y=A at *
 generalize nu y*de x=B at *
 generalize de x*de y=C at *
 generalize 4294967296^(k+m)=P at *
 cases decide (x.1=y.1)with
 | true=>exact qb1 (by omega) (by omega) (by omega)
 | false=>
  cases decide (B≤A)with
  | true=>exact qb1 (by omega) (by omega) (by omega)
  | false=>exact qb1 (by omega) (by omega) (by omega)
theorem qz7{a b:Rt}{k m:Nat}(h:Sz a k)(h':Sz b m)(hk:1≤k)(hm:1≤m):Sz (qrN a b) (k+m+1):=qz6 (qqh h hk) (qqh h' hm)
theorem qz8{a b:Rt}{k m:Nat}(h:Sz a k)(h':Sz b m)(hk:1≤k)(hm:1≤m):Sz (qjK a b) (k+m+1):=qz7 h (qz4 h' hm) hk hm
theorem qCA{p:Int}{q k:Nat}(h1:p.natAbs<4294967296^k)(h2:q<4294967296^k)(hk:1≤k):Sz (mkQ p q) k:=qb1 h1 h2 hk
@[irreducible] def EX:Nat:=1074
theorem qvB:EX=1074:=by unfold EX;rfl
@[irreducible] def BX:Nat:=2098
theorem qvC:BX=2098:=by unfold BX;rfl
@[irreducible] def QD:Nat:=2^EX
theorem qqi:QD=2^EX:=by unfold QD;rfl
theorem JG:0<QD:=by rw[qqi];exact zK _
def fvK(b:Bool)(k:Nat):Int:=bif jT k then(bif b then -(kV k:Int)else(kV k:Int))else 0
def fv(f:Nat):Int:=fvK (bS f) (bK f)
theorem qG3(k:Nat):kM k<9007199254740992:=by unfold kM;split <;> omega
theorem YP(f:Nat):JR f=mkQ (fv f) QD:=by
 unfold JR fv fvK;rw[quD];unfold qEc spM spE;generalize bS f=b
 generalize bK f=k
 cases hf:jT k with
 | false=>
  simp only[zh,KW];rw[zZ (by omega)];show Qr b _ _=_
  unfold mkQ;simp[qcZ]
 | true=>
  have hk:=qZ.1 hf;simp only[zd,zG];by_cases h0:k=0
  · subst h0
    rw[show Nat.beq 0 0=true from rfl];simp only[Kh,zh];rw[zZ (by omega)];have e1:kV 0=0:=rfl
    have e2:kM 0=0:=rfl
    rw[e1,e2];unfold mkQ;cases b <;> simp[qcZ]
  · have hb:Nat.beq k 0=false:=by
     cases h:Nat.beq k 0 with
     | false=>rfl
     | true=>exact absurd (zj h) h0
    rw[hb];simp only[Kl,zd];have hE:kE k≤2045:=by unfold kE;omega
    rw[zZ (by omega)];show Qr b (Int.toNat (kM k:Int)*2^(max ((kE k:Int)-1074) 0).toNat) (2^(max (-((kE k:Int)-1074)) 0).toNat)=_
    rw[zl,← Zc];unfold kV;rw[qqi];have hX:=qvB;by_cases h:EX≤kE k
    · have e1:(max ((kE k:Int)-1074) 0).toNat=kE k-EX:=by omega
      have e2:(max (-((kE k:Int)-1074)) 0).toNat=0:=by omega
      rw[e1,e2,← qdD b _ _ (zK EX),zR,← zW,← zW,WQ h,zQ]
    · have e1:(max ((kE k:Int)-1074) 0).toNat=0:=by omega
      have e2:(max (-((kE k:Int)-1074)) 0).toNat=EX-kE k:=by omega
      rw[e1,e2,← qdD b _ _ (zK (kE k)),zR,← zW,← zW,WQ (by omega),zQ]
theorem qr0{k:Nat}(h:k≤9218868437227405311):kV k<2^BX:=by
 have h1:kM k<2^53:=qG3 k
 have h2:kE k+53≤BX:=by rw[qvC];unfold kE;omega
 unfold kV;have h3:=K8 h1 (zK (kE k))
 rw[← zW]at h3;exact Ki h3 (Kf (by omega) (by omega))
theorem qdE(f:Nat):(fv f).natAbs<2^BX:=by
 unfold fv fvK;cases hf:jT (bK f)with
 | false=>exact zK _
 | true=>
  have:=qr0 (qZ.1 hf)
  simp only[zd];cases bS f
  · simpa using this
  · simpa using this
theorem qc0(f:Nat):Sz (JR f) 66:=by
 have h1:=qvC;have h2:=qvB;rw[YP];refine qCA ?_ ?_ (by omega)
 · rw[Zt,show 32*66=BX+14 by omega];exact Ki (qdE f) (Kf (by omega) (by omega))
 · rw[qqi,Zt,show 32*66=EX+1038 by omega];exact Nat.pow_lt_pow_right (by omega) (by omega)
theorem Z6(f:Int):QN f=some (bif Yz f.toNat then((false,[],[]),false)else(JR f.toNat,true)):=by
 unfold QN;rw[qjJ,zd]
theorem qvD{a b:Rt}(h1:Sz a 100000)(h2:Sz b 100000):qaN (a,b)=some (qjK a b)∧Sz (qjK a b) 200001 :=
 ⟨by unfold qaN;simp only[];rw[h1.ok4 (by omega),h2.ok4 (by omega)];rfl,qz8 h1 h2 (by omega) (by omega)⟩
theorem qop{a:Rt}(h1:Sz a 200001):Zb a=some (qrM a)∧Sz (qrM a) 200001 :=
 ⟨by unfold Zb;rw[h1.okRt (by omega)];rfl,qz5 h1 (by omega)⟩
theorem qvE{a b:Rt}(h1:Sz a 400000)(h2:Sz b 400000):qaM (a,b)=some (quH a b):=by
 unfold qaM;simp only[];rw[h1.ok4 (by omega),h2.ok4 (by omega)];rfl
end
end Su
end
section
namespace Su
open Go Fly
noncomputable section
structure Fin4 (a:Fm):Prop where
 mid:fI a.2.1=true
 err:fI a.2.2.2=true
 tms:∀t∈a.2.2.1,fI t.c=true
theorem qmy:∀ {l:List Tm} {k:Int},ye k l=true→∀t∈l,fI t.c=true
 | [],_,_,t,ht=>by cases ht
 | x::l,k,h,t,ht=>by
  simp only[ye,zm]at h;rcases zJ.1 ht with rfl | ht
  · exact h.2.2.1
  · exact qmy h.2.2.2 t ht
theorem yR{a:Fm}(h:okF a=true):a.1=false∧Fin4 a:=by
 unfold okF at h;simp only[KR,VQ,Xi]at h;obtain⟨h1,h2⟩:=h;rw[qe9,h1,zh]at h2;simp only[zm]at h2;exact⟨h1,⟨h2.2.1,h2.2.2.2.1,qmy h2.1⟩⟩
def avF(c:Int):Nat:=(fv c.toNat).natAbs
def Zd:List Tm→Nat→Nat
 | [],s=>s
 | t::l,s=>Zd l (s+avF t.c)
def Zf(a:Fm):Nat:=Zd a.2.2.1 (avF a.2.2.2)
theorem qj3(f:Nat):jT (bK f) = !Yz f:=by
 unfold Yz;rw[← qpD];cases decide (((qE (bK f):Nat):Int)=3) <;> cases decide (((qE (bK f):Nat):Int)=4) <;> rfl
theorem qj4{c:Int}(h:fI c=true):Yz c.toNat=false:=by
 have:=qj3 c.toNat
 unfold fI at h;rw[h]at this;cases hn:Yz c.toNat with
 | false=>rfl
 | true=>rw[hn]at this;cases this
theorem qh3(f:Nat):bK (bK f)=bK f:=Nat.mod_mod _ _
theorem qvF(f:Nat):bS (bK f)=false:=Yw.2 (qgd f)
theorem qb2(c:Int):avF c<2^BX:=qdE _
theorem qj5:∀(l:List Tm) (s k:Nat),s<k*2^BX→Zd l s<(k+l.length)*2^BX
 | [],s,k,h=>h
 | t::l,s,k,h=>by
  have h1:=qb2 t.c;have:=qj5 l (s+avF t.c) (k+1) (by rw[zV];omega)
  rw[zq,show k+(l.length+1)=k+1+l.length by omega];exact this
theorem qaU{p:Int}(h:p.natAbs<1048576*2^BX):Sz (mkQ p QD) 100:=by
 have h1:=qvC;have h2:=qvB;refine qCA ?_ ?_ (by omega)
 · rw[Zt,show 32*100=20+BX+1082 by omega,zW,zW]
   refine Ki h ?_
   rw[show(1048576:Nat)=2^20 from rfl];generalize (1082:Nat)=m
   exact XO _ (zK m)
 · rw[qqi,Zt,show 32*100=EX+2126 by omega];exact Nat.pow_lt_pow_right (by omega) (by omega)
theorem addD(p r:Int):qrN (mkQ p QD) (mkQ r QD)=mkQ (p+r) QD:=by
 rw[qqf p r JG JG,← X8,Zz _ _ JG]
theorem subD(p r:Int):qjK (mkQ p QD) (mkQ r QD)=mkQ (p-r) QD:=by
 rw[qz2 p r JG JG,← Int.sub_mul,Zz _ _ JG]
theorem cmpD(p r:Int):quH (mkQ p QD) (mkQ r QD)=qaT p r:=by
 rw[qz3 p r JG JG,qgu _ _ JG]
theorem qqj(p r:Int):decide (qaT p r≤0)=decide (p≤r):=by
 unfold qaT;by_cases h:p<r
 · rw[Kp h,zf (by omega),zf (by omega)]
 · rw[zZ h]
   by_cases h':p=r
   · rw[Kp h',zf (by omega),zf (by omega)]
   · rw[zZ h',zk (by omega),zk (by omega)]
def ofS(a:Fm)(f:Int):Bool:=!Yz f.toNat&&(!okF a||decide ((fv f.toNat-fv a.2.1.toNat).natAbs≤Zf a))
end
end Su
end
section
namespace Su
open Go Fly
def ZA(f:Int):Bool:=qP (bK f.toNat)
def ky(f:Int):Int:=Q7 f.toNat
def mxI(a b:Int):Int:=((qlV a.toNat b.toNat:Nat):Int)
def Fw(f:Int):Prop:=0≤f∧f<18446744073709551616
def qmz(lo hi:Int):Spn:=qK (false,lo,hi)
def qEJ(a b:Spn):Bool:=(qK a).1||(!(qK b).1&&(leF (qK b).2.1 (qK a).2.1&&leF (qK a).2.2 (qK b).2.2))
def qey(s:Spn)(f:Int):Bool:=!decide (qE (bK f.toNat)=3)&&(!(qmz f f).1&&qEJ (qmz f f) s)
theorem qbk{a b:Int}:leF a b=true↔ZA a=false∧ZA b=false∧ky a≤ky b:=by
 unfold leF ZA ky qgW qcG qt8;cases qP (bK a.toNat) <;> cases qP (bK b.toNat) <;> simp
 by_cases h1:Q7 a.toNat<Q7 b.toNat
 · rw[zf h1];simp;omega
 · rw[zk h1]
   by_cases h2:Q7 b.toNat<Q7 a.toNat
   · rw[zf h2];simp;omega
   · rw[zk h2];simp;omega
theorem qmA{a b:Nat}:QX a b=true↔qP (bK a)=false∧qP (bK b)=false∧Q7 a<Q7 b:=by
 unfold QX qgW qcG qt8;cases qP (bK a) <;> cases qP (bK b) <;> simp
 by_cases h1:Q7 a<Q7 b
 · rw[zf h1];simp;omega
 · rw[zk h1]
   by_cases h2:Q7 b<Q7 a
   · rw[zf h2];simp;omega
   · rw[zk h2];simp;omega
theorem qdF(f:Int):(ky f).natAbs=bK f.toNat:=by
 unfold ky Q7;cases bS f.toNat <;> simp
theorem qEK{a b:Int}(ha:Fw a)(hb:Fw b)(za:a≠9223372036854775808)(zb:b≠9223372036854775808)(h:ky a=ky b):a=b:=by
 have h1:=qdF a;have h2:=qdF b;rw[h,h2]at h1;obtain⟨a0,a1⟩:=ha;obtain⟨b0,b1⟩:=hb;unfold ky Q7 at h;have sa:bS a.toNat=decide (9223372036854775808≤a.toNat):=by
  cases hs:bS a.toNat with
  | true=>rw[zf (ZW.1 hs)]
  | false=>rw[zk (by have:=Yw.1 hs;omega)]
 have sb:bS b.toNat=decide (9223372036854775808≤b.toNat):=by
  cases hs:bS b.toNat with
  | true=>rw[zf (ZW.1 hs)]
  | false=>rw[zk (by have:=Yw.1 hs;omega)]
 rw[sa,sb]at h;unfold bK at h h1;by_cases p:9223372036854775808≤a.toNat <;> by_cases q:9223372036854775808≤b.toNat
 · rw[zf p,zf q]at h;simp only[zd]at h;omega
 · rw[zf p,zk q]at h;simp only[zd,zh]at h;omega
 · rw[zk p,zf q]at h;simp only[zd,zh]at h;omega
 · rw[zk p,zk q]at h;simp only[zh]at h;omega
theorem qCB{a b:Int}(ha:Fw a)(hb:Fw b)(na:ZA a=false)(nb:ZA b=false):mxI a b=if ky a<ky b then b else a:=by
 unfold mxI qlV;unfold ZA at na nb;rw[na,nb];simp only[Xc,zh];by_cases h:ky a<ky b
 · rw[Kp h,qmA.2 ⟨na,nb,h⟩,zd];exact Int.toNat_of_nonneg hb.1
 · rw[zZ h,show QX a.toNat b.toNat=false by
    cases hl:QX a.toNat b.toNat with
    | false=>rfl
    | true=>exact absurd (qmA.1 hl).2.2 h,zh]
   exact Int.toNat_of_nonneg ha.1
structure Nz (f:Int):Prop where
 w:Fw f
 n:ZA f=false
 z:f≠9223372036854775808
theorem qh4{f:Int}(h:Fw f)(hn:ZA f=false):Nz (nzI f)∧ky (nzI f)=ky f:=by
 unfold nzI zI;cases hz:Nat.beq (bK f.toNat) 0 with
 | true=>
  rw[zd];have h0:=zj hz;refine⟨⟨⟨by decide,by decide⟩,by decide,by decide⟩,?_⟩
  have:=qdF f
  have e:ky 0=0:=by decide
  rw[e];omega
 | false=>
  rw[zh];refine⟨⟨h,hn,fun e=>?_⟩,rfl⟩
  subst e;revert hz;decide
def qvG(s:Spn):Prop:=s=qqc∨(s.1=false∧Nz s.2.1∧Nz s.2.2∧ky s.2.1≤ky s.2.2∧s.2.1≠9218868437227405312∧s.2.2≠18442240474082181120)
def SpW(s:Spn):Prop:=Fw s.2.1∧Fw s.2.2
theorem qqk{f:Int}(h:Nz f):nzI f=f:=by
 obtain⟨h1,h2⟩:=qh4 h.w h.n;exact qEK h1.w h.w h1.z h.z h2
theorem qql{f:Int}(h:Fw f)(hn:ZA f=false)(c:Int)(hc:c=9218868437227405312∨c=18442240474082181120)(hf:f≠c):nzI f≠c:=by
 unfold nzI;cases zI f with
 | true=>rw[zd];omega
 | false=>rw[zh];exact hf
theorem qez{s:Spn}(hw:SpW s):qK s=qqc∨(s.1=false∧ZA s.2.1=false∧ZA s.2.2=false∧ky s.2.1≤ky s.2.2∧s.2.1≠9218868437227405312∧s.2.2≠18442240474082181120∧qK s=(false,nzI s.2.1,nzI s.2.2)):=by
 unfold qK;cases h:(s.1||(!leF s.2.1 s.2.2||(decide (s.2.1=9218868437227405312)||decide (s.2.2=18442240474082181120))))with
 | true=>exact .inl rfl
 | false=>
  simp only[VQ,Xi,WG]at h;obtain⟨h0,h1,h2,h3⟩:=h;obtain⟨a,b,c⟩:=qbk.1 h1;exact .inr ⟨h0,a,b,c,h2,h3,by rw[h0];rfl⟩
theorem qc1{s:Spn}(hw:SpW s):qvG (qK s):=by
 rcases qez hw with h | ⟨_,h1,h2,h3,h4,h5,h⟩
 · rw[h];exact .inl rfl
 · rw[h]
   obtain⟨a1,a2⟩:=qh4 hw.1 h1;obtain⟨b1,b2⟩:=qh4 hw.2 h2;exact .inr ⟨rfl,a1,b1,by simp only[];rw[a2,b2];exact h3,qql hw.1 h1 _ (.inl rfl) h4,qql hw.2 h2 _ (.inr rfl) h5⟩
theorem qvG.w{s:Spn}(h:qvG s):SpW s:=by
 rcases h with h | ⟨_,h1,h2,_⟩
 · rw[h];exact⟨⟨by decide,by decide⟩,⟨by decide,by decide⟩⟩
 · exact⟨h1.w,h2.w⟩
theorem qmB{s:Spn}(h:qvG s):qK s=s:=by
 obtain⟨e,lo,hi⟩:=s;rcases h with h | ⟨h0,h1,h2,h3,h4,h5⟩
 · rw[h];rfl
 · simp only[]at h0 h1 h2 h3 h4 h5
   subst h0;unfold qK;simp only[];rw[qbk.2 ⟨h1.n,h2.n,h3⟩,zk h4,zk h5,qqk h1,qqk h2];rfl
theorem qoq{s:Spn}(h:qvG s)(h':s.1=false):Nz s.2.1∧Nz s.2.2∧ky s.2.1≤ky s.2.2∧s.2.1≠9218868437227405312∧s.2.2≠18442240474082181120:=by
 rcases h with h | h
 · rw[h]at h';cases h'
 · exact h.2
theorem qj6:ky 9218868437227405312=9218868437227405312:=by decide
theorem qmC:ky 18442240474082181120 = -9218868437227405312:=by decide
end Su
end
