/-
  What functions of the program compute, in plain Lean, and that the evaluator finds it.
-/
import Derived.Test.YtfckjjffdfkelaaGreatSuSd
import Derived.Test.YtfckjjffdfkelaaGreatRcv
set_option linter.unusedVariables false
set_option linter.unusedSimpArgs false
set_option maxRecDepth 10000
section
namespace Su
open Go Fly
noncomputable section
abbrev qL:=((List Tm)×(List Tm)×Nat×(List T)×Unit)
def jh :=
 fun(p5024:qL) x5025=>
 (bif((true&&(Nat.beq p5024.2.2.1 p5024.2.2.2.1.length))&&(Nat.ble (p5024.2.2.2.1.length+(List.length [(T.agg [(T.s (.int .i64 (Tm.id x5025))),(T.s (.int .u64 0))])])) 549755813888))then
 some (.inl ((List.take (Int.toNat ((List.length p5024.1:Int)-1)) (List.drop 1 p5024.1)),(List.take (Int.toNat ((List.length p5024.2.1:Int)-1)) (List.drop 1 p5024.2.1)),(List.length (p5024.2.2.2.1++[(T.agg [(T.s (.int .i64 (Tm.id x5025))),(T.s (.int .u64 0))])])),(p5024.2.2.2.1++[(T.agg [(T.s (.int .i64 (Tm.id x5025))),(T.s (.int .u64 0))])]),()))
 else
  none:Option (qL ⊕ qL))
def jt :=
 fun(p5026:qL) x5027=>
 (bif(true&&((true&&(decide (1≤(List.length p5026.2.1:Int))))&&(decide ((List.length p5026.2.1:Int)≤(List.length p5026.2.1:Int)))))then
 (bif((true&&(Nat.beq p5026.2.2.1 p5026.2.2.2.1.length))&&(Nat.ble (p5026.2.2.2.1.length+(List.length [(T.agg [(T.s (.int .i64 (Tm.id x5027))),(T.s (.int .u64 0))])])) 549755813888))then
 some (.inl (p5026.1,(List.take (Int.toNat ((List.length p5026.2.1:Int)-1)) (List.drop 1 p5026.2.1)),(List.length (p5026.2.2.2.1++[(T.agg [(T.s (.int .i64 (Tm.id x5027))),(T.s (.int .u64 0))])])),(p5026.2.2.2.1++[(T.agg [(T.s (.int .i64 (Tm.id x5027))),(T.s (.int .u64 0))])]),()))
 else none)
 else
  none:Option (qL ⊕ qL))
def ju :=
 fun(p5028:qL) x5029 x5030=>
 (bif((true&&(Nat.beq p5028.2.2.1 p5028.2.2.2.1.length))&&(Nat.ble (p5028.2.2.2.1.length+(List.length [(T.agg [(T.s (.int .i64 (Tm.id x5029))),(T.s (.int .u64 (Tm.c x5030)))])])) 549755813888))then
 some (.inl ((List.take (Int.toNat ((List.length p5028.1:Int)-1)) (List.drop 1 p5028.1)),(List.take (Int.toNat ((List.length p5028.2.1:Int)-1)) (List.drop 1 p5028.2.1)),(List.length (p5028.2.2.2.1++[(T.agg [(T.s (.int .i64 (Tm.id x5029))),(T.s (.int .u64 (Tm.c x5030)))])])),(p5028.2.2.2.1++[(T.agg [(T.s (.int .i64 (Tm.id x5029))),(T.s (.int .u64 (Tm.c x5030)))])]),()))
 else
  none:Option (qL ⊕ qL))
def jv :=
 fun(p5020:qL)=>
 bif(decide ((List.length p5020.1:Int)=0))then
 (idx p5020.2.1 0).bind fun x8=>
 (idx p5020.2.1 0).bind fun x9=>
 (jt p5020 x8)
 else
  (idx p5020.2.1 0).bind fun x10=>
  (idx p5020.1 0).bind fun x11=>
  (bif(decide ((Tm.id x10)<(Tm.id x11)))then
  (idx p5020.2.1 0).bind fun x12=>
  (idx p5020.2.1 0).bind fun x13=>
  (jt p5020 x12)
 else
  (idx p5020.1 0).bind fun x14=>
  (idx p5020.1 0).bind fun x15=>
  (idx p5020.2.1 0).bind fun x16=>
  (bif(true&&((true&&(decide (1≤(List.length p5020.1:Int))))&&(decide ((List.length p5020.1:Int)≤(List.length p5020.1:Int)))))then
  (bif(true&&((true&&(decide (1≤(List.length p5020.2.1:Int))))&&(decide ((List.length p5020.2.1:Int)≤(List.length p5020.2.1:Int)))))then
  (bif(decide ((Tm.c x15)=0))then
  (jh p5020 x14)
 else
  (bif(decide ((Tm.c x16)=0))then
  (jh p5020 x14)
 else
  (bif(!(decide ((Int.fdiv (Tm.c x15) (2^63))=(Int.fdiv (Tm.c x16) (2^63)))))then
  (jh p5020 x14)
 else
  (bif(QX (Int.toNat (((yE (Int.toNat (Tm.c x16))):Nat):Int)) (Int.toNat (((yE (Int.toNat (Tm.c x15))):Nat):Int)))then
  (ju p5020 x14 x16)
 else
  (ju p5020 x14 x15)))))
 else none)
 else none))
def jw :=
 fun(p5031:qL) x5032=>
 (bif((true&&(Nat.beq p5031.2.2.1 p5031.2.2.2.1.length))&&(Nat.ble (p5031.2.2.2.1.length+(List.length [(T.agg [(T.s (.int .i64 (Tm.id x5032))),(T.s (.int .u64 0))])])) 549755813888))then
 some (.inl ((List.take (Int.toNat ((List.length p5031.1:Int)-1)) (List.drop 1 p5031.1)),p5031.2.1,(List.length (p5031.2.2.2.1++[(T.agg [(T.s (.int .i64 (Tm.id x5032))),(T.s (.int .u64 0))])])),(p5031.2.2.2.1++[(T.agg [(T.s (.int .i64 (Tm.id x5032))),(T.s (.int .u64 0))])]),()))
 else
  none:Option (qL ⊕ qL))
def jx :=
 fun(p5021:qL) x5022 x5023=>
 bif(true&&((true&&(decide (1≤(List.length p5021.1:Int))))&&(decide ((List.length p5021.1:Int)≤(List.length p5021.1:Int)))))then
 (bif(decide ((Tm.c x5022)=0))then
 (jw p5021 x5023)
 else
  (jw p5021 x5023))
 else
  none
def jy :=
 fun(p5033:qL)=>
 bif(decide ((List.length p5033.2.1:Int)=0))then
 (idx p5033.1 0).bind fun x2=>
 (idx p5033.1 0).bind fun x3=>
 (jx p5033 x3 x2)
 else
  (bif(decide (0<(List.length p5033.1:Int)))then
  (idx p5033.1 0).bind fun x4=>
  (idx p5033.2.1 0).bind fun x5=>
  (bif(decide ((Tm.id x4)<(Tm.id x5)))then
  (idx p5033.1 0).bind fun x6=>
  (idx p5033.1 0).bind fun x7=>
  (jx p5033 x7 x6)
 else
  (jv p5033))
 else
  (jv p5033))
def jC:qL→Option (qL ⊕ qL):=fun p1=>(bif(decide (0<(List.length p1.1:Int)))then
 (jy p1)
 else
  (bif(decide (0<(List.length p1.2.1:Int)))then
  (jy p1)
 else
  some (.inr (p1.1,p1.2.1,p1.2.2.1,p1.2.2.2.1,()))))
def qAh  (fu:Nat)(a:Fm)(b:Fm):Option Fm :=
 (bif(List.any [a,b] (fun z0=>(z0.1||(!(yz z0)))))then
 some (true,(0:Int),[],(0:Int))
 else
  (itP fu (jC) (a.2.2.1,b.2.2.1,0,[],())).bind fun x50=>
  (Su.sub x50.2.2.2.1 0 x50.2.2.1).bind fun x51=>
  ((((((qu x51).bind fun x52=>
  some (x52,(0:Int))).bind fun x53=>
  some ((qeC a.2.1 b.2.1),x53)).bind fun x54=>
  some (false,x54)).bind fun x55=>
  some (a,x55)).bind fun x56=>
  (bif(Nat.ble (x56.1.2.2.1.length+x56.2.2.2.1.length) 549755813888)then
  some (qgz x56.1 x56.2.2.2.1 x56.2.2.1)
 else none)).bind fun x57=>
  (Su.sub x50.2.2.2.1 0 x50.2.2.1).bind fun x58=>
  ((((((qu x58).bind fun x59=>
  some (x59,(0:Int))).bind fun x60=>
  some ((qeC a.2.1 b.2.1),x60)).bind fun x61=>
  some (false,x61)).bind fun x62=>
  some (b,x62)).bind fun x63=>
  (bif(Nat.ble (x63.1.2.2.1.length+x63.2.2.2.1.length) 549755813888)then
  some (qgz x63.1 x63.2.2.2.1 x63.2.2.1)
 else none)).bind fun x64=>
  (bif(true&&(Nat.beq x50.2.2.1 x50.2.2.2.1.length))then
  (((((qu x50.2.2.2.1).bind fun x65=>
  some (x65,(qlV x57.toNat x64.toNat:Int))).bind fun x66=>
  some ((qeC a.2.1 b.2.1),x66)).bind fun x67=>
  some (false,x67)).bind fun x68=>
  some (jR x68)).bind fun x69=>
  some x69
 else none))
def joC(x y:Int):Int:=bif decide (x=0)then 0 else bif decide (y=0)then 0 else bif !decide (Int.fdiv x (2^63)=Int.fdiv y (2^63))then 0 else bif QX (Int.toNat ((yE y.toNat:Nat):Int)) (Int.toNat ((yE x.toNat:Nat):Int))then y else x
theorem qv0(x:Int):joC x 0=0:=by unfold joC;cases decide (x=0) <;> rfl
theorem qmL:Pick joC:=by
 refine⟨qv0,fun y=>rfl,fun x y=>?_⟩
 unfold joC;cases decide (x=0)with
 | true=>exact .inl rfl
 | false=>
  cases decide (y=0)with
  | true=>exact .inl rfl
  | false=>
   cases decide (Int.fdiv x (2^63)=Int.fdiv y (2^63))with
   | false=>exact .inl rfl
   | true=>
    cases QX (Int.toNat ((yE y.toNat:Nat):Int)) (Int.toNat ((yE x.toNat:Nat):Int))with
    | true=>exact .inr (.inr rfl)
    | false=>exact .inr (.inl rfl)
abbrev JoS:=(List Tm)×((List Tm)×Nat×(List T)×Unit)
def joMk(l m:List Tm)(_:Int)(A:List Tm):JoS:=(l,m,A.length,A.map vT,())
theorem qEX(l m:List Tm)(h:l.length+m.length≤549755813888):∃fu,itP fu jC (l,m,0,[],())=some ([],[],(qh (jnD joC) (l.length+m.length) l m 0).1.length,(qh (jnD joC) (l.length+m.length) l m 0).1.map vT,()):=by
 have hb:∀A:List Tm,A.length+1≤549755813888→Nat.ble (A.length+1) 549755813888=true:=fun A h=>zn h
 refine qCJ (mk:=joMk) (B:=549755813888) ?_ ?_ ?_ ?_ ?_ ?_ (l.length+m.length) l m 0 [] (zE _) (by simpa using h)
 · intro e A
   show jC ([],[],A.length,A.map vT,())=_
   simp only[jC,jy,jx,jw,jv,ju,jt,jh,zB,hp0,zh];rfl
 · intro x l e A hA
   have hb:=hb A hA;show jC (x::l,[],A.length,A.map vT,())=some (.inl (l,[],(A++[(⟨x.id,joC x.c 0⟩:Tm)]).length,(A++[(⟨x.id,joC x.c 0⟩:Tm)]).map vT,()))
   rw[qv0];cases hx:decide (x.c=0) <;> simp only[jC,jy,jx,jw,jv,ju,jt,jh,zq,zB,yQ,hz0,hnz,hp0,JS,hle,QT,yD,hx,hb,zr,qx,zN,zG,zd,zh,zi,JT,JU]
 · intro y m e A hA
   have hb:=hb A hA;show jC ([],y::m,A.length,A.map vT,())=some (.inl ([],m,(A++[(⟨y.id,0⟩:Tm)]).length,(A++[(⟨y.id,0⟩:Tm)]).map vT,()))
   simp only[jC,jy,jx,jw,jv,ju,jt,jh,zq,zB,yQ,hz0,hnz,hp0,JS,hle,QT,yD,hb,zr,qx,zN,zG,zd,zh,zi,JT,JU]
 · intro x l y m e A hA h1
   have hb:=hb A hA;show jC (x::l,y::m,A.length,A.map vT,())=some (.inl (l,y::m,(A++[(⟨x.id,joC x.c 0⟩:Tm)]).length,(A++[(⟨x.id,joC x.c 0⟩:Tm)]).map vT,()))
   rw[qv0];cases hx:decide (x.c=0) <;> simp only[jC,jy,jx,jw,jv,ju,jt,jh,zq,zB,yQ,hz0,hnz,hp0,JS,hle,QT,yD,h1,hx,hb,zr,qx,zN,zG,zd,zh,zi,JT,JU]
 · intro x l y m e A hA h1 h2
   have hb:=hb A hA;show jC (x::l,y::m,A.length,A.map vT,())=some (.inl (x::l,m,(A++[(⟨y.id,0⟩:Tm)]).length,(A++[(⟨y.id,0⟩:Tm)]).map vT,()))
   simp only[jC,jy,jx,jw,jv,ju,jt,jh,zq,zB,yQ,hz0,hnz,hp0,JS,hle,QT,yD,h1,h2,hb,zr,qx,zN,zG,zd,zh,zi,JT,JU]
 · intro x l y m e A hA h1 h2
   have hb:=hb A hA;show jC (x::l,y::m,A.length,A.map vT,())=some (.inl (l,m,(A++[(⟨x.id,joC x.c y.c⟩:Tm)]).length,(A++[(⟨x.id,joC x.c y.c⟩:Tm)]).map vT,()))
   have fin:∀c:Int,joC x.c y.c=c→jC (x::l,y::m,A.length,A.map vT,())=some (.inl (l,m,(A++[(⟨x.id,c⟩:Tm)]).length,(A++[(⟨x.id,c⟩:Tm)]).map vT,())):=by
    intro c hc;unfold joC at hc;cases hx:decide (x.c=0)with
    | true=>
     rw[hx]at hc;subst hc;simp only[jC,jy,jx,jw,jv,ju,jt,jh,zq,zB,yQ,hz0,hnz,hp0,JS,hle,QT,yD,h1,h2,hx,hb,zr,qx,zN,zG,zd,zh,zi,JT,JU]
    | false=>
     cases hy:decide (y.c=0)with
     | true=>
      rw[hx,hy]at hc;subst hc;simp only[jC,jy,jx,jw,jv,ju,jt,jh,zq,zB,yQ,hz0,hnz,hp0,JS,hle,QT,yD,h1,h2,hx,hy,hb,zr,qx,zN,zG,zd,zh,zi,JT,JU]
     | false=>
      cases hs:decide (Int.fdiv x.c (2^63)=Int.fdiv y.c (2^63))with
      | false=>
       rw[hx,hy,hs]at hc;subst hc;simp only[jC,jy,jx,jw,jv,ju,jt,jh,zq,zB,yQ,hz0,hnz,hp0,JS,hle,QT,yD,h1,h2,hx,hy,hs,hb,zr,qx,zN,zG,Kl,zd,zh,zi,JT,JU]
      | true=>
       rw[hx,hy,hs]at hc;simp only[Kh,zh]at hc;cases hl:QX (Int.toNat ((yE (Int.toNat y.c):Nat):Int)) (Int.toNat ((yE (Int.toNat x.c):Nat):Int))with
       | true=>
        rw[hl]at hc;subst hc;simp only[jC,jy,jx,jw,jv,ju,jt,jh,zq,zB,yQ,hz0,hnz,hp0,JS,hle,QT,yD,h1,h2,hx,hy,hs,hl,hb,zr,qx,zN,zG,Kh,zd,zh,zi,JT,JU]
       | false=>
        rw[hl]at hc;subst hc;simp only[jC,jy,jx,jw,jv,ju,jt,jh,zq,zB,yQ,hz0,hnz,hp0,JS,hle,QT,yD,h1,h2,hx,hy,hs,hl,hb,zr,qx,zN,zG,Kh,zd,zh,zi,JT,JU]
   exact fin _ rfl
theorem qv1(f:Int→Int→Int→Int×Int):∀(n:Nat) (l m:List Tm) (e:Int),(qh f n l m e).1.length≤n:=by
 intro n;induction n with
 | zero=>intro l m e;exact Va _
 | succ n ih=>
  have one:∀(id:Int) (r:Int×Int) (l' m':List Tm),(jM id r (qh f n l' m')).1.length≤n+1:=fun id r l' m'=>by
   show(qh f n l' m' r.2).1.length+1≤n+1
   have:=ih l' m' r.2;omega
  intro l m e
  match l,m with
  | [],[]=>exact Va _
  | a::l,[]=>exact one _ _ _ _
  | [],b::m=>exact one _ _ _ _
  | a::l,b::m=>
   simp only[qh];cases decide (a.id<b.id)with
   | true=>exact one _ _ _ _
   | false=>
    cases decide (b.id<a.id)with
    | true=>exact one _ _ _ _
    | false=>exact one _ _ _ _
theorem subA(L:List Tm):Su.sub (L.map vT) 0 L.length=some (L.map vT):=by
 rw[subT _ _ (zE _),List.take_length]
def qdH(p:Fm×Fm):Option Fm:=bif Nat.ble (p.1.2.2.1.length+p.2.2.2.1.length) 1000000 then some (QP joC p.1 p.2)else none
theorem qAi(p:Fm×Fm)(y:Fm)(hg:(dc qB (d1 qB)).good p)(h:qdH p=some y):∃n,qAh n p.1 p.2=some y:=by
 obtain⟨a,b⟩:=p;obtain⟨h1,h2⟩:=qi h;have:=soi h2;subst this
 have hl:a.2.2.1.length+b.2.2.1.length≤1000000:=zo h1
 obtain⟨n,hn⟩:=qEX a.2.2.1 b.2.2.1 (by omega)
 refine⟨n,?_⟩
 show qAh n a b=some (QP joC a b)
 have ha:(List.any [a,b] fun z0=>(z0.1||(!(yz z0)))) = !(okF a&&okF b):=by
  unfold okF;show((a.1||!yz a)||((b.1||!yz b)||false))=_
  cases(a.1||!yz a) <;> cases(b.1||!yz b) <;> rfl
 unfold qAh QP;cases ho:okF a&&okF b with
 | false=>exact qH (ha.trans (by rw[ho];rfl))
 | true=>
  refine(Qa (ha.trans (by rw[ho];rfl))).trans (obs hn ?_)
  have hR:(ZD joC a b).length≤1000000:=zU (qv1 _ _ _ _ _) hl
  have e:(qh (jnD joC) (a.2.2.1.length+b.2.2.1.length) a.2.2.1 b.2.2.1 0).1=ZD joC a b:=rfl
  rw[e];refine obs (subA _) (obs (t:=qgz a (ZD joC a b) (qeC a.2.1 b.2.1)) (obs (obs (obs (obs (obs (qA _) rfl) rfl) rfl) rfl) (qH (zn (by show a.2.2.1.length+(ZD joC a b).length≤_;omega)))) ?_)
  refine obs (subA _) (obs (t:=qgz b (ZD joC a b) (qeC a.2.1 b.2.1)) (obs (obs (obs (obs (obs (qA _) rfl) rfl) rfl) rfl) (qH (zn (by show b.2.2.1.length+(ZD joC a b).length≤_;omega)))) ?_)
  refine(qH (by rw[zr];simp)).trans ?_
  exact obs (obs (obs (obs (obs (qA _) rfl) rfl) rfl) rfl) rfl
end
end Su
end
section
namespace Su
section
variable {α:Type}
def Srt(key:α→Int)(l:List α):Prop:=l.Pairwise fun x y=>key x≤key y
def Stb(key:α→Int)(l l':List α):Prop:=∀v:Int,l'.filter (fun x=>decide (key x=v))=l.filter fun x=>decide (key x=v)
variable {key:α→Int}
theorem Stb.refl(l:List α):Stb key l l:=fun _=>rfl
theorem Stb.trans{l m n:List α}(h:Stb key l m)(h':Stb key m n):Stb key l n:=fun v=>(h' v).trans (h v)
theorem Stb.symm{l m:List α}(h:Stb key l m):Stb key m l:=fun v=>(h v).symm
theorem Stb.app{l l' m m':List α}(h:Stb key l l')(h':Stb key m m'):Stb key (l++m) (l'++m'):=fun v=>by
 rw[Ws,Ws,h v,h' v]
theorem Stb.mem{l l':List α}(h:Stb key l l'){x:α}:x∈l'↔x∈l:=by
 have hx:=h (key x)
 have a:∀m:List α,x∈m↔x∈m.filter fun y=>decide (key y=key x):=fun m=>by simp[Wi]
 rw[a l',a l,hx]
theorem Stb.swap{A B:List α}(h:∀x∈A,∀y∈B,key y≠key x):Stb key (A++B) (B++A):=fun v=>by
 rw[Ws,Ws];by_cases ha:A.filter (fun x=>decide (key x=v))=[]
 · rw[ha,zO,zX]
 · obtain⟨x,hx⟩:=List.exists_mem_of_ne_nil _ ha
   rw[Wi]at hx;have hv:key x=v:=KC hx.2
   have hb:B.filter (fun x=>decide (key x=v))=[]:=XU.2 fun y hy hd=>h x hx.1 y hy ((KC hd).trans hv.symm)
   rw[hb,zO,zX]
theorem Stb.perm[DecidableEq α]{l l':List α}(h:Stb key l l'):l'.Perm l:=by
 rw[List.perm_iff_count];intro a;have hp:decide (key a=key a)=true:=zf rfl
 have c:∀m:List α,m.count a=(m.filter fun y=>decide (key y=key a)).count a:=fun m=>(List.count_filter (p:=fun y=>decide (key y=key a)) hp).symm
 rw[c l',c l,h (key a)]
theorem Stb.len{l l':List α}(h:Stb key l l'):l'.length=l.length:=by
 have:DecidableEq α:=Classical.typeDecidableEq α
 exact h.perm.length_eq
theorem Srt.nil:Srt key ([]:List α):=List.Pairwise.nil
theorem Srt.one(x:α):Srt key [x]:=List.pairwise_singleton _ _
theorem Srt.app{l m:List α}(h:Srt key l)(h':Srt key m)(hh:∀x∈l,∀y∈m,key x≤key y):Srt key (l++m):=W4.2 ⟨h,h',hh⟩
theorem Srt.left{l m:List α}(h:Srt key (l++m)):Srt key l:=(W4.1 h).1
theorem Srt.right{l m:List α}(h:Srt key (l++m)):Srt key m:=(W4.1 h).2.1
theorem Srt.both{l m:List α}(h:Srt key (l++m)):∀x∈l,∀y∈m,key x≤key y:=(W4.1 h).2.2
theorem Stb.cut{x:α}{r r':List α}(h:Stb key (x::r) (x::r')):Stb key r r':=fun v=>by
 have:=h v
 rw[VT,VT]at this;cases hd:decide (key x=v)with
 | true=>rw[hd]at this;simpa using this
 | false=>rw[hd]at this;simpa using this
theorem qqv:∀ {l l':List α},Srt key l→Srt key l'→Stb key l l'→l'=l
 | [],l',_,_,h=>by
  have:=h.len
  exact Ka.1 (by simpa using this)
 | x::r,l',hl,hl',h=>by
  match l',hl',h with
  | [],_,h=>have:=h.len;simp at this
  | y::r',hl',h=>
   have hx:x∈y::r':=h.mem.2 (zu ..)
   have hy:y∈x::r:=h.mem.1 (zu ..)
   have k1:key x≤key y:=by
    rcases zJ.1 hy with e | e
    · rw[e];exact Vy _
    · exact(Vk.1 hl).1 y e
   have k2:key y≤key x:=by
    rcases zJ.1 hx with e | e
    · rw[e];exact Vy _
    · exact(Vk.1 hl').1 x e
   have hk:key y=key x:=by omega
   have:=h (key x)
   rw[VT,VT,zf hk,zf rfl]at this;simp only[qHL]at this;have e:y=x:=(List.cons.inj this).1
   subst e;rw[qqv (Vk.1 hl).2 (Vk.1 hl').2 h.cut]
theorem qdI{A1 A2 B1 B2 C1 C2:List α}(hA:Srt key (A1++A2))(hB:Srt key (B1++B2))(h1:∀y∈B1,∀x∈A2,key y<key x)(h2:∀x∈A1,∀y∈B2,key x≤key y)
 (s1:Srt key C1) (t1:Stb key (A1++B1) C1) (s2:Srt key C2) (t2:Stb key (A2++B2) C2):Srt key (C1++C2)∧Stb key (A1++A2++(B1++B2)) (C1++C2):=by
 constructor
 · refine s1.app s2 fun x hx y hy=>?_
   rcases zM.1 (t1.mem.1 hx)with a | b
   · rcases zM.1 (t2.mem.1 hy)with c | d
     · exact hA.both x a y c
     · exact h2 x a y d
   · rcases zM.1 (t2.mem.1 hy)with c | d
     · exact XY (h1 x b y c)
     · exact hB.both x b y d
 · have hm:Stb key (A2++B1) (B1++A2):=Stb.swap fun x hx y hy=>by have:=h1 y hy x hx;omega
   have e1:A1++A2++(B1++B2)=A1++((A2++B1)++B2):=by simp
   have e2:A1++((B1++A2)++B2)=(A1++B1)++(A2++B2):=by simp
   rw[e1];refine((Stb.refl A1).app (hm.app (Stb.refl B2))).trans ?_
   rw[e2];exact t1.app t2
end
end Su
end
section
namespace Su
open Go Fly
noncomputable section
def ja{S R:Type}(K:Nat)(F:S→Option (S ⊕ R))(s:S)(r:R):Prop:=∀m,K≤m→itP m F s=some r
theorem ja.next{S R:Type}{K:Nat}{F:S→Option (S ⊕ R)}{s s':S}{r:R}(h:F s=some (.inl s'))(hn:ja K F s' r):ja (K+1) F s r:=fun m hm=>by
 obtain⟨j,rfl⟩:∃j,m=j+1:=⟨m-1,by omega⟩
 rw[qC,h];exact hn j (by omega)
theorem ja.stop{S R:Type}{K:Nat}{F:S→Option (S ⊕ R)}{s:S}{r:R}(h:F s=some (.inr r)):ja (K+1) F s r:=fun m hm=>by
 obtain⟨j,rfl⟩:∃j,m=j+1:=⟨m-1,by omega⟩
 rw[qC,h];rfl
theorem ja.up{S R:Type}{K K':Nat}{F:S→Option (S ⊕ R)}{s:S}{r:R}(h:ja K F s r)(hk:K≤K'):ja K' F s r:=fun m hm=>h m (by omega)
def qr5(n:Nat)(f:Nat→Bool):Bool:=(List.range n).all f
theorem qmM{n:Nat}{f:Nat→Bool}:qr5 n f=true↔∀i,i<n→f i=true:=by
 unfold qr5;simp[KH,qHF]
theorem qv2{n:Nat}{f:Nat→Bool}:qr5 n f=false↔∃i,i<n∧f i=false:=by
 rw[← Bool.not_eq_true,qmM];constructor
 · intro h
   by_cases hn:∃i,i<n∧f i=false
   · exact hn
   · exact absurd (fun i hi=>by cases hf:f i with | true=>rfl | false=>exact absurd ⟨i,hi,hf⟩ hn) h
 · rintro⟨i,hi,hf⟩ h
   rw[h i hi]at hf;cases hf
theorem qh8{S R:Type}{F:S→Option (S ⊕ R)}{mk:Nat→S}{n:Nat}{ok:Nat→Bool}{r0 r1:R}
 (h1:∀i,i<n→ok i=true→F (mk i)=some (.inl (mk (i+1)))) (h2:∀i,i<n→ok i=false→F (mk i)=some (.inr r1)) (h0:F (mk n)=some (.inr r0)) :
 ∀(j i:Nat),i+j=n→ja (j+1) F (mk i) (bif(List.range' i j).all ok then r0 else r1)
 | 0,i,h=>by
  have:i=n:=by omega
  subst this;exact ja.stop h0
 | j+1,i,h=>by
  rw[List.range'_succ,WD];cases hk:ok i with
  | true=>exact ja.next (h1 i (by omega) hk) (by simpa using qh8 h1 h2 h0 j (i+1) (by omega))
  | false=>exact ja.stop (h2 i (by omega) hk)
theorem qv3{S R:Type}{F:S→Option (S ⊕ R)}{mk:Nat→S}{n:Nat}{ok:Nat→Bool}{r0 r1:R}
 (h1:∀i,i<n→ok i=true→F (mk i)=some (.inl (mk (i+1)))) (h2:∀i,i<n→ok i=false→F (mk i)=some (.inr r1)) (h0:F (mk n)=some (.inr r0)) :
 ja (n+1) F (mk 0) (bif qr5 n ok then r0 else r1):=by
 have:=qh8 h1 h2 h0 n 0 (by omega)
 rwa [← List.range_eq_range']at this
theorem ixl{α:Type}{l:List α}{i:Nat}(h:i<l.length):idx l (i:Int)=some l[i]:=by
 rw[jB,zD h]
theorem w1{i n:Nat}(h:i<n)(hn:n≤maxLen):IntKind.i64.wrap ((i:Int)+1)=((i+1:Nat):Int):=by
 rw[jb]at hn;rw[w64 (by omega) (by omega)];rfl
theorem ltN(i n:Nat):decide ((i:Int)<(n:Int))=decide (i<n):=by
 by_cases h:i<n
 · rw[zf h,zf (by omega)]
 · rw[zk h,zk (by omega)]
end
end Su
end
section
namespace Su
open Go Fly
noncomputable section
structure Mix (N:Nat) (L L':List Tm):Prop where
 len:L'.length=L.length
 mix:(L'.take N).Perm (L.take N)
theorem Mix.refl(N:Nat)(L:List Tm):Mix N L L:=⟨rfl,Kz _⟩
theorem Mix.trans{N:Nat}{L M K:List Tm}(h:Mix N L M)(h':Mix N M K):Mix N L K:=⟨h'.len.trans h.len,h'.mix.trans h.mix⟩
theorem qfh:∀ {l:List Tm} {lo:Int},ye lo l=true→∀t∈l,lo<t.id
 | [],_,_,t,ht=>by cases ht
 | a::l,lo,h,t,ht=>by
  unfold ye at h;simp only[zm,KR,zF]at h;rcases zJ.1 ht with rfl | ht
  · omega
  · have:=qfh h.2.2.2 t ht
    omega
theorem qgB:∀ {l:List Tm} {lo:Int},ye lo l=true→l.Nodup
 | [],_,_=>Wq
 | a::l,lo,h=>by
  unfold ye at h;simp only[zm,KR,zF]at h;exact Vc.2 ⟨fun hm=>by have:=qfh h.2.2.2 a hm;omega,qgB h.2.2.2⟩
theorem qkf{a:Fm}(h:okF a=true):ye (-1) a.2.2.1=true:=by
 unfold okF at h;simp only[KR,VQ,Xi]at h;obtain⟨h1,h2⟩:=h;rw[qe9,h1,zh]at h2;simp only[zm]at h2;exact h2.1
def inK(l:List Tm)(t:Tm):Bool:=l.any fun u=>decide (t.id=u.id)&&decide (t.c=u.c)
theorem qkg{l:List Tm}{t:Tm}:inK l t=true↔t∈l:=by
 unfold inK;rw[List.any_eq_true];constructor
 · rintro⟨u,hu,h⟩
   simp only[zm,zF]at h;obtain⟨i,c⟩:=t;obtain⟨i',c'⟩:=u;obtain⟨h1,h2⟩:=h;have h1:i=i':=h1
   have h2:c=c':=h2
   subst h1 h2;exact hu
 · intro h;exact⟨t,h,by simp⟩
theorem kept{A l r:List Tm}(hn:A.Nodup)(hp:(l++r).Perm A):l.Perm (A.filter (inK l)):=by
 have hd:(l++r).Nodup:=hp.nodup_iff.2 hn
 have h1:=hp.filter (inK l)
 rw[Ws]at h1;have h2:l.filter (inK l)=l:=List.filter_eq_self.2 fun t ht=>qkg.2 ht
 have h3:r.filter (inK l)=[]:=XU.2 fun t ht h=>(V7.1 hd).2.2 t (qkg.1 h) t ht rfl
 rw[h2,h3,zO]at h1;exact h1
end
end Su
end
