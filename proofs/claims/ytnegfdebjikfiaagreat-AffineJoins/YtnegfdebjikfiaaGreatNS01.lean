/-
  What functions of the program compute, in plain Lean, and that the evaluator finds it.
-/
import Derived.Test.YtnegfdebjikfiaaGreatSuXl
import Derived.Test.YtnegfdebjikfiaaGreatNC31
import Derived.Test.YtnegfdebjikfiaaGreatNC19
set_option linter.unusedVariables false
set_option linter.unusedSimpArgs false
set_option maxRecDepth 10000
section
namespace Su
open Go Fly
noncomputable section
def YK:Stp (Nat×Int×Int×Int×Int×(List T)×Unit):=fun p0=>(bif(decide (p0.2.2.2.2.1<p0.2.2.2.1))then
 (bif((true&&(decide (0≤(IntKind.wrap .i64 (p0.2.2.1+p0.2.2.2.2.1)))))&&(decide ((IntKind.wrap .i64 (p0.2.2.1+p0.2.2.2.2.1))<(p0.1:Int))))then
 ((p0.2.2.2.2.2.1)[(0+(Int.toNat (IntKind.wrap .i64 (p0.2.2.1+p0.2.2.2.2.1))))]?).bind fun x1=>
 ((x1.cells)[0]?).bind fun x2=>
 (asI .i64 (.t x2)).bind fun x3=>
 ((x1.cells)[1]?).bind fun x4=>
 (asI .u64 (.t x4)).bind fun x5=>
 (bif((true&&(decide (0≤(IntKind.wrap .i64 (p0.2.1+p0.2.2.2.2.1)))))&&(decide ((IntKind.wrap .i64 (p0.2.1+p0.2.2.2.2.1))<(p0.1:Int))))then
 ((p0.2.2.2.2.2.1)[(0+(Int.toNat (IntKind.wrap .i64 (p0.2.1+p0.2.2.2.2.1))))]?).bind fun x6=>
 ((x6.cells)[0]?).bind fun x7=>
 (asI .i64 (.t x7)).bind fun x8=>
 ((x6.cells)[1]?).bind fun x9=>
 (asI .u64 (.t x9)).bind fun x10=>
 (bif((true&&(decide (0≤(IntKind.wrap .i64 (p0.2.1+p0.2.2.2.2.1)))))&&(decide ((IntKind.wrap .i64 (p0.2.1+p0.2.2.2.2.1))<(p0.1:Int))))then
 (bif((true&&(decide (0≤(IntKind.wrap .i64 (p0.2.2.1+p0.2.2.2.2.1)))))&&(decide ((IntKind.wrap .i64 (p0.2.2.1+p0.2.2.2.2.1))<(p0.1:Int))))then
 ((p0.2.2.2.2.2.1)[(0+(Int.toNat (IntKind.wrap .i64 (p0.2.1+p0.2.2.2.2.1))))]?).bind fun x11=>
 ((List.set p0.2.2.2.2.2.1 (0+(Int.toNat (IntKind.wrap .i64 (p0.2.1+p0.2.2.2.2.1)))) (T.agg [(T.s (.int .i64 x3)),(T.s (.int .u64 x5))]))[(0+(Int.toNat (IntKind.wrap .i64 (p0.2.2.1+p0.2.2.2.2.1))))]?).bind fun x12=>
 some (.inl (p0.1,p0.2.1,p0.2.2.1,p0.2.2.2.1,(IntKind.wrap .i64 (p0.2.2.2.2.1+1)),(List.set (List.set p0.2.2.2.2.2.1 (0+(Int.toNat (IntKind.wrap .i64 (p0.2.1+p0.2.2.2.2.1)))) (T.agg [(T.s (.int .i64 x3)),(T.s (.int .u64 x5))])) (0+(Int.toNat (IntKind.wrap .i64 (p0.2.2.1+p0.2.2.2.2.1)))) (T.agg [(T.s (.int .i64 x8)),(T.s (.int .u64 x10))])),()))
 else none)
 else none)
 else none)
 else none)
 else
  some (.inr (p0.1,p0.2.1,p0.2.2.1,p0.2.2.2.1,p0.2.2.2.2.1,p0.2.2.2.2.2.1,())))
def qBU  (fu:Nat)(L:(List Tm))(a:Int)(b:Int)(n:Int)(u:Unit):Option (List T) :=
 (itP fu (YK) ((List.length (List.map (vT) L)),a,b,n,(0:Int),(List.map (vT) L),())).bind fun x13=>
 some x13.2.2.2.2.2.1
abbrev SwS:=Nat×(Int×Int×Int×Int×(List T)×Unit)
def qsM(N:Nat)(a b n:Int)(k:Nat)(K:List Tm):SwS:=(N,a,b,n,(k:Int),K.map vT,())
theorem qxO{K:List Tm}{N a b n k:Nat}{x y:Tm}(hN:N≤maxLen)(hl:K.length=N)(hk:k<n)(hb:b+k<N)(ha:a+k<N)(hx:K[a+k]?=some x)(hy:K[b+k]?=some y) :
 YK (qsM N a b n k K)=some (.inl (qsM N a b n (k+1) (swp K (a+k) (b+k) x y))):=by
 rw[jc]at hN;have e1:(a:Int)+(k:Int)=((a+k:Nat):Int):=by omega
 have e2:(b:Int)+(k:Int)=((b+k:Nat):Int):=by omega
 have w1:=rkW (n:=((a+k:Nat):Int)) (by omega) (by omega)
 have w2:=rkW (n:=((b+k:Nat):Int)) (by omega) (by omega)
 have w3:IntKind.i64.wrap ((k:Int)+1)=((k+1:Nat):Int):=by
  rw[show((k:Int)+1)=((k+1:Nat):Int) by omega];exact rkW (by omega) (by omega)
 have d0:decide ((k:Int)<(n:Int))=true:=zd (by omega)
 have d1:decide ((0:Int)≤((a+k:Nat):Int))=true:=zd (by omega)
 have d2:decide ((0:Int)≤((b+k:Nat):Int))=true:=zd (by omega)
 have d3:decide (((a+k:Nat):Int)<(N:Int))=true:=zd (by omega)
 have d4:decide (((b+k:Nat):Int)<(N:Int))=true:=zd (by omega)
 have g1:=rkG hx;have g2:=rkG hy;obtain⟨z,hz⟩:=rkU (K:=K) (i:=a+k) (j:=b+k) (by omega) (T.agg [T.s (.int .i64 y.id),T.s (.int .u64 y.c)])
 show YK (N,(a:Int),(b:Int),(n:Int),(k:Int),K.map vT,())=_
 simp only[YK,e1,e2,w1,w2,w3,d0,d1,d2,d3,d4,g1,g2,hz,qfR,qfS,qfT,qfU,zj,zK,zL,zW,zf,rkS];rfl
theorem qnQ{N a b n:Nat}(hN:N≤maxLen):∀(X Y P M S:List Tm) (k:Nat),X.length=Y.length→P.length=a+k→P.length+X.length+M.length=b+k→k+X.length=n→P.length+X.length+M.length+Y.length+S.length=N →
 jj (X.length+1) YK (qsM N a b n k (P++X++M++Y++S)) (qsM N a b n n (P++Y++M++X++S))
 | [],Y,P,M,S,k,h,hp,hm,hk,hn=>by
  have:Y=[]:=Kj.1 h.symm
  subst this;have hk:k=n:=by simpa using hk
  subst hk;refine jj.stop ?_
  have d0:decide ((k:Int)<(k:Int))=false:=zh (by omega)
  show YK (N,(a:Int),(b:Int),(k:Int),(k:Int),(P++[]++M++[]++S).map vT,())=_
  simp only[YK,d0,zi];rfl
 | x::X,y::Y,P,M,S,k,h,hp,hm,hk,hn=>by
  simp only[zw]at h hm hk hn;have e1:P++x::X++M++y::Y++S=P++x::((X++M)++y::(Y++S)):=by simp
  have hl:(P++x::X++M++y::Y++S).length=N:=by simp;omega
  have hx:(P++x::X++M++y::Y++S)[a+k]?=some x:=by rw[e1,← hp];simp
  have hy:(P++x::X++M++y::Y++S)[b+k]?=some y:=by
   have e2:P++x::X++M++y::Y++S=(P++x::X++M)++y::(Y++S):=by simp
   have e3:b+k=(P++x::X++M).length:=by simp;omega
   rw[e2,e3];simp
  have hs:=qxO (a:=a) (b:=b) (n:=n) (k:=k) hN hl (by omega) (by omega) (by omega) hx hy
  have e4:swp (P++x::X++M++y::Y++S) (a+k) (b+k) x y=(P++[y])++X++(M++[x])++Y++S:=by
   have:=qsL P (X++M) (Y++S) x y
   rw[← e1]at this;rw[show a+k=P.length from hp.symm,show b+k=P.length+1+(X++M).length by simp;omega,this];simp
  rw[e4]at hs;have ih:=qnQ (a:=a) (b:=b) (n:=n) hN X Y (P++[y]) (M++[x]) S (k+1) (by omega) (by simp;omega) (by simp;omega) (by omega) (by simp;omega)
  have e5:(P++[y])++Y++(M++[x])++X++S=P++y::Y++M++x::X++S:=by simp
  rw[e5]at ih;exact jj.next hs ih
def qBV(L:List Tm)(a b n:Nat):List Tm:=L.take a++(L.drop b).take n++(L.drop (a+n)).take (b-(a+n))++(L.drop a).take n++L.drop (b+n)
theorem qnR(P X M Y S:List Tm)(h:X.length=Y.length):qBV (P++X++M++Y++S) P.length (P.length+X.length+M.length) X.length=P++Y++M++X++S:=by
 unfold qBV;have e1:P++X++M++Y++S=P++(X++(M++(Y++S))):=by simp
 rw[e1];have t1:(P++(X++(M++(Y++S)))).take P.length=P:=by simp
 have t2:(P++(X++(M++(Y++S)))).drop (P.length+X.length+M.length)=Y++S:=by
  rw[KD,List.drop_append,KY (by omega),Ka,K7,List.drop_append,KY (by omega),Ka,K7];simp
 have t3:(P++(X++(M++(Y++S)))).drop (P.length+X.length)=M++(Y++S):=by
  rw[List.drop_append,KY (by omega),Ka,K7];simp
 have t4:(P++(X++(M++(Y++S)))).drop P.length=X++(M++(Y++S)):=by simp
 have t5:(P++(X++(M++(Y++S)))).drop (P.length+X.length+M.length+X.length)=S:=by
  rw[← Wm,t2,h];simp
 rw[t1,t2,t3,t4,t5,show P.length+X.length+M.length-(P.length+X.length)=M.length by omega];rw[VM h.symm,VM rfl,VM rfl]
def YL(L:List Tm)(p:Int×Int×Int×Unit):Option (List Tm) :=
 bif decide (0≤p.1)&&(decide (0≤p.2.2.1)&&(decide (p.1+p.2.2.1≤p.2.1)&&decide (p.2.1+p.2.2.1≤(L.length:Int))))then some (qBV L p.1.toNat p.2.1.toNat p.2.2.1.toNat)else none
theorem qxP(L:List Tm)(p:Int×(Int×(Int×Unit)))(L':List Tm)(hl:L.length≤maxLen)(hg:(dc (cI .i64) (dc (cI .i64) (dc (cI .i64) (d1 (cF 79))))).good p)(h:YL L p=some L'):∃n,qBU n L p.1 p.2.1 p.2.2.1 p.2.2.2=some (L'.map vT):=by
 obtain⟨a,b,n,u⟩:=p;obtain⟨h1,h2⟩:=qj h;have:=soi h2;subst this
 simp only[zl,zy]at h1;obtain⟨ha,hn,hab,hbn⟩:=h1;obtain⟨a,rfl⟩:=KC ha;obtain⟨n,rfl⟩:=KC hn;obtain⟨b,rfl⟩:=KC (show 0≤b by omega)
 simp only[zm]
 -- the parts
 obtain⟨P,X0,S0,e0,p1,p2⟩:=qsK (L:=L) (a:=a) (b:=b+n) (by omega) (by omega)
 obtain⟨X,M0,Y,e1,q1,q2⟩:=qsK (L:=X0) (a:=n) (b:=b-a) (by omega) (by omega)
 have q3:Y.length=n:=by
  have:=congrArg List.length e1
  simp at this;omega
 subst e1;have e2:L=P++X++M0++Y++S0:=by rw[e0];simp
 have hr:=qnQ (N:=L.length) (a:=a) (b:=b) (n:=n) hl X Y P M0 S0 0 (by omega) (by omega) (by omega) (by omega) (by rw[e2];simp;omega)
 rw[← e2]at hr;refine⟨X.length+1,?_⟩
 have hs:=qnR P X M0 Y S0 (by omega)
 rw[← e2,p1,show a+X.length+M0.length=b by omega,q1]at hs;rw[hs];unfold qBU;refine obs (t:=qsM L.length a b n n (P++Y++M0++X++S0)) ?_ rfl
 have:=hr (X.length+1) (zE _)
 rw[rkM];exact this
end
end Su
end
section
namespace Su
open Go Fly
noncomputable section
def JF:Stp (Nat×Int×Int×Int×Int×(List T)×Unit):=fun p1=>(bif(decide (p1.2.1<p1.2.2.2.2.1))then
 (bif((true&&(decide (0≤p1.2.2.2.2.1)))&&(decide (p1.2.2.2.2.1<(p1.1:Int))))then
 ((p1.2.2.2.2.2.1)[(0+p1.2.2.2.2.1.toNat)]?).bind fun x2=>
 ((x2.cells)[0]?).bind fun x3=>
 (asI .i64 (.t x3)).bind fun x4=>
 ((x2.cells)[1]?).bind fun x5=>
 (asI .u64 (.t x5)).bind fun x6=>
 (bif((true&&(decide (0≤(IntKind.wrap .i64 (p1.2.2.2.2.1-1)))))&&(decide ((IntKind.wrap .i64 (p1.2.2.2.2.1-1))<(p1.1:Int))))then
 ((p1.2.2.2.2.2.1)[(0+(Int.toNat (IntKind.wrap .i64 (p1.2.2.2.2.1-1))))]?).bind fun x7=>
 ((x7.cells)[0]?).bind fun x8=>
 (asI .i64 (.t x8)).bind fun x9=>
 ((x7.cells)[1]?).bind fun x10=>
 (asI .u64 (.t x10)).bind fun x11=>
 (bif(decide ((jZ (Int.toNat (jT x11.toNat:Int)) (Int.toNat (jT x6.toNat:Int)))<0))then
 (bif((true&&(decide (0≤(IntKind.wrap .i64 (p1.2.2.2.2.1-1)))))&&(decide ((IntKind.wrap .i64 (p1.2.2.2.2.1-1))<(p1.1:Int))))then
 ((p1.2.2.2.2.2.1)[(0+(Int.toNat (IntKind.wrap .i64 (p1.2.2.2.2.1-1))))]?).bind fun x12=>
 ((x12.cells)[0]?).bind fun x13=>
 (asI .i64 (.t x13)).bind fun x14=>
 ((x12.cells)[1]?).bind fun x15=>
 (asI .u64 (.t x15)).bind fun x16=>
 (bif((true&&(decide (0≤p1.2.2.2.2.1)))&&(decide (p1.2.2.2.2.1<(p1.1:Int))))then
 ((p1.2.2.2.2.2.1)[(0+p1.2.2.2.2.1.toNat)]?).bind fun x17=>
 ((x17.cells)[0]?).bind fun x18=>
 (asI .i64 (.t x18)).bind fun x19=>
 ((x17.cells)[1]?).bind fun x20=>
 (asI .u64 (.t x20)).bind fun x21=>
 (bif((true&&(decide (0≤p1.2.2.2.2.1)))&&(decide (p1.2.2.2.2.1<(p1.1:Int))))then
 (bif((true&&(decide (0≤(IntKind.wrap .i64 (p1.2.2.2.2.1-1)))))&&(decide ((IntKind.wrap .i64 (p1.2.2.2.2.1-1))<(p1.1:Int))))then
 ((p1.2.2.2.2.2.1)[(0+p1.2.2.2.2.1.toNat)]?).bind fun x22=>
 ((List.set p1.2.2.2.2.2.1 (0+p1.2.2.2.2.1.toNat) (T.agg [(T.s (.int .i64 x14)),(T.s (.int .u64 x16))]))[(0+(Int.toNat (IntKind.wrap .i64 (p1.2.2.2.2.1-1))))]?).bind fun x23=>
 some (.inl (p1.1,p1.2.1,p1.2.2.1,p1.2.2.2.1,(IntKind.wrap .i64 (p1.2.2.2.2.1-1)),(List.set (List.set p1.2.2.2.2.2.1 (0+p1.2.2.2.2.1.toNat) (T.agg [(T.s (.int .i64 x14)),(T.s (.int .u64 x16))])) (0+(Int.toNat (IntKind.wrap .i64 (p1.2.2.2.2.1-1)))) (T.agg [(T.s (.int .i64 x19)),(T.s (.int .u64 x21))])),()))
 else none)
 else none)
 else none)
 else none)
 else
  some (.inr (p1.1,p1.2.1,p1.2.2.1,p1.2.2.2.1,p1.2.2.2.2.1,p1.2.2.2.2.2.1,())))
 else none)
 else none)
 else
  some (.inr (p1.1,p1.2.1,p1.2.2.1,p1.2.2.2.1,p1.2.2.2.2.1,p1.2.2.2.2.2.1,())))
def JG(fu:Nat):Stp (Nat×Int×Int×Int×(List T)×Unit):=fun p0=>(bif(decide (p0.2.2.2.1<p0.2.2.1))then
 (itP fu (JF) (p0.1,p0.2.1,p0.2.2.1,p0.2.2.2.1,p0.2.2.2.1,p0.2.2.2.2.1,())).bind fun x24=>
 some (.inl (x24.1,x24.2.1,x24.2.2.1,(IntKind.wrap .i64 (x24.2.2.2.1+1)),x24.2.2.2.2.2.1,()))
 else
  some (.inr (p0.1,p0.2.1,p0.2.2.1,p0.2.2.2.1,p0.2.2.2.2.1,())))
def qBW  (fu:Nat)(L:(List Tm))(a:Int)(b:Int)(u:Unit):Option (List T) :=
 (itP fu (JG fu) ((List.length (List.map (vT) L)),a,b,(IntKind.wrap .i64 (a+1)),(List.map (vT) L),())).bind fun x25=>
 some x25.2.2.2.2.1
abbrev InS:=Nat×(Int×Int×Int×Int×(List T)×Unit)
def qpy(N a b i j:Nat)(K:List Tm):InS:=(N,(a:Int),(b:Int),(i:Int),(j:Int),K.map vT,())
def qsN(N a b i:Nat)(K:List Tm):Nat×(Int×Int×Int×(List T)×Unit):=(N,(a:Int),(b:Int),(i:Int),K.map vT,())
theorem qnS{α:Type}(A C:List α)(x y:α):swp (A++y::x::C) (A.length+1) A.length x y=A++x::y::C:=by
 unfold swp;have e1:A++y::x::C=(A++[y])++x::C:=by simp
 have e2:A.length+1=(A++[y]).length:=by simp
 rw[e1,e2];have e3:((A++[y])++x::C).set (A++[y]).length y=A++y::(y::C):=by simp
 rw[e3];simp
theorem qxQ{A C:List Tm}{N a b i:Nat}{x y:Tm}(hN:N≤maxLen)(hl:(A++y::x::C).length=N)(ha:a≤A.length)(fx:fI x.c=true)(fy:fI y.c=true) :
 JF (qpy N a b i (A.length+1) (A++y::x::C))=some (bif decide (qh x<qh y)then .inl (qpy N a b i A.length (A++x::y::C))else .inr (qpy N a b i (A.length+1) (A++y::x::C))):=by
 rw[jc]at hN;have hl':A.length+2+C.length=N:=by rw[← hl];simp;omega
 have w1:IntKind.i64.wrap (((A.length+1:Nat):Int)-1)=((A.length:Nat):Int):=by
  rw[show(((A.length+1:Nat):Int)-1)=((A.length:Nat):Int) by omega];exact rkW (by omega) (by omega)
 have d0:decide ((a:Int)<((A.length+1:Nat):Int))=true:=zd (by omega)
 have d1:decide ((0:Int)≤((A.length+1:Nat):Int))=true:=zd (by omega)
 have d2:decide (((A.length+1:Nat):Int)<(N:Int))=true:=zd (by omega)
 have d3:decide ((0:Int)≤((A.length:Nat):Int))=true:=zd (by omega)
 have d4:decide (((A.length:Nat):Int)<(N:Int))=true:=zd (by omega)
 have g0:(A++y::x::C)[A.length]?=some y:=by simp
 have g1:(A++y::x::C)[A.length+1]?=some x:=by
  have e1:A++y::x::C=(A++[y])++x::C:=by simp
  have e2:A.length+1=(A++[y]).length:=by simp
  rw[e1,e2];simp
 have g0:=rkG g0;have g1:=rkG g1;have hk:=ltA fx fy;have hs:=rkS (A++y::x::C) (A.length+1) A.length x y
 rw[qnS]at hs;obtain⟨z,hz⟩:=rkU (K:=A++y::x::C) (i:=A.length+1) (j:=A.length) (by omega) (T.agg [T.s (.int .i64 y.id),T.s (.int .u64 y.c)])
 show JF (N,(a:Int),(b:Int),(i:Int),((A.length+1:Nat):Int),(A++y::x::C).map vT,())=_
 cases hc:decide (qh x<qh y)with
 | true=>
  rw[hc]at hk;simp only[JF,d0,d1,d2,d3,d4,w1,g1,g0,hz,hk,qfR,qfS,qfT,qfU,zj,zK,zL,zW,zf,zi,hs];rfl
 | false=>
  rw[hc]at hk;simp only[JF,d0,d1,d2,d3,d4,w1,g1,g0,hz,hk,qfR,qfS,qfT,qfU,zj,zK,zL,zW,zf,zi];rfl
theorem qxR{P R:List Tm}{x:Tm}{N b i:Nat}(hN:N≤maxLen)(fx:fI x.c=true):∀(c:Nat) (Q1 Q2:List Tm),Q1.length=c→Srt qh (Q1++Q2)→(∀y∈Q2,qh x<qh y)→(∀y∈Q1,fI y.c=true)→P.length+Q1.length+1+Q2.length+R.length=N →
 ∃Q3 Q4,Q3++Q4=Q1++Q2∧Srt qh (Q3++x::Q4)∧(∀y∈Q4,qh x<qh y)∧jj (c+1) JF (qpy N P.length b i (P.length+Q1.length) (P++Q1++x::(Q2++R))) (qpy N P.length b i (P.length+Q3.length) (P++Q3++x::(Q4++R))):=by
 intro c;induction c with
 | zero=>
  intro Q1 Q2 h hs hx hf hl;have:Q1=[]:=Kj.1 h
  subst this;refine⟨[],Q2,rfl,zH.2 ⟨fun y hy=>Int.le_of_lt (hx y hy),hs⟩,hx,jj.stop ?_⟩
  have d0:decide (((P.length:Nat):Int)<((P.length+([]:List Tm).length:Nat):Int))=false:=zh (by simp)
  show JF (N,((P.length:Nat):Int),(b:Int),(i:Int),((P.length+([]:List Tm).length:Nat):Int),(P++[]++x::(Q2++R)).map vT,())=_
  simp only[JF,d0,zi];rfl
 | succ c ih=>
  intro Q1 Q2 h hs hx hf hl;obtain⟨Q,y,rfl⟩:∃Q y,Q1=Q++[y]:=by
   have hne:Q1≠[]:=fun e=>by rw[e]at h;cases h
   exact⟨Q1.dropLast,Q1.getLast hne,(List.dropLast_concat_getLast hne).symm⟩
  have hq:Q.length=c:=by simpa using h
  have e1:P++(Q++[y])++x::(Q2++R)=(P++Q)++y::x::(Q2++R):=by simp
  have e2:P.length+(Q++[y]).length=(P++Q).length+1:=by simp;omega
  have st:=qxQ (A:=P++Q) (C:=Q2++R) (a:=P.length) (b:=b) (i:=i) (x:=x) (y:=y) hN (by simp at hl ⊢;omega) (by simp) fx (hf y (by simp))
  cases hk:decide (qh x<qh y)with
  | true=>
   rw[hk,zf]at st;have hs':Srt qh (Q++y::Q2):=by simpa using hs
   obtain⟨Q3,Q4,a1,a2,a3,a4⟩:=ih Q (y::Q2) hq hs' (fun z hz=>by
    rcases zA.1 hz with rfl | hz
    · exact Ku hk
    · exact hx z hz) (fun z hz=>hf z (by simp[hz])) (by simp at hl ⊢;omega)
   refine⟨Q3,Q4,by rw[a1];simp,a2,a3,?_⟩
   rw[e1,e2];refine jj.next st ?_
   have e3:(P++Q)++x::y::(Q2++R)=P++Q++x::(y::Q2++R):=by simp
   rw[e3,show(P++Q).length=P.length+Q.length by simp];exact a4
  | false=>
   rw[hk,zi]at st;have hle:qh y≤qh x:=by have:=Wu hk;omega
   have hs1:Srt qh (Q++[y]):=hs.left
   refine⟨Q++[y],Q2,rfl,?_,hx,?_⟩
   · refine Srt.app hs1 (zH.2 ⟨fun z hz=>Int.le_of_lt (hx z hz),hs.right⟩) fun u hu v hv=>?_
     rcases zA.1 hv with rfl | hv
     · rcases zF.1 hu with hu | hu
       · exact Int.le_trans (hs1.both u hu y (Ke.2 rfl)) hle
       · rw[Ke.1 hu];exact hle
     · exact hs.both u hu v hv
   · rw[e1,e2]
     exact jj.stop st
theorem qxS{Q1 Q2:List Tm}{x:Tm}(h:∀y∈Q2,qh x<qh y):Stb qh (Q1++Q2++[x]) (Q1++x::Q2):=by
 have:Stb qh (Q2++[x]) ([x]++Q2):=Stb.swap fun u hu v hv=>by
  rw[Ke.1 hv];have:=h u hu;omega
 have:=(Stb.refl (key:=qh) Q1).app this
 simpa using this
theorem qnT{P S O:List Tm}{N b:Nat}(hN:N≤maxLen)(hf:∀t∈O,fI t.c=true)(hb:P.length+O.length=b)(hn:b+S.length=N):∀(R Q:List Tm),Q≠[]→Srt qh Q→Stb qh O (Q++R)→∃Q',Srt qh Q'∧Stb qh O Q' ∧
 ∀fu m,N+2≤fu→R.length+1≤m→itP m (JG fu) (qsN N P.length b (P.length+Q.length) (P++Q++(R++S)))=some (qsN N P.length b b (P++Q'++S))
 | [],Q,hne,hs,ht=>by
  refine⟨Q,hs,by simpa using ht,fun fu m h1 h2=>?_⟩
  have hq:P.length+Q.length=b:=by have:=ht.len;simp at this;omega
  rw[hq];refine(jj.stop (K:=0) ?_) m h2
  have d0:decide ((b:Int)<(b:Int))=false:=zh (by omega)
  show JG fu (N,((P.length:Nat):Int),(b:Int),(b:Int),(P++Q++([]++S)).map vT,())=_
  simp only[JG,d0,zi];rfl
 | x::R,Q,hne,hs,ht=>by
  have hlen:=ht.len;simp at hlen;have hq:0<Q.length:=zS.2 hne
  have fx:fI x.c=true:=hf x (ht.mem.1 (by simp))
  obtain⟨Q3,Q4,a1,a2,a3,a4⟩:=qxR (P:=P) (R:=R++S) (x:=x) (N:=N) (b:=b) (i:=P.length+Q.length) hN fx Q.length Q [] rfl (by simpa using hs) (fun y hy=>by cases hy) (fun y hy=>hf y (ht.mem.1 (by simp[hy]))) (by simp;omega)
  have a1:Q3++Q4=Q:=by simpa using a1
  have hq':(Q3++x::Q4).length=Q.length+1:=by rw[← a1];simp;omega
  have ht':Stb qh O ((Q3++x::Q4)++R):=by
   have:=qxS (Q1:=Q3) a3
   rw[a1]at this;have:=this.app (Stb.refl (key:=qh) R)
   refine ht.trans ?_
   simpa using this
  obtain⟨Q',b1,b2,b3⟩:=qnT hN hf hb hn R (Q3++x::Q4) (by simp) a2 ht'
  refine⟨Q',b1,b2,fun fu m h1 h2=>?_⟩
  obtain⟨m',rfl⟩:∃m',m=m'+1:=⟨m-1,by simp at h2;omega⟩
  have d0:decide (((P.length+Q.length:Nat):Int)<(b:Int))=true:=zd (by omega)
  have hr:=a4 fu (by omega)
  have w:IntKind.i64.wrap (((P.length+Q.length:Nat):Int)+1)=((P.length+(Q3++x::Q4).length:Nat):Int):=by
   rw[jc]at hN;rw[show(((P.length+Q.length:Nat):Int)+1)=((P.length+(Q3++x::Q4).length:Nat):Int) by rw[hq'];omega];exact rkW (by omega) (by rw[hq'];omega)
  have e1:P++Q++(x::R++S)=P++Q++x::([]++(R++S)):=by simp
  have e2:P++Q3++x::(Q4++(R++S))=P++(Q3++x::Q4)++(R++S):=by simp
  rw[e2]at hr;rw[qu];have step:JG fu (qsN N P.length b (P.length+Q.length) (P++Q++(x::R++S)))=some (.inl (qsN N P.length b (P.length+(Q3++x::Q4).length) (P++(Q3++x::Q4)++(R++S)))):=by
   rw[e1];show JG fu (N,((P.length:Nat):Int),(b:Int),((P.length+Q.length:Nat):Int),(P++Q++x::([]++(R++S))).map vT,())=_
   unfold JG;refine(jp d0).trans (obs (t:=qpy N P.length b (P.length+Q.length) (P.length+Q3.length) (P++(Q3++x::Q4)++(R++S))) hr ?_)
   show some (Sum.inl (N,((P.length:Nat):Int),(b:Int),IntKind.i64.wrap (((P.length+Q.length:Nat):Int)+1),(P++(Q3++x::Q4)++(R++S)).map vT,()))=_
   rw[w];rfl
  rw[step];exact b3 fu m' h1 (by simp at h2;omega)
def qsO(L:List Tm):Bool:=L.all fun t=>fI t.c
theorem Yd{L:List Tm}:qsO L=true↔∀t∈L,fI t.c=true:=KA
def qsP(L:List Tm)(a b:Nat):List Tm:=L.take a++ssK qh ((L.drop a).take (b-a))++L.drop b
theorem qiE(P O S:List Tm):qsP (P++O++S) P.length (P.length+O.length)=P++ssK qh O++S:=by
 unfold qsP;have e1:P++O++S=P++(O++S):=by simp
 rw[e1];have t4:(P++(O++S)).drop P.length=O++S:=by simp
 have t5:(P++(O++S)).drop (P.length+O.length)=S:=by rw[← Wm,t4];simp
 rw[t4,t5,K7,VM rfl];simp
def YM(L:List Tm)(p:Int×Int×Unit):Option (List Tm) :=
 bif decide (0≤p.1)&&(decide (p.1≤p.2.1)&&(decide (p.2.1≤(L.length:Int))&&(qsO L&&Nat.ble L.length 1000000)))then some (qsP L p.1.toNat p.2.1.toNat)else none
theorem qxT(L:List Tm)(p:Int×Int×Unit)(L':List Tm)(hl:L.length≤maxLen)(hg:(dc (cI .i64) (dc (cI .i64) (d1 (cF 79)))).good p)(h:YM L p=some L'):∃n,qBW n L p.1 p.2.1 p.2.2=some (L'.map vT):=by
 obtain⟨a,b,u⟩:=p;obtain⟨h1,h2⟩:=qj h;have:=soi h2;subst this
 simp only[zl,zy]at h1;obtain⟨ha,hab,hbn,hf,hm⟩:=h1;have hf:=Yd.1 hf;have hm:=zr hm;obtain⟨a,rfl⟩:=KC ha;obtain⟨b,rfl⟩:=KC (show 0≤b by omega)
 simp only[zm];obtain⟨P,O,S,e0,p1,p2⟩:=qsK (L:=L) (a:=a) (b:=b) (by omega) (by omega)
 subst e0;subst p1;have hb:P.length+O.length=b:=by omega
 subst hb;rw[qiE];refine⟨(P++O++S).length+2,?_⟩
 unfold qBW;rw[rkM];have hlen:(P++O++S).length=P.length+O.length+S.length:=by simp;omega
 have hw:IntKind.i64.wrap (((P.length:Nat):Int)+1)=((P.length+1:Nat):Int):=by
  rw[show(((P.length:Nat):Int)+1)=((P.length+1:Nat):Int) by omega];exact rkW (by omega) (by omega)
 rw[hw];by_cases hO:O=[]
 · subst hO
   refine obs (t:=qsN (P++[]++S).length P.length (P.length+([]:List Tm).length) (P.length+1) (P++[]++S)) ?_ ?_
   · have d0:decide (((P.length+1:Nat):Int)<((P.length+([]:List Tm).length:Nat):Int))=false:=zh (by simp;omega)
     refine(jj.stop (K:=0) ?_) _ (by omega)
     unfold JG;exact QG d0
   · show some ((P++[]++S).map vT)=_
     rw[QB (key:=qh) Srt.nil]
 · obtain⟨t,O',rfl⟩:=VF hO
   obtain⟨Q',b1,b2,b3⟩:=qnT (P:=P) (S:=S) (O:=t::O') (N:=(P++(t::O')++S).length) (b:=P.length+(t::O').length) hl (fun u hu=>hf u (by simp at hu ⊢;rcases hu with hu | hu <;> simp[hu])) rfl (by simp;omega) O' [t] (by simp) (Srt.one t) (Stb.refl _)
   have hr:=b3 ((P++(t::O')++S).length+2) ((P++(t::O')++S).length+2) (by omega) (by simp;omega)
   have e1:P++[t]++(O'++S)=P++(t::O')++S:=by simp
   rw[e1]at hr;refine obs hr ?_
   show some ((P++Q'++S).map vT)=_
   rw[ZE b1 b2]
end
end Su
end
section
namespace Su
open Go Fly
noncomputable section
def JH:Stp (Nat×Int×Int×Int×(List T)×Unit):=fun p0=>(bif(!(decide (p0.2.2.1=p0.2.2.2.1)))then
 (bif(decide (p0.2.2.2.1<p0.2.2.1))then
 (bif(true&&(Nat.beq p0.1 p0.2.2.2.2.1.length))then
 (qD p0.2.2.2.2.1).bind fun x1=>
 (YL x1 ((IntKind.wrap .i64 (p0.2.1-p0.2.2.1)),p0.2.1,p0.2.2.2.1,())).bind fun x2=>
 some (.inl (p0.1,p0.2.1,(IntKind.wrap .i64 (p0.2.2.1-p0.2.2.2.1)),p0.2.2.2.1,(List.map (vT) x2),()))
 else none)
 else
  (bif(true&&(Nat.beq p0.1 p0.2.2.2.2.1.length))then
  (qD p0.2.2.2.2.1).bind fun x3=>
  (YL x3 ((IntKind.wrap .i64 (p0.2.1-p0.2.2.1)),(IntKind.wrap .i64 ((IntKind.wrap .i64 (p0.2.1+p0.2.2.2.1))-p0.2.2.1)),p0.2.2.1,())).bind fun x4=>
  some (.inl (p0.1,p0.2.1,p0.2.2.1,(IntKind.wrap .i64 (p0.2.2.2.1-p0.2.2.1)),(List.map (vT) x4),()))
 else none))
 else
  some (.inr (p0.1,p0.2.1,p0.2.2.1,p0.2.2.2.1,p0.2.2.2.2.1,())))
def qBX  (fu:Nat)(L:(List Tm))(a:Int)(m:Int)(b:Int)(u:Unit):Option (List T) :=
 (itP fu (JH) ((List.length (List.map (vT) L)),m,(IntKind.wrap .i64 (m-a)),(IntKind.wrap .i64 (b-m)),(List.map (vT) L),())).bind fun x5=>
 (bif(true&&(Nat.beq x5.1 x5.2.2.2.2.1.length))then
 (qD x5.2.2.2.2.1).bind fun x6=>
 (YL x6 ((IntKind.wrap .i64 (x5.2.1-x5.2.2.1)),x5.2.1,x5.2.2.1,())).bind fun x7=>
 some (List.map (vT) x7)
 else none)
def qBY(L:List Tm)(a m b:Nat):List Tm:=L.take a++(L.drop m).take (b-m)++(L.drop a).take (m-a)++L.drop b
theorem qnU(P X Y S:List Tm):qBY (P++X++Y++S) P.length (P.length+X.length) (P.length+X.length+Y.length)=P++Y++X++S:=by
 unfold qBY;have e1:P++X++Y++S=P++(X++(Y++S)):=by simp
 rw[e1];have t1:(P++(X++(Y++S))).take P.length=P:=by simp
 have t4:(P++(X++(Y++S))).drop P.length=X++(Y++S):=by simp
 have t2:(P++(X++(Y++S))).drop (P.length+X.length)=Y++S:=by rw[← Wm,t4];simp
 have t3:(P++(X++(Y++S))).drop (P.length+X.length+Y.length)=S:=by rw[← Wm,t2];simp
 rw[t1,t2,t3,t4,K7,K7,VM rfl,VM rfl]
def ZF(L:List Tm)(p:Int×Int×Int×Unit):Option (List Tm) :=
 bif decide (0≤p.1)&&(decide (p.1<p.2.1)&&(decide (p.2.1<p.2.2.1)&&(decide (p.2.2.1≤(L.length:Int))&&Nat.ble L.length 1000000)))then some (qBY L p.1.toNat p.2.1.toNat p.2.2.1.toNat)else none
theorem qmb(P X M Y S:List Tm)(u:Unit)(h:X.length=Y.length):YL (P++X++M++Y++S) (((P.length:Nat):Int),((P.length+X.length+M.length:Nat):Int),((X.length:Nat):Int),u)=some (P++Y++M++X++S):=by
 unfold YL;refine(jp ?_).trans (congrArg some ?_)
 · simp only[zl,zy]
   refine⟨by omega,by omega,by omega,?_⟩
   simp only[zp];omega
 · simp only[zm]
   exact qnR P X M Y S h
abbrev RoS:=Nat×(Int×Int×Int×(List T)×Unit)
def qxU(N m i j:Nat)(K:List Tm):RoS:=(N,(m:Int),(i:Int),(j:Int),K.map vT,())
theorem nz(l:List Tm)(h:0<l.length):l≠[]:=fun e=>by rw[e]at h;exact absurd h (Nat.lt_irrefl 0)
theorem qsQ{N m:Nat}(hN:N≤1000000):∀(d:Nat) (P X Y S:List Tm),X.length+Y.length≤d→X≠[]→Y≠[]→P.length+X.length=m→(P++X++Y++S).length=N →
 ∃P' X' Y' S',X'.length=Y'.length∧P'.length+X'.length=m∧(P'++X'++Y'++S').length=N∧P'++Y'++X'++S'=P++Y++X++S∧jj (d+1) JH (qxU N m X.length Y.length (P++X++Y++S)) (qxU N m X'.length Y'.length (P'++X'++Y'++S')):=by
 intro d;induction d with
 | zero=>
  intro P X Y S h hX;exact absurd (Kj.1 (by omega)) hX
 | succ d ih=>
  intro P X Y S h hX hY hm hl;have x0:=zS.2 hX;have y0:=zS.2 hY;have hl':P.length+X.length+Y.length+S.length=N:=by rw[← hl];simp only[zp]
  have dn:(true&&Nat.beq N ((P++X++Y++S).map vT).length)=true:=by rw[rkM,hl];simp
  by_cases he:X.length=Y.length
  · refine⟨P,X,Y,S,he,hm,hl,rfl,(jj.stop (K:=d+1) ?_)⟩
    have d0:(!decide (((X.length:Nat):Int)=((Y.length:Nat):Int)))=false:=by rw[zd (by omega)];rfl
    show JH (N,((m:Int),(((X.length:Nat):Int),(((Y.length:Nat):Int),((P++X++Y++S).map vT,())))))=_
    unfold JH;exact QG d0
  · have d0:(!decide (((X.length:Nat):Int)=((Y.length:Nat):Int)))=true:=by rw[zh (by omega)];rfl
    have wmi:IntKind.i64.wrap ((m:Int)-((X.length:Nat):Int))=((P.length:Nat):Int):=by
     rw[show((m:Int)-((X.length:Nat):Int))=((P.length:Nat):Int) by omega];exact rkW (by omega) (by omega)
    by_cases hgt:Y.length<X.length
    · -- the longer one stands left
      have d1:decide (((Y.length:Nat):Int)<((X.length:Nat):Int))=true:=zd (by omega)
      obtain⟨X1,X2,rfl,q1⟩:∃X1 X2,X=X1++X2∧X1.length=Y.length:=⟨X.take Y.length,X.drop Y.length,(Kv _ _).symm,by rw[zV];omega⟩
      have q2:(X1++X2).length=X1.length+X2.length:=zp
      have sw:=qmb P X1 X2 Y S () q1
      have e1:P++(X1++X2)++Y++S=P++X1++X2++Y++S:=by simp
      have e2:P++Y++X2++X1++S=(P++Y)++X2++X1++S:=rfl
      obtain⟨P',X',Y',S',a1,a2,a3,a4,a5⟩:=ih (P++Y) X2 X1 S (by omega) (nz X2 (by omega)) (nz X1 (by omega)) (by rw[zp];omega) (by simp only[zp]at hl ⊢;omega)
      refine⟨P',X',Y',S',a1,a2,a3,by rw[a4];simp,jj.next ?_ a5⟩
      have w2:IntKind.i64.wrap ((((X1++X2).length:Nat):Int)-((Y.length:Nat):Int))=((X2.length:Nat):Int):=by
       rw[show((((X1++X2).length:Nat):Int)-((Y.length:Nat):Int))=((X2.length:Nat):Int) by omega];exact rkW (by omega) (by omega)
      have em:P.length+X1.length+X2.length=m:=by omega
      rw[em,q1,← e1]at sw;show JH (N,((m:Int),((((X1++X2).length:Nat):Int),(((Y.length:Nat):Int),((P++(X1++X2)++Y++S).map vT,())))))=_
      unfold JH;refine(jp d0).trans ((jp d1).trans ((jp dn).trans (obs (qL _) ?_)))
      simp only[wmi];refine obs sw ?_
      simp only[w2];unfold qxU;rw[q1]
    · have d1:decide (((Y.length:Nat):Int)<((X.length:Nat):Int))=false:=zh (by omega)
      obtain⟨Y1,Y2,rfl,q1⟩:∃Y1 Y2,Y=Y1++Y2∧Y2.length=X.length:=⟨Y.take (Y.length-X.length),Y.drop (Y.length-X.length),(Kv _ _).symm,by rw[VC];omega⟩
      have q2:(Y1++Y2).length=Y1.length+Y2.length:=zp
      have sw:=qmb P X Y1 Y2 S () q1.symm
      have e1:P++X++(Y1++Y2)++S=P++X++Y1++Y2++S:=by simp
      obtain⟨P',X',Y',S',a1,a2,a3,a4,a5⟩:=ih P Y2 Y1 (X++S) (by omega) (nz Y2 (by omega)) (nz Y1 (by omega)) (by omega) (by simp only[zp]at hl ⊢;omega)
      refine⟨P',X',Y',S',a1,a2,a3,by rw[a4];simp,jj.next ?_ a5⟩
      have w2:IntKind.i64.wrap ((((Y1++Y2).length:Nat):Int)-((X.length:Nat):Int))=((Y1.length:Nat):Int):=by
       rw[show((((Y1++Y2).length:Nat):Int)-((X.length:Nat):Int))=((Y1.length:Nat):Int) by omega];exact rkW (by omega) (by omega)
      have w3:IntKind.i64.wrap (IntKind.i64.wrap ((m:Int)+(((Y1++Y2).length:Nat):Int))-((X.length:Nat):Int))=((P.length+X.length+Y1.length:Nat):Int):=by
       rw[rkW (n:=(m:Int)+(((Y1++Y2).length:Nat):Int)) (by omega) (by omega)];rw[show((m:Int)+(((Y1++Y2).length:Nat):Int)-((X.length:Nat):Int))=((P.length+X.length+Y1.length:Nat):Int) by omega];exact rkW (by omega) (by omega)
      rw[← e1]at sw;show JH (N,((m:Int),(((X.length:Nat):Int),((((Y1++Y2).length:Nat):Int),((P++X++(Y1++Y2)++S).map vT,())))))=_
      unfold JH;refine(jp d0).trans ((QG d1).trans ((jp dn).trans (obs (qL _) ?_)))
      simp only[wmi,w3];refine obs sw ?_
      simp only[w2];unfold qxU;rw[q1];simp only[zM]
theorem qxV(L:List Tm)(p:Int×Int×Int×Unit)(L':List Tm)(hl:L.length≤maxLen)(hg:(dc (cI .i64) (dc (cI .i64) (dc (cI .i64) (d1 (cF 79))))).good p)(h:ZF L p=some L'):∃n,qBX n L p.1 p.2.1 p.2.2.1 p.2.2.2=some (L'.map vT):=by
 obtain⟨a,m,b,u⟩:=p;obtain⟨h1,h2⟩:=qj h;have:=soi h2;subst this
 simp only[zl,zy]at h1;obtain⟨ha,ham,hmb,hbn,hm⟩:=h1;have hm:=zr hm;obtain⟨a,rfl⟩:=KC ha;obtain⟨m,rfl⟩:=KC (show 0≤m by omega)
 obtain⟨b,rfl⟩:=KC (show 0≤b by omega)
 simp only[zm];obtain⟨P,X0,S,e0,p1,p2⟩:=qsK (L:=L) (a:=a) (b:=b) (by omega) (by omega)
 obtain⟨X,Y,rfl,q1⟩:∃X Y,X0=X++Y∧X.length=m-a:=⟨X0.take (m-a),X0.drop (m-a),(Kv _ _).symm,by rw[zV];omega⟩
 have q2:(X++Y).length=X.length+Y.length:=zp
 have e1:L=P++X++Y++S:=by rw[e0];simp
 subst p1;have hm':P.length+X.length=m:=by omega
 have hb':P.length+X.length+Y.length=b:=by omega
 have hr:=qnU P X Y S;rw[← e1,hm',show m+Y.length=b by omega]at hr;rw[hr];obtain⟨P',X',Y',S',a1,a2,a3,a4,a5⟩:=qsQ (N:=L.length) (m:=m) hm (X.length+Y.length) P X Y S (zE _) (fun e=>by subst e;simp at hm';omega) (fun e=>by subst e;simp at hb';omega) hm' (by rw[e1])
 rw[← e1]at a5;refine⟨X.length+Y.length+1,?_⟩
 unfold qBX;have w1:IntKind.i64.wrap ((m:Int)-((P.length:Nat):Int))=((X.length:Nat):Int):=by
  rw[show((m:Int)-((P.length:Nat):Int))=((X.length:Nat):Int) by omega];exact rkW (by omega) (by omega)
 have w2:IntKind.i64.wrap ((b:Int)-(m:Int))=((Y.length:Nat):Int):=by
  rw[show((b:Int)-(m:Int))=((Y.length:Nat):Int) by omega];exact rkW (by omega) (by omega)
 rw[rkM,w1,w2];refine obs (a5 _ (zE _)) ?_
 have w3:IntKind.i64.wrap ((m:Int)-((X'.length:Nat):Int))=((P'.length:Nat):Int):=by
  rw[show((m:Int)-((X'.length:Nat):Int))=((P'.length:Nat):Int) by omega];exact rkW (by omega) (by omega)
 have hl3:P'.length+X'.length+Y'.length+S'.length=L.length:=by rw[← a3];simp only[zp]
 have dn:(true&&Nat.beq L.length ((P'++X'++Y'++S').map vT).length)=true:=by rw[rkM,a3];simp
 have sw:=qmb P' X' [] Y' S' u a1
 rw[zD,zD,zN,Kr,a2]at sw;refine(jp dn).trans (obs (qL _) ?_)
 show(YL (P'++X'++Y'++S') (IntKind.i64.wrap ((m:Int)-((X'.length:Nat):Int)),(m:Int),((X'.length:Nat):Int),u)).bind _=_
 rw[w3];refine obs sw ?_
 rw[a4]
end
end Su
end
