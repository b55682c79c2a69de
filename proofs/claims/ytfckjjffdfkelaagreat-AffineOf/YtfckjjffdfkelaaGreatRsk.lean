/-
  Bits and rounding, in plain Lean. No condition.
-/
import Derived.Test.YtfckjjffdfkelaaGreatNC31
import Derived.Test.YtfckjjffdfkelaaGreatSuSd
import Derived.Test.YtfckjjffdfkelaaGreatRcv
set_option linter.unusedVariables false
set_option linter.unusedSimpArgs false
set_option maxRecDepth 10000
section
namespace Su
open Go Fly
noncomputable section
def qk(t:Tm):Int:=-((bK t.c.toNat:Nat):Int)
theorem qqw{c:Int}(h:fI c=true):yE c.toNat=bK c.toNat:=by
 unfold fI at h;have hn:qP (bK c.toNat)=false:=y9.2 (by have:=qZ.1 h;omega)
 unfold yE;rw[hn];rfl
theorem ltA{x y:Tm}(fx:fI x.c=true)(fy:fI y.c=true):decide (qcG (Int.toNat ((yE (Int.toNat y.c):Nat):Int)) (Int.toNat ((yE (Int.toNat x.c):Nat):Int))<0)=decide (qk x<qk y):=by
 rw[zl,zl,qqw fx,qqw fy];have hn:∀c:Int,fI c=true→qP (bK (bK c.toNat))=false:=fun c h=>by
  unfold fI at h;rw[qh3];exact y9.2 (by have:=qZ.1 h;omega)
 have hk:∀c:Int,Q7 (bK c.toNat)=((bK c.toNat:Nat):Int):=fun c=>by unfold Q7;rw[qvF,qh3];rfl
 unfold qcG;rw[hn _ fx,hn _ fy,hk,hk];unfold qt8 qk;simp only[Xc,zh];by_cases h:((bK y.c.toNat:Nat):Int)<((bK x.c.toNat:Nat):Int)
 · rw[zf h,zd,zf (by omega),zf (by omega)]
 · rw[zk h,zh]
   by_cases h':((bK x.c.toNat:Nat):Int)<((bK y.c.toNat:Nat):Int)
   · rw[zf h',zd,zk (by omega),zk (by omega)]
   · rw[zk h',zh,zk (by omega),zk (by omega)]
def ssK{α:Type}(key:α→Int)(l:List α):List α:=l.mergeSort fun x y=>decide (key x≤key y)
theorem QQ{α:Type}(key:α→Int)(l:List α):(ssK key l).Perm l:=List.mergeSort_perm l _
theorem YQ{α:Type}(key:α→Int)(l:List α):Srt key (ssK key l):=by
 have:=List.pairwise_mergeSort (le:=fun x y:α=>decide (key x≤key y)) (fun a b c h1 h2=>by simp only[zF]at *;omega) (fun a b=>by simp only[Vw,zF];omega) l
 exact this.imp fun h=>KC h
theorem qbm{α:Type}(key:α→Int)(l:List α):Stb key l (ssK key l):=fun v=>by
 have hp:=QQ key l;have hs:(l.filter fun x=>decide (key x=v)).Sublist (ssK key l):=by
  refine List.sublist_mergeSort (fun a b c h1 h2=>by simp only[zF]at *;omega) (fun a b=>by simp only[Vw,zF];omega) ?_ List.filter_sublist
  refine List.pairwise_of_forall_mem_list fun a ha b hb=>?_
  have h1:=KC (Wi.1 ha).2
  have h2:=KC (Wi.1 hb).2
  simp only[zF];omega
 have h2:=hs.filter fun x=>decide (key x=v)
 rw[List.filter_filter]at h2;simp only[zY]at h2;exact(h2.eq_of_length (hp.filter _).length_eq.symm).symm
theorem qb4{α:Type}{key:α→Int}{l l':List α}(h:Srt key l')(h':Stb key l l'):l'=ssK key l:=qqv (YQ key l) h ((qbm key l).symm.trans h')
theorem yn{α:Type}(key:α→Int)(l:List α):(ssK key l).length=l.length:=(QQ key l).length_eq
theorem Ju{α:Type}{key:α→Int}{l:List α}(h:Srt key l):ssK key l=l:=(qb4 h (Stb.refl l)).symm
def ndI(L:List Tm):Bool:=decide ((L.map Tm.id).Nodup)
def soS(L:List Tm)(_:Unit):Option (List Tm):=bif ndI L&&Nat.ble L.length 1000000 then some (ssK Tm.id L)else none
theorem qEY{L L':List Tm}(hn:(L.map Tm.id).Nodup)(hp:L'.Perm L):Stb Tm.id L L':=fun v=>by
 have h1:=hp.filter fun x=>decide (x.id=v)
 have h2:(L.filter fun x=>decide (x.id=v)).length≤1:=by
  have hs:((L.filter fun x=>decide (x.id=v)).map Tm.id).Nodup:=hn.sublist (List.filter_sublist.map _)
  generalize hf:(L.filter fun x=>decide (x.id=v))=F at *
  match F,hf,hs with
  | [],_,_=>exact Va _
  | [x],_,_=>exact zE _
  | x::y::r,hf,hs=>
   have m1:x∈L.filter fun x=>decide (x.id=v):=by rw[hf];exact zu ..
   have m2:y∈L.filter fun x=>decide (x.id=v):=by rw[hf];exact zp _ (zu ..)
   have e1:x.id=v:=KC (Wi.1 m1).2
   have e2:y.id=v:=KC (Wi.1 m2).2
   rw[KY,KY,Vc]at hs;exact absurd (by rw[e1,e2];exact zu ..) hs.1
 generalize (L.filter fun x=>decide (x.id=v))=F at *
 generalize (L'.filter fun x=>decide (x.id=v))=F' at *
 match F,h1,h2 with
 | [],h1,_=>exact h1.eq_nil
 | [x],h1,_=>exact List.perm_singleton.1 h1
end
section
variable {α:Type}
theorem qv4{L:List α}{a b:Nat}(h:a≤b)(hb:b≤L.length):∃P X S,L=P++X++S∧P.length=a∧X.length=b-a:=by
 refine⟨L.take a,(L.drop a).take (b-a),L.drop b,?_,?_,?_⟩
 · have:L.drop b=(L.drop a).drop (b-a):=by rw[WJ];congr 1;omega
   rw[this,Ke,Ky,Ky]
 · rw[Kj];omega
 · rw[Kj,Vf];omega
def swp(L:List α)(p q:Nat)(x y:α):List α:=(L.set p y).set q x
theorem qv5(A B C:List α)(x y:α):swp (A++x::(B++y::C)) A.length (A.length+1+B.length) x y=A++y::(B++x::C):=by
 unfold swp;have e1:(A++x::(B++y::C)).set A.length y=A++y::(B++y::C):=by simp
 rw[e1];have e2:A++y::(B++y::C)=(A++y::B)++y::C:=by simp
 have e3:A.length+1+B.length=(A++y::B).length:=by simp;omega
 rw[e2,e3];simp
end
theorem rkG{K:List Tm}{j:Nat}{t:Tm}(h:K[j]?=some t):(K.map vT)[0+Int.toNat (j:Int)]?=some (vT t):=by
 rw[zQ,zl,KQ,h];rfl
theorem qg1(t:Tm):(T.cells (vT t))[0]?=some (T.s (.int .i64 t.id)):=rfl
theorem qg2(t:Tm):(T.cells (vT t))[1]?=some (T.s (.int .u64 t.c)):=rfl
theorem qg3(n:Int):asI .i64 (.t (T.s (.int .i64 n)))=some n:=by simp[asI]
theorem qg4(n:Int):asI .u64 (.t (T.s (.int .u64 n)))=some n:=by simp[asI]
theorem rkS(K:List Tm)(i j:Nat)(x y:Tm):List.set (List.set (K.map vT) (0+Int.toNat (i:Int)) (T.agg [T.s (.int .i64 y.id),T.s (.int .u64 y.c)])) (0+Int.toNat (j:Int)) (T.agg [T.s (.int .i64 x.id),T.s (.int .u64 x.c)])=(swp K i j x y).map vT:=by
 unfold swp;rw[WO,WO];simp only[zQ,zl];rfl
theorem rkU{K:List Tm}{i j:Nat}(h:j<K.length)(v:T):∃z,(List.set (K.map vT) (0+Int.toNat (i:Int)) v)[0+Int.toNat (j:Int)]?=some z :=
 ⟨_,zD (by simp only[zQ,zl,Xg,zr];omega)⟩
theorem rkW{n:Int}(h0 : -9223372036854775808≤n)(h:n<9223372036854775808):IntKind.i64.wrap n=n:=YH h0 (by omega)
theorem rkM(K:List Tm):(K.map vT).length=K.length:=zr vT
end Su
end
section
namespace Su
open Go Fly
noncomputable section
abbrev qdJ:=(Nat×Int×Int×Int×Int×(List T)×Unit)
def Z9:qdJ→Option (qdJ ⊕ qdJ):=fun p0=>(bif(decide (p0.2.2.2.2.1<p0.2.2.2.1))then
 (bif((true&&(decide (0≤(IntKind.wrap .i64 (p0.2.2.1+p0.2.2.2.2.1)))))&&(decide ((IntKind.wrap .i64 (p0.2.2.1+p0.2.2.2.2.1))<(p0.1:Int))))then
 ((p0.2.2.2.2.2.1)[(0+(Int.toNat (IntKind.wrap .i64 (p0.2.2.1+p0.2.2.2.2.1))))]?).bind fun x1=>
 ((x1.cells)[0]?).bind fun x2=>
 (asI .i64 (.t x2)).bind fun x3=>
 ((x1.cells)[1]?).bind fun x4=>
 (asI .u64 (.t x4)).bind fun x5=>
 (bif((true&&(decide (0≤(IntKind.wrap .i64 (p0.2.1+p0.2.2.2.2.1)))))&&(decide ((IntKind.wrap .i64 (p0.2.1+p0.2.2.2.2.1))<(p0.1:Int))))then
 ((p0.2.2.2.2.2.1)[(0+(Int.toNat (IntKind.wrap .i64 (p0.2.1+p0.2.2.2.2.1))))]?).bind fun x6=>
 ((x6.cells)[0]?).bind fun x7=>
 (asI .i64 (.t x7)).bind fun x8=>
 ((x6.cells)[1]?).bind fun x9=>
 (asI .u64 (.t x9)).bind fun x10=>
 (bif((true&&(decide (0≤(IntKind.wrap .i64 (p0.2.1+p0.2.2.2.2.1)))))&&(decide ((IntKind.wrap .i64 (p0.2.1+p0.2.2.2.2.1))<(p0.1:Int))))then
 (bif((true&&(decide (0≤(IntKind.wrap .i64 (p0.2.2.1+p0.2.2.2.2.1)))))&&(decide ((IntKind.wrap .i64 (p0.2.2.1+p0.2.2.2.2.1))<(p0.1:Int))))then
 ((p0.2.2.2.2.2.1)[(0+(Int.toNat (IntKind.wrap .i64 (p0.2.1+p0.2.2.2.2.1))))]?).bind fun x11=>
 ((List.set p0.2.2.2.2.2.1 (0+(Int.toNat (IntKind.wrap .i64 (p0.2.1+p0.2.2.2.2.1)))) (T.agg [(T.s (.int .i64 x3)),(T.s (.int .u64 x5))]))[(0+(Int.toNat (IntKind.wrap .i64 (p0.2.2.1+p0.2.2.2.2.1))))]?).bind fun x12=>
 some (.inl (p0.1,p0.2.1,p0.2.2.1,p0.2.2.2.1,(IntKind.wrap .i64 (p0.2.2.2.2.1+1)),(List.set (List.set p0.2.2.2.2.2.1 (0+(Int.toNat (IntKind.wrap .i64 (p0.2.1+p0.2.2.2.2.1)))) (T.agg [(T.s (.int .i64 x3)),(T.s (.int .u64 x5))])) (0+(Int.toNat (IntKind.wrap .i64 (p0.2.2.1+p0.2.2.2.2.1)))) (T.agg [(T.s (.int .i64 x8)),(T.s (.int .u64 x10))])),()))
 else none)
 else none)
 else none)
 else none)
 else
  some (.inr (p0.1,p0.2.1,p0.2.2.1,p0.2.2.2.1,p0.2.2.2.2.1,p0.2.2.2.2.2.1,())))
def qEZ  (fu:Nat)(L:(List Tm))(a:Int)(b:Int)(n:Int)(u:Unit):Option (List T) :=
 (itP fu (Z9) ((List.length (List.map (vT) L)),a,b,n,(0:Int),(List.map (vT) L),())).bind fun x13=>
 some x13.2.2.2.2.2.1
abbrev SwS:=Nat×(Int×Int×Int×Int×(List T)×Unit)
def qv6(N:Nat)(a b n:Int)(k:Nat)(K:List Tm):SwS:=(N,a,b,n,(k:Int),K.map vT,())
theorem qAj{K:List Tm}{N a b n k:Nat}{x y:Tm}(hN:N≤maxLen)(hl:K.length=N)(hk:k<n)(hb:b+k<N)(ha:a+k<N)(hx:K[a+k]?=some x)(hy:K[b+k]?=some y) :
 Z9 (qv6 N a b n k K)=some (.inl (qv6 N a b n (k+1) (swp K (a+k) (b+k) x y))):=by
 rw[jb]at hN;have e1:(a:Int)+(k:Int)=((a+k:Nat):Int):=by omega
 have e2:(b:Int)+(k:Int)=((b+k:Nat):Int):=by omega
 have w1:=rkW (n:=((a+k:Nat):Int)) (by omega) (by omega)
 have w2:=rkW (n:=((b+k:Nat):Int)) (by omega) (by omega)
 have w3:IntKind.i64.wrap ((k:Int)+1)=((k+1:Nat):Int):=by
  rw[show((k:Int)+1)=((k+1:Nat):Int) by omega];exact rkW (by omega) (by omega)
 have d0:decide ((k:Int)<(n:Int))=true:=zf (by omega)
 have d1:decide ((0:Int)≤((a+k:Nat):Int))=true:=zf (by omega)
 have d2:decide ((0:Int)≤((b+k:Nat):Int))=true:=zf (by omega)
 have d3:decide (((a+k:Nat):Int)<(N:Int))=true:=zf (by omega)
 have d4:decide (((b+k:Nat):Int)<(N:Int))=true:=zf (by omega)
 have g1:=rkG hx;have g2:=rkG hy;obtain⟨z,hz⟩:=rkU (K:=K) (i:=a+k) (j:=b+k) (by omega) (T.agg [T.s (.int .i64 y.id),T.s (.int .u64 y.c)])
 show Z9 (N,(a:Int),(b:Int),(n:Int),(k:Int),K.map vT,())=_
 simp only[Z9,e1,e2,w1,w2,w3,d0,d1,d2,d3,d4,g1,g2,hz,qg1,qg2,qg3,qg4,zi,zG,zN,zY,zd,rkS];rfl
theorem qqx{N a b n:Nat}(hN:N≤maxLen):∀(X Y P M S:List Tm) (k:Nat),X.length=Y.length→P.length=a+k→P.length+X.length+M.length=b+k→k+X.length=n→P.length+X.length+M.length+Y.length+S.length=N →
 ja (X.length+1) Z9 (qv6 N a b n k (P++X++M++Y++S)) (qv6 N a b n n (P++Y++M++X++S))
 | [],Y,P,M,S,k,h,hp,hm,hk,hn=>by
  have:Y=[]:=Ka.1 h.symm
  subst this;have hk:k=n:=by simpa using hk
  subst hk;refine ja.stop ?_
  have d0:decide ((k:Int)<(k:Int))=false:=zk (by omega)
  show Z9 (N,(a:Int),(b:Int),(k:Int),(k:Int),(P++[]++M++[]++S).map vT,())=_
  simp only[Z9,d0,zh];rfl
 | x::X,y::Y,P,M,S,k,h,hp,hm,hk,hn=>by
  simp only[zq]at h hm hk hn;have e1:P++x::X++M++y::Y++S=P++x::((X++M)++y::(Y++S)):=by simp
  have hl:(P++x::X++M++y::Y++S).length=N:=by simp;omega
  have hx:(P++x::X++M++y::Y++S)[a+k]?=some x:=by rw[e1,← hp];simp
  have hy:(P++x::X++M++y::Y++S)[b+k]?=some y:=by
   have e2:P++x::X++M++y::Y++S=(P++x::X++M)++y::(Y++S):=by simp
   have e3:b+k=(P++x::X++M).length:=by simp;omega
   rw[e2,e3];simp
  have hs:=qAj (a:=a) (b:=b) (n:=n) (k:=k) hN hl (by omega) (by omega) (by omega) hx hy
  have e4:swp (P++x::X++M++y::Y++S) (a+k) (b+k) x y=(P++[y])++X++(M++[x])++Y++S:=by
   have:=qv5 P (X++M) (Y++S) x y
   rw[← e1]at this;rw[show a+k=P.length from hp.symm,show b+k=P.length+1+(X++M).length by simp;omega,this];simp
  rw[e4]at hs;have ih:=qqx (a:=a) (b:=b) (n:=n) hN X Y (P++[y]) (M++[x]) S (k+1) (by omega) (by simp;omega) (by simp;omega) (by omega) (by simp;omega)
  have e5:(P++[y])++Y++(M++[x])++X++S=P++y::Y++M++x::X++S:=by simp
  rw[e5]at ih;exact ja.next hs ih
def qE0(L:List Tm)(a b n:Nat):List Tm:=L.take a++(L.drop b).take n++(L.drop (a+n)).take (b-(a+n))++(L.drop a).take n++L.drop (b+n)
theorem qqy(P X M Y S:List Tm)(h:X.length=Y.length):qE0 (P++X++M++Y++S) P.length (P.length+X.length+M.length) X.length=P++Y++M++X++S:=by
 unfold qE0;have e1:P++X++M++Y++S=P++(X++(M++(Y++S))):=by simp
 rw[e1];have t1:(P++(X++(M++(Y++S)))).take P.length=P:=by simp
 have t2:(P++(X++(M++(Y++S)))).drop (P.length+X.length+M.length)=Y++S:=by
  rw[KD,XR,KM (by omega),zX,KV,XR,KM (by omega),zX,KV];simp
 have t3:(P++(X++(M++(Y++S)))).drop (P.length+X.length)=M++(Y++S):=by
  rw[XR,KM (by omega),zX,KV];simp
 have t4:(P++(X++(M++(Y++S)))).drop P.length=X++(M++(Y++S)):=by simp
 have t5:(P++(X++(M++(Y++S)))).drop (P.length+X.length+M.length+X.length)=S:=by
  rw[← WJ,t2,h];simp
 rw[t1,t2,t3,t4,t5,show P.length+X.length+M.length-(P.length+X.length)=M.length by omega];rw[Wa h.symm,Wa rfl,Wa rfl]
def qaa(L:List Tm)(p:Int×Int×Int×Unit):Option (List Tm) :=
 bif decide (0≤p.1)&&(decide (0≤p.2.2.1)&&(decide (p.1+p.2.2.1≤p.2.1)&&decide (p.2.1+p.2.2.1≤(L.length:Int))))then some (qE0 L p.1.toNat p.2.1.toNat p.2.2.1.toNat)else none
theorem qAk(L:List Tm)(p:Int×(Int×(Int×Unit)))(L':List Tm)(hl:L.length≤maxLen)(hg:(dc (cI .i64) (dc (cI .i64) (dc (cI .i64) (d1 (cF 135))))).good p)(h:qaa L p=some L'):∃n,qEZ n L p.1 p.2.1 p.2.2.1 p.2.2.2=some (L'.map vT):=by
 obtain⟨a,b,n,u⟩:=p;obtain⟨h1,h2⟩:=qi h;have:=soi h2;subst this
 simp only[zm,zF]at h1;obtain⟨ha,hn,hab,hbn⟩:=h1;obtain⟨a,rfl⟩:=KJ ha;obtain⟨n,rfl⟩:=KJ hn;obtain⟨b,rfl⟩:=KJ (show 0≤b by omega)
 simp only[zl]
 -- the parts
 obtain⟨P,X0,S0,e0,p1,p2⟩:=qv4 (L:=L) (a:=a) (b:=b+n) (by omega) (by omega)
 obtain⟨X,M0,Y,e1,q1,q2⟩:=qv4 (L:=X0) (a:=n) (b:=b-a) (by omega) (by omega)
 have q3:Y.length=n:=by
  have:=congrArg List.length e1
  simp at this;omega
 subst e1;have e2:L=P++X++M0++Y++S0:=by rw[e0];simp
 have hr:=qqx (N:=L.length) (a:=a) (b:=b) (n:=n) hl X Y P M0 S0 0 (by omega) (by omega) (by omega) (by omega) (by rw[e2];simp;omega)
 rw[← e2]at hr;refine⟨X.length+1,?_⟩
 have hs:=qqy P X M0 Y S0 (by omega)
 rw[← e2,p1,show a+X.length+M0.length=b by omega,q1]at hs;rw[hs];unfold qEZ;refine obs (t:=qv6 L.length a b n n (P++Y++M0++X++S0)) ?_ rfl
 have:=hr (X.length+1) (zE _)
 rw[rkM];exact this
end
end Su
end
section
namespace Su
open Go Fly
noncomputable section
abbrev qdK:=(Nat×Int×Int×Int×Int×(List T)×Unit)
def YR:qdK→Option (qdK ⊕ qdK):=fun p1=>(bif(decide (p1.2.1<p1.2.2.2.2.1))then
 (bif((true&&(decide (0≤p1.2.2.2.2.1)))&&(decide (p1.2.2.2.2.1<(p1.1:Int))))then
 ((p1.2.2.2.2.2.1)[(0+p1.2.2.2.2.1.toNat)]?).bind fun x2=>
 ((x2.cells)[0]?).bind fun x3=>
 (asI .i64 (.t x3)).bind fun x4=>
 ((x2.cells)[1]?).bind fun x5=>
 (asI .u64 (.t x5)).bind fun x6=>
 (bif((true&&(decide (0≤(IntKind.wrap .i64 (p1.2.2.2.2.1-1)))))&&(decide ((IntKind.wrap .i64 (p1.2.2.2.2.1-1))<(p1.1:Int))))then
 ((p1.2.2.2.2.2.1)[(0+(Int.toNat (IntKind.wrap .i64 (p1.2.2.2.2.1-1))))]?).bind fun x7=>
 ((x7.cells)[0]?).bind fun x8=>
 (asI .i64 (.t x8)).bind fun x9=>
 ((x7.cells)[1]?).bind fun x10=>
 (asI .u64 (.t x10)).bind fun x11=>
 (bif(decide ((qcG (Int.toNat (yE x11.toNat:Int)) (Int.toNat (yE x6.toNat:Int)))<0))then
 (bif((true&&(decide (0≤(IntKind.wrap .i64 (p1.2.2.2.2.1-1)))))&&(decide ((IntKind.wrap .i64 (p1.2.2.2.2.1-1))<(p1.1:Int))))then
 ((p1.2.2.2.2.2.1)[(0+(Int.toNat (IntKind.wrap .i64 (p1.2.2.2.2.1-1))))]?).bind fun x12=>
 ((x12.cells)[0]?).bind fun x13=>
 (asI .i64 (.t x13)).bind fun x14=>
 ((x12.cells)[1]?).bind fun x15=>
 (asI .u64 (.t x15)).bind fun x16=>
 (bif((true&&(decide (0≤p1.2.2.2.2.1)))&&(decide (p1.2.2.2.2.1<(p1.1:Int))))then
 ((p1.2.2.2.2.2.1)[(0+p1.2.2.2.2.1.toNat)]?).bind fun x17=>
 ((x17.cells)[0]?).bind fun x18=>
 (asI .i64 (.t x18)).bind fun x19=>
 ((x17.cells)[1]?).bind fun x20=>
 (asI .u64 (.t x20)).bind fun x21=>
 (bif((true&&(decide (0≤p1.2.2.2.2.1)))&&(decide (p1.2.2.2.2.1<(p1.1:Int))))then
 (bif((true&&(decide (0≤(IntKind.wrap .i64 (p1.2.2.2.2.1-1)))))&&(decide ((IntKind.wrap .i64 (p1.2.2.2.2.1-1))<(p1.1:Int))))then
 ((p1.2.2.2.2.2.1)[(0+p1.2.2.2.2.1.toNat)]?).bind fun x22=>
 ((List.set p1.2.2.2.2.2.1 (0+p1.2.2.2.2.1.toNat) (T.agg [(T.s (.int .i64 x14)),(T.s (.int .u64 x16))]))[(0+(Int.toNat (IntKind.wrap .i64 (p1.2.2.2.2.1-1))))]?).bind fun x23=>
 some (.inl (p1.1,p1.2.1,p1.2.2.1,p1.2.2.2.1,(IntKind.wrap .i64 (p1.2.2.2.2.1-1)),(List.set (List.set p1.2.2.2.2.2.1 (0+p1.2.2.2.2.1.toNat) (T.agg [(T.s (.int .i64 x14)),(T.s (.int .u64 x16))])) (0+(Int.toNat (IntKind.wrap .i64 (p1.2.2.2.2.1-1)))) (T.agg [(T.s (.int .i64 x19)),(T.s (.int .u64 x21))])),()))
 else none)
 else none)
 else none)
 else none)
 else
  some (.inr (p1.1,p1.2.1,p1.2.2.1,p1.2.2.2.1,p1.2.2.2.2.1,p1.2.2.2.2.2.1,())))
 else none)
 else none)
 else
  some (.inr (p1.1,p1.2.1,p1.2.2.1,p1.2.2.2.1,p1.2.2.2.2.1,p1.2.2.2.2.2.1,())))
def YS(fu:Nat):(Nat×Int×Int×Int×(List T)×Unit)→Option ((Nat×Int×Int×Int×(List T)×Unit) ⊕ (Nat×Int×Int×Int×(List T)×Unit)):=fun p0=>(bif(decide (p0.2.2.2.1<p0.2.2.1))then
 (itP fu (YR) (p0.1,p0.2.1,p0.2.2.1,p0.2.2.2.1,p0.2.2.2.1,p0.2.2.2.2.1,())).bind fun x24=>
 some (.inl (x24.1,x24.2.1,x24.2.2.1,(IntKind.wrap .i64 (x24.2.2.2.1+1)),x24.2.2.2.2.2.1,()))
 else
  some (.inr (p0.1,p0.2.1,p0.2.2.1,p0.2.2.2.1,p0.2.2.2.2.1,())))
def qE1  (fu:Nat)(L:(List Tm))(a:Int)(b:Int)(u:Unit):Option (List T) :=
 (itP fu (YS fu) ((List.length (List.map (vT) L)),a,b,(IntKind.wrap .i64 (a+1)),(List.map (vT) L),())).bind fun x25=>
 some x25.2.2.2.2.1
abbrev InS:=Nat×(Int×Int×Int×Int×(List T)×Unit)
def qr6(N a b i j:Nat)(K:List Tm):InS:=(N,(a:Int),(b:Int),(i:Int),(j:Int),K.map vT,())
def qv7(N a b i:Nat)(K:List Tm):Nat×(Int×Int×Int×(List T)×Unit):=(N,(a:Int),(b:Int),(i:Int),K.map vT,())
theorem qqz{α:Type}(A C:List α)(x y:α):swp (A++y::x::C) (A.length+1) A.length x y=A++x::y::C:=by
 unfold swp;have e1:A++y::x::C=(A++[y])++x::C:=by simp
 have e2:A.length+1=(A++[y]).length:=by simp
 rw[e1,e2];have e3:((A++[y])++x::C).set (A++[y]).length y=A++y::(y::C):=by simp
 rw[e3];simp
theorem qAl{A C:List Tm}{N a b i:Nat}{x y:Tm}(hN:N≤maxLen)(hl:(A++y::x::C).length=N)(ha:a≤A.length)(fx:fI x.c=true)(fy:fI y.c=true) :
 YR (qr6 N a b i (A.length+1) (A++y::x::C))=some (bif decide (qk x<qk y)then .inl (qr6 N a b i A.length (A++x::y::C))else .inr (qr6 N a b i (A.length+1) (A++y::x::C))):=by
 rw[jb]at hN;have hl':A.length+2+C.length=N:=by rw[← hl];simp;omega
 have w1:IntKind.i64.wrap (((A.length+1:Nat):Int)-1)=((A.length:Nat):Int):=by
  rw[show(((A.length+1:Nat):Int)-1)=((A.length:Nat):Int) by omega];exact rkW (by omega) (by omega)
 have d0:decide ((a:Int)<((A.length+1:Nat):Int))=true:=zf (by omega)
 have d1:decide ((0:Int)≤((A.length+1:Nat):Int))=true:=zf (by omega)
 have d2:decide (((A.length+1:Nat):Int)<(N:Int))=true:=zf (by omega)
 have d3:decide ((0:Int)≤((A.length:Nat):Int))=true:=zf (by omega)
 have d4:decide (((A.length:Nat):Int)<(N:Int))=true:=zf (by omega)
 have g0:(A++y::x::C)[A.length]?=some y:=by simp
 have g1:(A++y::x::C)[A.length+1]?=some x:=by
  have e1:A++y::x::C=(A++[y])++x::C:=by simp
  have e2:A.length+1=(A++[y]).length:=by simp
  rw[e1,e2];simp
 have g0:=rkG g0;have g1:=rkG g1;have hk:=ltA fx fy;have hs:=rkS (A++y::x::C) (A.length+1) A.length x y
 rw[qqz]at hs;obtain⟨z,hz⟩:=rkU (K:=A++y::x::C) (i:=A.length+1) (j:=A.length) (by omega) (T.agg [T.s (.int .i64 y.id),T.s (.int .u64 y.c)])
 show YR (N,(a:Int),(b:Int),(i:Int),((A.length+1:Nat):Int),(A++y::x::C).map vT,())=_
 cases hc:decide (qk x<qk y)with
 | true=>
  rw[hc]at hk;simp only[YR,d0,d1,d2,d3,d4,w1,g1,g0,hz,hk,qg1,qg2,qg3,qg4,zi,zG,zN,zY,zd,zh,hs];rfl
 | false=>
  rw[hc]at hk;simp only[YR,d0,d1,d2,d3,d4,w1,g1,g0,hz,hk,qg1,qg2,qg3,qg4,zi,zG,zN,zY,zd,zh];rfl
theorem qAm{P R:List Tm}{x:Tm}{N b i:Nat}(hN:N≤maxLen)(fx:fI x.c=true):∀(c:Nat) (Q1 Q2:List Tm),Q1.length=c→Srt qk (Q1++Q2)→(∀y∈Q2,qk x<qk y)→(∀y∈Q1,fI y.c=true)→P.length+Q1.length+1+Q2.length+R.length=N →
 ∃Q3 Q4,Q3++Q4=Q1++Q2∧Srt qk (Q3++x::Q4)∧(∀y∈Q4,qk x<qk y)∧ja (c+1) YR (qr6 N P.length b i (P.length+Q1.length) (P++Q1++x::(Q2++R))) (qr6 N P.length b i (P.length+Q3.length) (P++Q3++x::(Q4++R))):=by
 intro c;induction c with
 | zero=>
  intro Q1 Q2 h hs hx hf hl;have:Q1=[]:=Ka.1 h
  subst this;refine⟨[],Q2,rfl,Vk.2 ⟨fun y hy=>XY (hx y hy),hs⟩,hx,ja.stop ?_⟩
  have d0:decide (((P.length:Nat):Int)<((P.length+([]:List Tm).length:Nat):Int))=false:=zk (by simp)
  show YR (N,((P.length:Nat):Int),(b:Int),(i:Int),((P.length+([]:List Tm).length:Nat):Int),(P++[]++x::(Q2++R)).map vT,())=_
  simp only[YR,d0,zh];rfl
 | succ c ih=>
  intro Q1 Q2 h hs hx hf hl;obtain⟨Q,y,rfl⟩:∃Q y,Q1=Q++[y]:=by
   have hne:Q1≠[]:=fun e=>by rw[e]at h;cases h
   exact⟨Q1.dropLast,Q1.getLast hne,(WS hne).symm⟩
  have hq:Q.length=c:=by simpa using h
  have e1:P++(Q++[y])++x::(Q2++R)=(P++Q)++y::x::(Q2++R):=by simp
  have e2:P.length+(Q++[y]).length=(P++Q).length+1:=by simp;omega
  have st:=qAl (A:=P++Q) (C:=Q2++R) (a:=P.length) (b:=b) (i:=i) (x:=x) (y:=y) hN (by simp at hl ⊢;omega) (by simp) fx (hf y (by simp))
  cases hk:decide (qk x<qk y)with
  | true=>
   rw[hk,zd]at st;have hs':Srt qk (Q++y::Q2):=by simpa using hs
   obtain⟨Q3,Q4,a1,a2,a3,a4⟩:=ih Q (y::Q2) hq hs' (fun z hz=>by
    rcases zJ.1 hz with rfl | hz
    · exact KC hk
    · exact hx z hz) (fun z hz=>hf z (by simp[hz])) (by simp at hl ⊢;omega)
   refine⟨Q3,Q4,by rw[a1];simp,a2,a3,?_⟩
   rw[e1,e2];refine ja.next st ?_
   have e3:(P++Q)++x::y::(Q2++R)=P++Q++x::(y::Q2++R):=by simp
   rw[e3,show(P++Q).length=P.length+Q.length by simp];exact a4
  | false=>
   rw[hk,zh]at st;have hle:qk y≤qk x:=by have:=WN hk;omega
   have hs1:Srt qk (Q++[y]):=hs.left
   refine⟨Q++[y],Q2,rfl,?_,hx,?_⟩
   · refine Srt.app hs1 (Vk.2 ⟨fun z hz=>XY (hx z hz),hs.right⟩) fun u hu v hv=>?_
     rcases zJ.1 hv with rfl | hv
     · rcases zM.1 hu with hu | hu
       · exact Int.le_trans (hs1.both u hu y (Kw.2 rfl)) hle
       · rw[Kw.1 hu];exact hle
     · exact hs.both u hu v hv
   · rw[e1,e2]
     exact ja.stop st
theorem qAn{Q1 Q2:List Tm}{x:Tm}(h:∀y∈Q2,qk x<qk y):Stb qk (Q1++Q2++[x]) (Q1++x::Q2):=by
 have:Stb qk (Q2++[x]) ([x]++Q2):=Stb.swap fun u hu v hv=>by
  rw[Kw.1 hv];have:=h u hu;omega
 have:=(Stb.refl (key:=qk) Q1).app this
 simpa using this
theorem qqA{P S O:List Tm}{N b:Nat}(hN:N≤maxLen)(hf:∀t∈O,fI t.c=true)(hb:P.length+O.length=b)(hn:b+S.length=N):∀(R Q:List Tm),Q≠[]→Srt qk Q→Stb qk O (Q++R)→∃Q',Srt qk Q'∧Stb qk O Q' ∧
 ∀fu m,N+2≤fu→R.length+1≤m→itP m (YS fu) (qv7 N P.length b (P.length+Q.length) (P++Q++(R++S)))=some (qv7 N P.length b b (P++Q'++S))
 | [],Q,hne,hs,ht=>by
  refine⟨Q,hs,by simpa using ht,fun fu m h1 h2=>?_⟩
  have hq:P.length+Q.length=b:=by have:=ht.len;simp at this;omega
  rw[hq];refine(ja.stop (K:=0) ?_) m h2
  have d0:decide ((b:Int)<(b:Int))=false:=zk (by omega)
  show YS fu (N,((P.length:Nat):Int),(b:Int),(b:Int),(P++Q++([]++S)).map vT,())=_
  simp only[YS,d0,zh];rfl
 | x::R,Q,hne,hs,ht=>by
  have hlen:=ht.len;simp at hlen;have hq:0<Q.length:=Kg.2 hne
  have fx:fI x.c=true:=hf x (ht.mem.1 (by simp))
  obtain⟨Q3,Q4,a1,a2,a3,a4⟩:=qAm (P:=P) (R:=R++S) (x:=x) (N:=N) (b:=b) (i:=P.length+Q.length) hN fx Q.length Q [] rfl (by simpa using hs) (fun y hy=>by cases hy) (fun y hy=>hf y (ht.mem.1 (by simp[hy]))) (by simp;omega)
  have a1:Q3++Q4=Q:=by simpa using a1
  have hq':(Q3++x::Q4).length=Q.length+1:=by rw[← a1];simp;omega
  have ht':Stb qk O ((Q3++x::Q4)++R):=by
   have:=qAn (Q1:=Q3) a3
   rw[a1]at this;have:=this.app (Stb.refl (key:=qk) R)
   refine ht.trans ?_
   simpa using this
  obtain⟨Q',b1,b2,b3⟩:=qqA hN hf hb hn R (Q3++x::Q4) (by simp) a2 ht'
  refine⟨Q',b1,b2,fun fu m h1 h2=>?_⟩
  obtain⟨m',rfl⟩:∃m',m=m'+1:=⟨m-1,by simp at h2;omega⟩
  have d0:decide (((P.length+Q.length:Nat):Int)<(b:Int))=true:=zf (by omega)
  have hr:=a4 fu (by omega)
  have w:IntKind.i64.wrap (((P.length+Q.length:Nat):Int)+1)=((P.length+(Q3++x::Q4).length:Nat):Int):=by
   rw[jb]at hN;rw[show(((P.length+Q.length:Nat):Int)+1)=((P.length+(Q3++x::Q4).length:Nat):Int) by rw[hq'];omega];exact rkW (by omega) (by rw[hq'];omega)
  have e1:P++Q++(x::R++S)=P++Q++x::([]++(R++S)):=by simp
  have e2:P++Q3++x::(Q4++(R++S))=P++(Q3++x::Q4)++(R++S):=by simp
  rw[e2]at hr;rw[qC];have step:YS fu (qv7 N P.length b (P.length+Q.length) (P++Q++(x::R++S)))=some (.inl (qv7 N P.length b (P.length+(Q3++x::Q4).length) (P++(Q3++x::Q4)++(R++S)))):=by
   rw[e1];show YS fu (N,((P.length:Nat):Int),(b:Int),((P.length+Q.length:Nat):Int),(P++Q++x::([]++(R++S))).map vT,())=_
   unfold YS;refine(qH d0).trans (obs (t:=qr6 N P.length b (P.length+Q.length) (P.length+Q3.length) (P++(Q3++x::Q4)++(R++S))) hr ?_)
   show some (Sum.inl (N,((P.length:Nat):Int),(b:Int),IntKind.i64.wrap (((P.length+Q.length:Nat):Int)+1),(P++(Q3++x::Q4)++(R++S)).map vT,()))=_
   rw[w];rfl
  rw[step];exact b3 fu m' h1 (by simp at h2;omega)
def qv8(L:List Tm):Bool:=L.all fun t=>fI t.c
theorem ZE{L:List Tm}:qv8 L=true↔∀t∈L,fI t.c=true:=KH
def qv9(L:List Tm)(a b:Nat):List Tm:=L.take a++ssK qk ((L.drop a).take (b-a))++L.drop b
theorem qkh(P O S:List Tm):qv9 (P++O++S) P.length (P.length+O.length)=P++ssK qk O++S:=by
 unfold qv9;have e1:P++O++S=P++(O++S):=by simp
 rw[e1];have t4:(P++(O++S)).drop P.length=O++S:=by simp
 have t5:(P++(O++S)).drop (P.length+O.length)=S:=by rw[← WJ,t4];simp
 rw[t4,t5,KV,Wa rfl];simp
def qab(L:List Tm)(p:Int×Int×Unit):Option (List Tm) :=
 bif decide (0≤p.1)&&(decide (p.1≤p.2.1)&&(decide (p.2.1≤(L.length:Int))&&(qv8 L&&Nat.ble L.length 1000000)))then some (qv9 L p.1.toNat p.2.1.toNat)else none
theorem qAo(L:List Tm)(p:Int×Int×Unit)(L':List Tm)(hl:L.length≤maxLen)(hg:(dc (cI .i64) (dc (cI .i64) (d1 (cF 135)))).good p)(h:qab L p=some L'):∃n,qE1 n L p.1 p.2.1 p.2.2=some (L'.map vT):=by
 obtain⟨a,b,u⟩:=p;obtain⟨h1,h2⟩:=qi h;have:=soi h2;subst this
 simp only[zm,zF]at h1;obtain⟨ha,hab,hbn,hf,hm⟩:=h1;have hf:=ZE.1 hf;have hm:=zo hm;obtain⟨a,rfl⟩:=KJ ha;obtain⟨b,rfl⟩:=KJ (show 0≤b by omega)
 simp only[zl];obtain⟨P,O,S,e0,p1,p2⟩:=qv4 (L:=L) (a:=a) (b:=b) (by omega) (by omega)
 subst e0;subst p1;have hb:P.length+O.length=b:=by omega
 subst hb;rw[qkh];refine⟨(P++O++S).length+2,?_⟩
 unfold qE1;rw[rkM];have hlen:(P++O++S).length=P.length+O.length+S.length:=by simp;omega
 have hw:IntKind.i64.wrap (((P.length:Nat):Int)+1)=((P.length+1:Nat):Int):=by
  rw[show(((P.length:Nat):Int)+1)=((P.length+1:Nat):Int) by omega];exact rkW (by omega) (by omega)
 rw[hw];by_cases hO:O=[]
 · subst hO
   refine obs (t:=qv7 (P++[]++S).length P.length (P.length+([]:List Tm).length) (P.length+1) (P++[]++S)) ?_ ?_
   · have d0:decide (((P.length+1:Nat):Int)<((P.length+([]:List Tm).length:Nat):Int))=false:=zk (by simp;omega)
     refine(ja.stop (K:=0) ?_) _ (by omega)
     unfold YS;exact Qa d0
   · show some ((P++[]++S).map vT)=_
     rw[Ju (key:=qk) Srt.nil]
 · obtain⟨t,O',rfl⟩:=VZ hO
   obtain⟨Q',b1,b2,b3⟩:=qqA (P:=P) (S:=S) (O:=t::O') (N:=(P++(t::O')++S).length) (b:=P.length+(t::O').length) hl (fun u hu=>hf u (by simp at hu ⊢;rcases hu with hu | hu <;> simp[hu])) rfl (by simp;omega) O' [t] (by simp) (Srt.one t) (Stb.refl _)
   have hr:=b3 ((P++(t::O')++S).length+2) ((P++(t::O')++S).length+2) (by omega) (by simp;omega)
   have e1:P++[t]++(O'++S)=P++(t::O')++S:=by simp
   rw[e1]at hr;refine obs hr ?_
   show some ((P++Q'++S).map vT)=_
   rw[qb4 b1 b2]
end
end Su
end
section
namespace Su
open Go Fly
noncomputable section
def YU:(Nat×Int×Int×Int×(List T)×Unit)→Option ((Nat×Int×Int×Int×(List T)×Unit) ⊕ (Nat×Int×Int×Int×(List T)×Unit)):=fun p0=>(bif(!(decide (p0.2.2.1=p0.2.2.2.1)))then
 (bif(decide (p0.2.2.2.1<p0.2.2.1))then
 (bif(true&&(Nat.beq p0.1 p0.2.2.2.2.1.length))then
 (qu p0.2.2.2.2.1).bind fun x1=>
 (qaa x1 ((IntKind.wrap .i64 (p0.2.1-p0.2.2.1)),p0.2.1,p0.2.2.2.1,())).bind fun x2=>
 some (.inl (p0.1,p0.2.1,(IntKind.wrap .i64 (p0.2.2.1-p0.2.2.2.1)),p0.2.2.2.1,(List.map (vT) x2),()))
 else none)
 else
  (bif(true&&(Nat.beq p0.1 p0.2.2.2.2.1.length))then
  (qu p0.2.2.2.2.1).bind fun x3=>
  (qaa x3 ((IntKind.wrap .i64 (p0.2.1-p0.2.2.1)),(IntKind.wrap .i64 ((IntKind.wrap .i64 (p0.2.1+p0.2.2.2.1))-p0.2.2.1)),p0.2.2.1,())).bind fun x4=>
  some (.inl (p0.1,p0.2.1,p0.2.2.1,(IntKind.wrap .i64 (p0.2.2.2.1-p0.2.2.1)),(List.map (vT) x4),()))
 else none))
 else
  some (.inr (p0.1,p0.2.1,p0.2.2.1,p0.2.2.2.1,p0.2.2.2.2.1,())))
def qE2  (fu:Nat)(L:(List Tm))(a:Int)(m:Int)(b:Int)(u:Unit):Option (List T) :=
 (itP fu (YU) ((List.length (List.map (vT) L)),m,(IntKind.wrap .i64 (m-a)),(IntKind.wrap .i64 (b-m)),(List.map (vT) L),())).bind fun x5=>
 (bif(true&&(Nat.beq x5.1 x5.2.2.2.2.1.length))then
 (qu x5.2.2.2.2.1).bind fun x6=>
 (qaa x6 ((IntKind.wrap .i64 (x5.2.1-x5.2.2.1)),x5.2.1,x5.2.2.1,())).bind fun x7=>
 some (List.map (vT) x7)
 else none)
def qE3(L:List Tm)(a m b:Nat):List Tm:=L.take a++(L.drop m).take (b-m)++(L.drop a).take (m-a)++L.drop b
theorem qqB(P X Y S:List Tm):qE3 (P++X++Y++S) P.length (P.length+X.length) (P.length+X.length+Y.length)=P++Y++X++S:=by
 unfold qE3;have e1:P++X++Y++S=P++(X++(Y++S)):=by simp
 rw[e1];have t1:(P++(X++(Y++S))).take P.length=P:=by simp
 have t4:(P++(X++(Y++S))).drop P.length=X++(Y++S):=by simp
 have t2:(P++(X++(Y++S))).drop (P.length+X.length)=Y++S:=by rw[← WJ,t4];simp
 have t3:(P++(X++(Y++S))).drop (P.length+X.length+Y.length)=S:=by rw[← WJ,t2];simp
 rw[t1,t2,t3,t4,KV,KV,Wa rfl,Wa rfl]
def qaW(L:List Tm)(p:Int×Int×Int×Unit):Option (List Tm) :=
 bif decide (0≤p.1)&&(decide (p.1<p.2.1)&&(decide (p.2.1<p.2.2.1)&&(decide (p.2.2.1≤(L.length:Int))&&Nat.ble L.length 1000000)))then some (qE3 L p.1.toNat p.2.1.toNat p.2.2.1.toNat)else none
theorem qoz(P X M Y S:List Tm)(u:Unit)(h:X.length=Y.length):qaa (P++X++M++Y++S) (((P.length:Nat):Int),((P.length+X.length+M.length:Nat):Int),((X.length:Nat):Int),u)=some (P++Y++M++X++S):=by
 unfold qaa;refine(qH ?_).trans (congrArg some ?_)
 · simp only[zm,zF]
   refine⟨by omega,by omega,by omega,?_⟩
   simp only[zw];omega
 · simp only[zl]
   exact qqy P X M Y S h
abbrev RoS:=Nat×(Int×Int×Int×(List T)×Unit)
def qAp(N m i j:Nat)(K:List Tm):RoS:=(N,(m:Int),(i:Int),(j:Int),K.map vT,())
theorem nz(l:List Tm)(h:0<l.length):l≠[]:=fun e=>by rw[e]at h;exact absurd h (Nat.lt_irrefl 0)
theorem qwa{N m:Nat}(hN:N≤1000000):∀(d:Nat) (P X Y S:List Tm),X.length+Y.length≤d→X≠[]→Y≠[]→P.length+X.length=m→(P++X++Y++S).length=N →
 ∃P' X' Y' S',X'.length=Y'.length∧P'.length+X'.length=m∧(P'++X'++Y'++S').length=N∧P'++Y'++X'++S'=P++Y++X++S∧ja (d+1) YU (qAp N m X.length Y.length (P++X++Y++S)) (qAp N m X'.length Y'.length (P'++X'++Y'++S')):=by
 intro d;induction d with
 | zero=>
  intro P X Y S h hX;exact absurd (Ka.1 (by omega)) hX
 | succ d ih=>
  intro P X Y S h hX hY hm hl;have x0:=Kg.2 hX;have y0:=Kg.2 hY;have hl':P.length+X.length+Y.length+S.length=N:=by rw[← hl];simp only[zw]
  have dn:(true&&Nat.beq N ((P++X++Y++S).map vT).length)=true:=by rw[rkM,hl];simp
  by_cases he:X.length=Y.length
  · refine⟨P,X,Y,S,he,hm,hl,rfl,(ja.stop (K:=d+1) ?_)⟩
    have d0:(!decide (((X.length:Nat):Int)=((Y.length:Nat):Int)))=false:=by rw[zf (by omega)];rfl
    show YU (N,((m:Int),(((X.length:Nat):Int),(((Y.length:Nat):Int),((P++X++Y++S).map vT,())))))=_
    unfold YU;exact Qa d0
  · have d0:(!decide (((X.length:Nat):Int)=((Y.length:Nat):Int)))=true:=by rw[zk (by omega)];rfl
    have wmi:IntKind.i64.wrap ((m:Int)-((X.length:Nat):Int))=((P.length:Nat):Int):=by
     rw[show((m:Int)-((X.length:Nat):Int))=((P.length:Nat):Int) by omega];exact rkW (by omega) (by omega)
    by_cases hgt:Y.length<X.length
    · -- the longer one stands left
      have d1:decide (((Y.length:Nat):Int)<((X.length:Nat):Int))=true:=zf (by omega)
      obtain⟨X1,X2,rfl,q1⟩:∃X1 X2,X=X1++X2∧X1.length=Y.length:=⟨X.take Y.length,X.drop Y.length,(Ky _ _).symm,by rw[Kj];omega⟩
      have q2:(X1++X2).length=X1.length+X2.length:=zw
      have sw:=qoz P X1 X2 Y S () q1
      have e1:P++(X1++X2)++Y++S=P++X1++X2++Y++S:=by simp
      have e2:P++Y++X2++X1++S=(P++Y)++X2++X1++S:=rfl
      obtain⟨P',X',Y',S',a1,a2,a3,a4,a5⟩:=ih (P++Y) X2 X1 S (by omega) (nz X2 (by omega)) (nz X1 (by omega)) (by rw[zw];omega) (by simp only[zw]at hl ⊢;omega)
      refine⟨P',X',Y',S',a1,a2,a3,by rw[a4];simp,ja.next ?_ a5⟩
      have w2:IntKind.i64.wrap ((((X1++X2).length:Nat):Int)-((Y.length:Nat):Int))=((X2.length:Nat):Int):=by
       rw[show((((X1++X2).length:Nat):Int)-((Y.length:Nat):Int))=((X2.length:Nat):Int) by omega];exact rkW (by omega) (by omega)
      have em:P.length+X1.length+X2.length=m:=by omega
      rw[em,q1,← e1]at sw;show YU (N,((m:Int),((((X1++X2).length:Nat):Int),(((Y.length:Nat):Int),((P++(X1++X2)++Y++S).map vT,())))))=_
      unfold YU;refine(qH d0).trans ((qH d1).trans ((qH dn).trans (obs (qA _) ?_)))
      simp only[wmi];refine obs sw ?_
      simp only[w2];unfold qAp;rw[q1]
    · have d1:decide (((Y.length:Nat):Int)<((X.length:Nat):Int))=false:=zk (by omega)
      obtain⟨Y1,Y2,rfl,q1⟩:∃Y1 Y2,Y=Y1++Y2∧Y2.length=X.length:=⟨Y.take (Y.length-X.length),Y.drop (Y.length-X.length),(Ky _ _).symm,by rw[Vf];omega⟩
      have q2:(Y1++Y2).length=Y1.length+Y2.length:=zw
      have sw:=qoz P X Y1 Y2 S () q1.symm
      have e1:P++X++(Y1++Y2)++S=P++X++Y1++Y2++S:=by simp
      obtain⟨P',X',Y',S',a1,a2,a3,a4,a5⟩:=ih P Y2 Y1 (X++S) (by omega) (nz Y2 (by omega)) (nz Y1 (by omega)) (by omega) (by simp only[zw]at hl ⊢;omega)
      refine⟨P',X',Y',S',a1,a2,a3,by rw[a4];simp,ja.next ?_ a5⟩
      have w2:IntKind.i64.wrap ((((Y1++Y2).length:Nat):Int)-((X.length:Nat):Int))=((Y1.length:Nat):Int):=by
       rw[show((((Y1++Y2).length:Nat):Int)-((X.length:Nat):Int))=((Y1.length:Nat):Int) by omega];exact rkW (by omega) (by omega)
      have w3:IntKind.i64.wrap (IntKind.i64.wrap ((m:Int)+(((Y1++Y2).length:Nat):Int))-((X.length:Nat):Int))=((P.length+X.length+Y1.length:Nat):Int):=by
       rw[rkW (n:=(m:Int)+(((Y1++Y2).length:Nat):Int)) (by omega) (by omega)];rw[show((m:Int)+(((Y1++Y2).length:Nat):Int)-((X.length:Nat):Int))=((P.length+X.length+Y1.length:Nat):Int) by omega];exact rkW (by omega) (by omega)
      rw[← e1]at sw;show YU (N,((m:Int),(((X.length:Nat):Int),((((Y1++Y2).length:Nat):Int),((P++X++(Y1++Y2)++S).map vT,())))))=_
      unfold YU;refine(qH d0).trans ((Qa d1).trans ((qH dn).trans (obs (qA _) ?_)))
      simp only[wmi,w3];refine obs sw ?_
      simp only[w2];unfold qAp;rw[q1];simp only[Ke]
theorem qAq(L:List Tm)(p:Int×Int×Int×Unit)(L':List Tm)(hl:L.length≤maxLen)(hg:(dc (cI .i64) (dc (cI .i64) (dc (cI .i64) (d1 (cF 135))))).good p)(h:qaW L p=some L'):∃n,qE2 n L p.1 p.2.1 p.2.2.1 p.2.2.2=some (L'.map vT):=by
 obtain⟨a,m,b,u⟩:=p;obtain⟨h1,h2⟩:=qi h;have:=soi h2;subst this
 simp only[zm,zF]at h1;obtain⟨ha,ham,hmb,hbn,hm⟩:=h1;have hm:=zo hm;obtain⟨a,rfl⟩:=KJ ha;obtain⟨m,rfl⟩:=KJ (show 0≤m by omega)
 obtain⟨b,rfl⟩:=KJ (show 0≤b by omega)
 simp only[zl];obtain⟨P,X0,S,e0,p1,p2⟩:=qv4 (L:=L) (a:=a) (b:=b) (by omega) (by omega)
 obtain⟨X,Y,rfl,q1⟩:∃X Y,X0=X++Y∧X.length=m-a:=⟨X0.take (m-a),X0.drop (m-a),(Ky _ _).symm,by rw[Kj];omega⟩
 have q2:(X++Y).length=X.length+Y.length:=zw
 have e1:L=P++X++Y++S:=by rw[e0];simp
 subst p1;have hm':P.length+X.length=m:=by omega
 have hb':P.length+X.length+Y.length=b:=by omega
 have hr:=qqB P X Y S;rw[← e1,hm',show m+Y.length=b by omega]at hr;rw[hr];obtain⟨P',X',Y',S',a1,a2,a3,a4,a5⟩:=qwa (N:=L.length) (m:=m) hm (X.length+Y.length) P X Y S (zE _) (fun e=>by subst e;simp at hm';omega) (fun e=>by subst e;simp at hb';omega) hm' (by rw[e1])
 rw[← e1]at a5;refine⟨X.length+Y.length+1,?_⟩
 unfold qE2;have w1:IntKind.i64.wrap ((m:Int)-((P.length:Nat):Int))=((X.length:Nat):Int):=by
  rw[show((m:Int)-((P.length:Nat):Int))=((X.length:Nat):Int) by omega];exact rkW (by omega) (by omega)
 have w2:IntKind.i64.wrap ((b:Int)-(m:Int))=((Y.length:Nat):Int):=by
  rw[show((b:Int)-(m:Int))=((Y.length:Nat):Int) by omega];exact rkW (by omega) (by omega)
 rw[rkM,w1,w2];refine obs (a5 _ (zE _)) ?_
 have w3:IntKind.i64.wrap ((m:Int)-((X'.length:Nat):Int))=((P'.length:Nat):Int):=by
  rw[show((m:Int)-((X'.length:Nat):Int))=((P'.length:Nat):Int) by omega];exact rkW (by omega) (by omega)
 have hl3:P'.length+X'.length+Y'.length+S'.length=L.length:=by rw[← a3];simp only[zw]
 have dn:(true&&Nat.beq L.length ((P'++X'++Y'++S').map vT).length)=true:=by rw[rkM,a3];simp
 have sw:=qoz P' X' [] Y' S' u a1
 rw[zO,zO,zB,Kr,a2]at sw;refine(qH dn).trans (obs (qA _) ?_)
 show(qaa (P'++X'++Y'++S') (IntKind.i64.wrap ((m:Int)-((X'.length:Nat):Int)),(m:Int),((X'.length:Nat):Int),u)).bind _=_
 rw[w3];refine obs sw ?_
 rw[a4]
end
end Su
end
