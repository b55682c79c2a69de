/-
  What functions of the program compute, in plain Lean, and that the evaluator finds it.
-/
import Derived.Test.YtldhknmacepeiaaGreatDoorTra
import Derived.Test.YtldhknmacepeiaaGreatDoorNC10
import Derived.Test.YtldhknmacepeiaaGreatDoorSuSd
set_option linter.unusedVariables false
set_option linter.unusedSimpArgs false
set_option maxRecDepth 10000
section
namespace Su
open Go Fly
noncomputable section
theorem qxA{x:Nat}(h:x<18446744073709551616):ofN (qd [IntKind.u32.wrap (x:Int),IntKind.u32.wrap (Int.fdiv (x:Int) (2^32))])=ofN x:=by
 have e1:IntKind.u32.wrap (x:Int)=((x % 4294967296:Nat):Int):=by rw[wrap_u32];omega
 have e2:IntKind.u32.wrap (Int.fdiv (x:Int) (2^32))=((x / 4294967296:Nat):Int):=by
  rw[Zn,show x / 2^32=x / 4294967296 from rfl];exact qiR (by omega) (by omega)
 rw[e1,e2]
 congr 1
 simp only[qd,zn];omega
theorem qnB{v k:Nat}(h:v<10^k):qr v≤4*k+1:=KF (qay (VZ h)) (J8 k)
end
end Su
end
section
namespace Su
open Go Fly
noncomputable section
def Z9:Stp ((List Int)×Nat×Int×Int×(List T)×Unit):=fun p3=>(bif(decide (p3.2.2.2.1<9))then
 (bif((true&&(Nat.beq p3.2.1 p3.2.2.2.2.1.length))&&(Nat.ble (p3.2.2.2.2.1.length+(List.length [(T.s (.int .u8 (IntKind.wrap .u8 (IntKind.wrap .u64 (48+(Int.tmod p3.2.2.1 10))))))])) 549755813888))then
 some (.inl (p3.1,(List.length (p3.2.2.2.2.1++[(T.s (.int .u8 (IntKind.wrap .u8 (IntKind.wrap .u64 (48+(Int.tmod p3.2.2.1 10))))))])),(IntKind.wrap .u64 (Int.tdiv p3.2.2.1 10)),(IntKind.wrap .i64 (p3.2.2.2.1+1)),(p3.2.2.2.2.1++[(T.s (.int .u8 (IntKind.wrap .u8 (IntKind.wrap .u64 (48+(Int.tmod p3.2.2.1 10))))))]),()))
 else none)
 else
  some (.inr (p3.1,p3.2.1,p3.2.2.1,p3.2.2.2.1,p3.2.2.2.2.1,())))
def qbW(fu:Nat):Stp ((List Int)×Nat×(List T)×Unit):=fun p0=>(bif(decide (0<(List.length p0.1:Int)))then
 (Yp (p0.1,(1000000000:Int))).bind fun x1=>
 (At x1.2 0).bind fun x2=>
 (itP fu (Z9) (x1.1,p0.2.1,x2,(0:Int),p0.2.2.1,())).bind fun x4=>
 some (.inl (x4.1,x4.2.1,x4.2.2.2.2.1,()))
 else
  some (.inr (p0.1,p0.2.1,p0.2.2.1,())))
def qbX:Stp ((List Int)×Nat×(List T)×Unit):=fun p6=>(bif(decide (0<(p6.2.1:Int)))then
 (bif((true&&(decide (0≤(IntKind.wrap .i64 ((p6.2.1:Int)-1)))))&&(decide ((IntKind.wrap .i64 ((p6.2.1:Int)-1))<(p6.2.1:Int))))then
 ((p6.2.2.1)[(0+(Int.toNat (IntKind.wrap .i64 ((p6.2.1:Int)-1))))]?).bind fun x7=>
 (ldT x7 0 false 1).bind fun x8=>
 (asI .u8 (.t x8)).bind fun x9=>
 (bif(decide (x9=48))then
 (bif((true&&(decide (0≤(IntKind.wrap .i64 ((p6.2.1:Int)-1)))))&&(decide ((IntKind.wrap .i64 ((p6.2.1:Int)-1))≤(p6.2.1:Int))))then
 some (.inl (p6.1,(Int.toNat ((IntKind.wrap .i64 ((p6.2.1:Int)-1))-0)),p6.2.2.1,()))
 else none)
 else
  some (.inr (p6.1,p6.2.1,p6.2.2.1,())))
 else none)
 else
  some (.inr (p6.1,p6.2.1,p6.2.2.1,())))
def qbY:Stp (Nat×Int×Int×(List T)×Unit):=fun p11=>(bif(decide (p11.2.1<p11.2.2.1))then
 (bif((true&&(decide (0≤p11.2.2.1)))&&(decide (p11.2.2.1<(p11.1:Int))))then
 ((p11.2.2.2.1)[(0+p11.2.2.1.toNat)]?).bind fun x12=>
 (ldT x12 0 false 1).bind fun x13=>
 (asI .u8 (.t x13)).bind fun x14=>
 (bif((true&&(decide (0≤p11.2.1)))&&(decide (p11.2.1<(p11.1:Int))))then
 ((p11.2.2.2.1)[(0+p11.2.1.toNat)]?).bind fun x15=>
 (ldT x15 0 false 1).bind fun x16=>
 (asI .u8 (.t x16)).bind fun x17=>
 (bif((true&&(decide (0≤p11.2.1)))&&(decide (p11.2.1<(p11.1:Int))))then
 (bif((true&&(decide (0≤p11.2.2.1)))&&(decide (p11.2.2.1<(p11.1:Int))))then
 ((p11.2.2.2.1)[(0+p11.2.1.toNat)]?).bind fun x18=>
 (asI .u8 (.t x18)).bind fun x19=>
 ((List.set p11.2.2.2.1 (0+p11.2.1.toNat) (T.s (.int .u8 x14)))[(0+p11.2.2.1.toNat)]?).bind fun x20=>
 (asI .u8 (.t x20)).bind fun x21=>
 some (.inl (p11.1,(IntKind.wrap .i64 (p11.2.1+1)),(IntKind.wrap .i64 (p11.2.2.1-1)),(List.set (List.set p11.2.2.2.1 (0+p11.2.1.toNat) (T.s (.int .u8 x14))) (0+p11.2.2.1.toNat) (T.s (.int .u8 x17))),()))
 else none)
 else none)
 else none)
 else none)
 else
  some (.inr (p11.1,p11.2.1,p11.2.2.1,p11.2.2.2.1,())))
def ql9  (fu:Nat)(a:(List Int)):Option ByteArray :=
 (itP fu (qbW fu) ((ofN (qd a)),0,[],())).bind fun x5=>
 (itP fu (qbX) (x5.1,x5.2.1,x5.2.2.1,())).bind fun x10=>
 (bif(decide ((x10.2.1:Int)=0))then
 some (ByteArray.mk (List.toArray [48]))
 else
  (itP fu (qbY) (x10.2.1,(0:Int),(IntKind.wrap .i64 ((x10.2.1:Int)-1)),x10.2.2.1,())).bind fun x22=>
  (Su.sub x22.2.2.2.1 0 x10.2.1).bind fun x23=>
  (ZI x23).bind fun x24=>
  (bif(Nat.ble x24.length 549755813888)then
  some (byI x24)
 else none))
def eb(c:UInt8):T:=T.s (.int .u8 ((c.toNat:Nat):Int))
theorem qma(c:UInt8):asI .u8 (.t (eb c))=some ((c.toNat:Nat):Int):=by simp[asI,eb]
theorem qqq(c:UInt8):ldT (eb c) 0 false 1=some (eb c):=rfl
theorem qqr:∀l:List UInt8,ZI (l.map eb)=some (l.map fun c=>((c.toNat:Nat):Int))
 | []=>rfl
 | c::l=>by
  simp only[KD,ZI,qma,zk,qqr l]
theorem qwj(l:List UInt8):byI (l.map fun c=>((c.toNat:Nat):Int))=bs l:=by
 rw[qvP,List.map_map]
 congr 1
 conv=>rhs;rw[← List.map_id l]
 apply List.map_congr_left
 intro c _;show UInt8.ofNat (Int.toNat ((c.toNat:Nat):Int))=c
 rw[zn,UInt8.ofNat_toNat]
def le:Nat→Nat→List UInt8
 | 0,_=>[]
 | k+1,n=>UInt8.ofNat (48+n % 10)::le k (n / 10)
theorem qkG:∀k n,(le k n).length=k
 | 0,_=>rfl
 | k+1,n=>by unfold le;rw[zm,qkG k]
theorem qtx(k n:Nat):le (k+1) n=UInt8.ofNat (48+n % 10)::le k (n / 10):=rfl
theorem qqs:∀(j k n:Nat),le (j+k) n=le j n++le k (n / 10^j)
 | 0,k,n=>by simp[le]
 | j+1,k,n=>by
  rw[show j+1+k=j+k+1 by omega,qtx,qtx,qqs j k (n / 10),Kl,z7,zI 10];rfl
theorem qnC(c:UInt8):yv c []=[]:=rfl
theorem qbc(c x:UInt8):∀(l:List UInt8),yv c (x::l)=if yv c l=[]then(if x == c then[]else[x])else x::yv c l:=by
 intro l;obtain⟨r,hr⟩:∃r,r=l.length:=⟨_,rfl⟩
 induction r generalizing l with
 | zero=>
  have:l=[]:=KM.1 hr.symm
  subst this;have:=Qw c x []
  rw[zx]at this;rw[this,qnC,zZ rfl];cases x == c <;> rfl
 | succ r ih=>
  rcases WG l with h0 | ⟨A,y,h0⟩
  · rw[h0]at hr;cases hr
  · rw[WB]at h0
    subst h0;rw[← zA,Qw,Qw];cases hy:y == c with
    | true=>rw[zd,zd];exact ih A (by simp at hr;omega)
    | false=>rw[zo,zo,zP (by simp)];rfl
theorem qcH:∀k,yv 48 (le k 0)=[]
 | 0=>rfl
 | k+1=>by
  unfold le;rw[qbc,qcH k,zZ rfl];rfl
theorem d48{n:Nat}(h0:n≠0)(h:n<10):(UInt8.ofNat (48+n % 10) == 48)=false:=by
 have:(UInt8.ofNat (48+n % 10)).toNat=48+n % 10:=qhu (by omega)
 have ne:UInt8.ofNat (48+n % 10)≠48:=fun e=>by
  rw[e]at this;have e48:(48:UInt8).toNat=48:=rfl
  omega
 simpa using ne
theorem qmb:∀(k n:Nat),n≠0→n<10^k→(yv 48 (le k n)).reverse=dg n
 | 0,n,h0,h=>by rw[Vc]at h;omega
 | k+1,n,h0,h=>by
  unfold le;rw[qbc];by_cases h1:n<10
  · rw[show n / 10=0 by omega,qcH,zZ rfl,d48 h0 h1,qbO h1,show n % 10=n by omega];rfl
  · have ih:=qmb k (n / 10) (by omega) (by rw[z7]at h;omega)
    have hne:yv 48 (le k (n / 10))≠[]:=fun e=>by
     rw[e]at ih;exact quv _ ih.symm
    rw[zP hne,List.reverse_cons,ih,← qeM (by omega)]
theorem qqt:∀(k n:Nat),le k (n % 10^k)=le k n
 | 0,_=>rfl
 | k+1,n=>by
  have e1:n % 10^(k+1) % 10=n % 10:=by
   rw[z7];exact Nat.mod_mul_left_mod ..
  have e2:n % 10^(k+1) / 10=n / 10 % 10^k:=by
   rw[z7,zI];exact Nat.mod_mul_right_div_self ..
  rw[qtx,qtx,e1,e2,qqt k (n / 10)]
theorem qdK{α β:Type}{f:α→Option (α ⊕ β)}:∀ {n:Nat} {s:α} {y:β},itP n f s=some y→∀ {m:Nat},n≤m→itP m f s=some y
 | 0,s,y,h,m,_=>by cases h
 | n+1,s,y,h,m,hm=>by
  obtain⟨m',rfl⟩:∃m',m=m'+1:=⟨m-1,by omega⟩
  rw[jS]at h ⊢;cases hf:f s with
  | none=>rw[hf]at h;cases h
  | some r=>
   rw[hf]at h;cases r with
   | inl s'=>exact qdK (n:=n) h (by omega)
   | inr r=>exact h
theorem qnD(c:UInt8)(l:List UInt8):∃Y,l=yv c l++Y:=by
 refine⟨(l.reverse.takeWhile (· == c)).reverse,?_⟩
 unfold yv;rw[← List.reverse_append,List.takeWhile_append_dropWhile,List.reverse_reverse]
theorem quE(q:List Int):∀(d i x:Nat) (R:List UInt8),i+d=9→x<18446744073709551616→R.length+d≤500000 →
 ∃y:Int,∀m,d+1≤m→itP m Z9 (q,R.length,(x:Int),(i:Int),R.map eb,())=some (q,(R++le d x).length,y,(9:Int),(R++le d x).map eb,())
 | 0,i,x,R,hi,_,_=>by
  have:i=9:=by omega
  subst this;refine⟨(x:Int),fun m hm=>?_⟩
  obtain⟨m',rfl⟩:∃m',m=m'+1:=⟨m-1,by omega⟩
  rw[jS];have d0:decide (((9:Nat):Int)<9)=false:=by decide
  simp only[Z9,d0,zo,le,Kh];rfl
 | d+1,i,x,R,hi,hx,hR=>by
  have d0:decide ((i:Int)<9)=true:=zf (by omega)
  have w1:IntKind.u64.wrap (48+((x % 10:Nat):Int))=((48+x % 10:Nat):Int):=by rw[yj (n:=48+((x % 10:Nat):Int)) (by omega) (by omega)];omega
  have w2:IntKind.u8.wrap ((48+x % 10:Nat):Int)=(((UInt8.ofNat (48+x % 10)).toNat:Nat):Int):=by
   rw[qhu (by omega)];exact qat (by unfold inR;simp;exact⟨by show(0:Int)≤_;omega,by show _≤(255:Int);omega⟩)
  have w3:IntKind.u64.wrap ((x / 10:Nat):Int)=((x / 10:Nat):Int):=yj (by omega) (by omega)
  have w4:IntKind.i64.wrap ((i:Int)+1)=((i+1:Nat):Int):=by rw[w64 (n:=(i:Int)+1) (by omega) (by omega)];omega
  have em:R.map eb++[T.s (.int .u8 (((UInt8.ofNat (48+x % 10)).toNat:Nat):Int))]=(R++[UInt8.ofNat (48+x % 10)]).map eb:=by rw[Kt];rfl
  have lm:(R.map eb).length=R.length:=zR ..
  have lm2:((R++[UInt8.ofNat (48+x % 10)]).map eb).length=(R++[UInt8.ofNat (48+x % 10)]).length:=zR ..
  have hb:Nat.ble (R.length+1) 549755813888=true:=zK (by omega)
  have hq:=Vi R.length;obtain⟨y,h⟩:=quE q d (i+1) (x / 10) (R++[UInt8.ofNat (48+x % 10)]) (by omega) (by omega) (by simp;omega)
  refine⟨y,fun m hm=>?_⟩
  obtain⟨m',rfl⟩:∃m',m=m'+1:=⟨m-1,by omega⟩
  have h:=h m' (by omega)
  rw[jS];have ea:R++le (d+1) x=R++[UInt8.ofNat (48+x % 10)]++le d (x / 10):=by rw[zG];rfl
  rw[ea];simp only[Z9,d0,tmN,tdN,w1,w2,w3,w4,em,lm,lm2,Wf,hq,hb,Vf,Kq,zd];exact h
theorem At_0{r:Nat}(h:r<4294967296):At (ofN r) 0=some (r:Int):=by
 have hw:=qeO r;have a0:=QP hw 0
 obtain⟨p1,p2⟩:=ym hw 0
 have v0:=YW (ofN r) 0
 rw[Vk,valN_ofN]at v0;have:nth (ofN r) 0=(r:Int):=by omega
 rw[this]at a0;exact a0
theorem qmc{V:Nat}(h:V≠0):0<(ofN V).length:=by rw[qbQ h];simp
theorem qqu:∀(k V:Nat) (R:List UInt8),V<10^(9*k)→R.length+9*k≤400000 →
 ∃g,g≤k∧V<10^(9*g)∧∀fu m,10≤fu→k+1≤m→itP m (qbW fu) (ofN V,R.length,R.map eb,())=some (ofN 0,(R++le (9*g) V).length,(R++le (9*g) V).map eb,())
 | k,V,R,hV,hR=>by
  by_cases h0:V=0
  · subst h0
    refine⟨0,by omega,by decide,fun fu m _ hm=>?_⟩
    obtain⟨m',rfl⟩:∃m',m=m'+1:=⟨m-1,by omega⟩
    rw[jS];have d0:decide ((0:Int)<(((ofN 0).length:Nat):Int))=false:=by decide
    simp only[qbW,d0,zo,Vz,le,Kh];rfl
  · cases k with
    | zero=>rw[Vz,Vc]at hV;omega
    | succ k=>
     have e9:10^(9*(k+1))=10^(9*k)*10^9:=by rw[← zS];rfl
     have hq:V / 10^9<10^(9*k):=VP (by rw[zI,← e9];exact hV)
     obtain⟨g,g1,g2,g3⟩:=qqu k (V / 10^9) (R++le 9 (V % 10^9)) hq (by rw[zg,qkG];omega)
     obtain⟨y,hin⟩:=quE (ofN (V / 10^9)) 9 0 (V % 10^9) R rfl (by have:=Va V (show 0<10^9 by decide);omega) (by omega)
     have eg:le (9*(g+1)) V=le 9 (V % 10^9)++le (9*g) (V / 10^9):=by
      rw[show 9*(g+1)=9+9*g by omega,qqs,qqt]
     refine⟨g+1,by omega,?_,fun fu m hf hm=>?_⟩
     · have e9:10^(9*(g+1))=10^(9*g)*10^9:=by rw[← zS];rfl
       rw[e9];exact(KB (by decide)).1 g2
     · obtain⟨m',rfl⟩:∃m',m=m'+1:=⟨m-1,by omega⟩
       have h3:=g3 fu m' hf (by omega)
       have h4:=hin fu (by omega)
       have d0:decide ((0:Int)<(((ofN V).length:Nat):Int))=true:=zf (by have:=qmc h0;omega)
       have hb:=qnB hV;have hl:=Z7 V;have sh:Yp (ofN V,(1000000000:Int))=some (ofN (V / 10^9),ofN (V % 10^9)):=by
        unfold Yp qkD;simp only[valN_ofN];rw[zK (by omega)];rfl
       have a0:=At_0 (r:=V % 10^9) (by have:=Va V (show 0<10^9 by decide);omega)
       have h4':itP fu Z9 (ofN (V / 10^9),R.length,((V % 10^9:Nat):Int),(0:Int),R.map eb,())=_:=h4
       rw[jS,eg,← zG];simp only[qbW,d0,sh,a0,h4',zk,zd];exact h3
theorem quF(q:List Int)(X:List UInt8):∀(k:Nat) (Q:List UInt8) (Y:List UInt8),Q.length=k→k≤500000 →
 ∃n,itP n qbX (q,Q.length,(Q++Y).map eb,())=some (q,(yv 48 Q).length,(Q++Y).map eb,())
 | 0,Q,Y,h,_=>by
  have:Q=[]:=KM.1 h
  subst this;exact⟨1,rfl⟩
 | k+1,Q,Y,h,hk=>by
  rcases WG Q with h0 | ⟨A,x,h0⟩
  · rw[h0]at h;cases h
  · rw[WB]at h0
    subst h0;have hA:A.length=k:=by simpa using h
    have hw:IntKind.i64.wrap ((((A++[x]).length:Nat):Int)-1)=((k:Nat):Int):=by rw[h,w64 (by omega) (by omega)];omega
    have d0:decide ((0:Int)<(((A++[x]).length:Nat):Int))=true:=zf (by omega)
    have d1:decide ((0:Int)≤((k:Nat):Int))=true:=zf (by omega)
    have d2:decide (((k:Nat):Int)<(((A++[x]).length:Nat):Int))=true:=zf (by omega)
    have d3:decide (((k:Nat):Int)≤(((A++[x]).length:Nat):Int))=true:=zf (by omega)
    have g:((A++[x]++Y).map eb)[0+Int.toNat ((k:Nat):Int)]?=some (eb x):=by
     rw[zr,zn,Kr,zG,Kj (by omega),hA,Wm];rfl
    have e48:decide (((x.toNat:Nat):Int)=48)=(x == 48):=qql x 48
    have ek:Int.toNat (((k:Nat):Int)-0)=A.length:=by omega
    cases hx:x == 48 with
    | true=>
     obtain⟨n,h2⟩:=quF q X k A ([x]++Y) hA (by omega)
     rw[hx]at e48;refine⟨n+1,?_⟩
     rw[jS,Qw,hx,zd,zG];rw[zG]at g;simp only[qbX,hw,d0,d1,d2,d3,g,qqq,qma,e48,ek,Vf,Kq,zd,zk];exact h2
    | false=>
     rw[hx]at e48;refine⟨1,?_⟩
     rw[jS,Qw,hx,zo];simp only[qbX,hw,d0,d1,d2,g,qqq,qma,e48,Vf,Kq,zd,zo,zk]
theorem qqv(Q:List UInt8)(hQ:Q.length≤500000)(N:Nat)(hN:Q.length≤N):∀(d i j:Nat) (Z:List UInt8),i+j+1=Q.length→j+1-i≤d→Z.length=N→(∀k,k<Q.length→Z[k]?=if k<i∨j<k then Q[Q.length-1-k]? else Q[k]?) →
 ∃(n:Nat) (a b:Int) (Z':List UInt8),itP n qbY (Q.length,(i:Int),(j:Int),Z.map eb,())=some (Q.length,a,b,Z'.map eb,())∧Z'.length=N∧∀k,k<Q.length→Z'[k]?=Q[Q.length-1-k]?
 | d,i,j,Z,hij,hd,hZ,hI=>by
  by_cases hlt:i<j
  · cases d with
    | zero=>omega
    | succ d=>
     have zi:∃x,Z[i]?=some x:=⟨Z[i]'(by omega),zB _⟩
     have zj:∃y,Z[j]?=some y:=⟨Z[j]'(by omega),zB _⟩
     obtain⟨x,hx⟩:=zi;obtain⟨y,hy⟩:=zj;have d0:decide ((i:Int)<(j:Int))=true:=zf (by omega)
     have d1:decide ((0:Int)≤(j:Int))=true:=zf (by omega)
     have d2:decide ((j:Int)<((Q.length:Nat):Int))=true:=zf (by omega)
     have d3:decide ((0:Int)≤(i:Int))=true:=zf (by omega)
     have d4:decide ((i:Int)<((Q.length:Nat):Int))=true:=zf (by omega)
     have gi:(Z.map eb)[0+Int.toNat (i:Int)]?=some (eb x):=by rw[zr,zn,Kr,hx];rfl
     have gj:(Z.map eb)[0+Int.toNat (j:Int)]?=some (eb y):=by rw[zr,zn,Kr,hy];rfl
     have es:List.set (Z.map eb) (0+Int.toNat (i:Int)) (T.s (.int .u8 ((y.toNat:Nat):Int)))=(Z.set i y).map eb:=by rw[zr,zn,Wu];rfl
     have gj2:((Z.set i y).map eb)[0+Int.toNat (j:Int)]?=some (eb y):=by rw[zr,zn,Kr,Ke (by omega),hy];rfl
     have es2:List.set ((Z.set i y).map eb) (0+Int.toNat (j:Int)) (T.s (.int .u8 ((x.toNat:Nat):Int)))=((Z.set i y).set j x).map eb:=by rw[zr,zn];exact(Wu ..).symm
     have w1:IntKind.i64.wrap ((i:Int)+1)=((i+1:Nat):Int):=by rw[w64 (n:=(i:Int)+1) (by omega) (by omega)];omega
     have w2:IntKind.i64.wrap ((j:Int)-1)=((j-1:Nat):Int):=by rw[w64 (n:=(j:Int)-1) (by omega) (by omega)];omega
     have qi:Z[i]?=Q[i]?:=by rw[hI i (by omega),zP (by omega)]
     have qj:Z[j]?=Q[j]?:=by rw[hI j (by omega),zP (by omega)]
     obtain⟨n,a,b,Z',h1,h2,h3⟩:=qqv Q hQ N hN d (i+1) (j-1) ((Z.set i y).set j x) (by omega) (by omega) (by simp[hZ]) (fun k hk=>by
      by_cases k1:k=j
      · subst k1
        rw[Vh (by simp;omega),zZ (by omega),← hx,qi]
        congr 1;omega
      · rw[Ke (by omega)]
        by_cases k2:k=i
        · subst k2
          rw[Vh (by omega),zZ (by omega),← hy,qj]
          congr 1;omega
        · rw[Ke (by omega),hI k hk]
          by_cases k3:k<i∨j<k
          · rw[zZ k3,zZ (by omega)]
          · rw[zP k3,zP (by omega)])
     refine⟨n+1,a,b,Z',?_,h2,h3⟩
     rw[jS];simp only[qbY,d0,d1,d2,d3,d4,gi,gj,gj2,es,es2,qqq,qma,w1,w2,Vf,Kq,zd,zk];exact h1
  · have d0:decide ((i:Int)<(j:Int))=false:=zp (by omega)
    refine⟨1,(i:Int),(j:Int),Z,?_,hZ,fun k hk=>?_⟩
    · rw[jS]
      simp only[qbY,d0,zo];rfl
    · rw[hI k hk]
      by_cases k3:k<i∨j<k
      · rw[zZ k3]
      · rw[zP k3];congr 1;omega
theorem qqw{Q Z:List UInt8}(h:Q.length≤Z.length)(hk:∀k,k<Q.length→Z[k]?=Q[Q.length-1-k]?):Z.take Q.length=Q.reverse:=by
 refine WK fun k=>?_
 by_cases hlt:k<Q.length
 · rw[List.getElem?_take_of_lt hlt,hk k hlt,List.getElem?_reverse hlt]
 · rw[Ki (by simp;omega),Ki (by simp;omega)]
def Yq(a:List Int):Option ByteArray:=bif Nat.ble (qr (qd a)) 40000 then some (bs (dg (qd a)))else none
theorem qqx(a:List Int)(y:ByteArray)(hg:(d1 (cQ 1 1)).good a)(h:Yq a=some y):∃n,ql9 n a=some y:=by
 obtain⟨h1,h2⟩:=qI h;have:=soi h2;subst this
 have hb:=zw h1;generalize hV:qd a=V at *
 obtain⟨k,hk⟩:∃k,k=qr V / 29+1:=⟨_,rfl⟩
 have hVk:V<10^(9*k):=by
  refine Kw (y9 V) ?_
  refine KF (Ka (by omega) (show qr V≤29*k by omega)) ?_
  rw[Nat.pow_mul,Nat.pow_mul];exact Nat.pow_le_pow_left (by decide) k
 obtain⟨g,g1,g2,g3⟩:=qqu k V [] hVk (by simp;omega)
 rw[zx]at g3;have hll:=qkG (9*g) V
 obtain⟨n3,h3⟩:=quF (ofN 0) [] (9*g) (le (9*g) V) [] hll (by omega)
 rw[Kh]at h3;have trl:(yv 48 (le (9*g) V)).length≤(le (9*g) V).length:=by
  unfold yv;rw[Wq];refine KF (List.Sublist.length_le (List.dropWhile_sublist _)) ?_
  rw[Wq];exact zJ _
 by_cases h0:V=0
 · subst h0
   rw[qcH]at h3;refine⟨max 10 (max (k+1) n3),?_⟩
   unfold ql9;rw[hV];refine obs (g3 _ _ (by omega) (by omega)) ?_
   refine obs (qdK h3 (by omega)) ?_
   rfl
 · have ht:=qmb (9*g) V h0 g2
   generalize hQ:yv 48 (le (9*g) V)=Q at *
   have hQ0:0<Q.length:=by
    rw[← Wq,ht];exact List.length_pos_iff.2 (quv V)
   have hpre:∀k,k<Q.length→(le (9*g) V)[k]?=Q[k]?:=fun k hk=>by
    obtain⟨Y,hY⟩:=qnD 48 (le (9*g) V)
    rw[hQ]at hY;rw[hY,Kf hk]
   obtain⟨n4,a4,b4,Z',h4,h5,h6⟩:=qqv Q (by omega) (le (9*g) V).length (by omega) (Q.length) 0 (Q.length-1) (le (9*g) V) (by omega) (by omega) rfl (fun k hk=>by
    rw[zP (by omega)];exact hpre k hk)
   refine⟨max 10 (max (k+1) (max n3 n4)),?_⟩
   unfold ql9;rw[hV];refine obs (g3 _ _ (by omega) (by omega)) ?_
   refine obs (qdK h3 (by omega)) ?_
   have w1:IntKind.i64.wrap (((Q.length:Nat):Int)-1)=((Q.length-1:Nat):Int):=by rw[w64 (n:=((Q.length:Nat):Int)-1) (by omega) (by omega)];omega
   simp only[];rw[zp (show¬((Q.length:Nat):Int)=0 by omega),zo,w1];refine obs (qdK h4 (by omega)) ?_
   have hs:Su.sub (Z'.map eb) 0 Q.length=some (Q.reverse.map eb):=by
    unfold Su.sub;rw[zK (by simp;omega),zd,Vk,← List.map_take,qqw (by omega) h6]
   refine obs hs (obs (qqr _) ?_)
   rw[zK (by simp;omega),zd,qwj,ht]
end
end Su
end
section
namespace Su
open Go Fly
def cK(b:ByteArray):Cod Unit where
 enc _:=.s (.string b)
 dec x:=(asS (.t x)).bind fun s=>bif decide (s=b)then some ()else none
 good _:=True
 rep {x a} h V v hr:=by
  obtain⟨s,h1,h2⟩:=osm h;have:=qpc h1
  simp only[SV.t.injEq]at this;subst this;obtain⟨h3,_⟩:=qI h2;have:=KS h3;subst this
  exact hr
 de _:=by show(bif decide (b=b)then some ()else none)=_;rw[zf rfl];rfl
 rng _:=trivial
end Su
end
section
namespace Su
open Go Fly
noncomputable section
def qe1(p:Unit×Int):Option ByteArray:=bif decide (0≤p.2)&&decide (p.2≤40)then some (bs (zs p.2.toNat))else none
end
end Su
end
section
namespace Su
open Go Fly
noncomputable section
def qwk  (n:Int):Option (List Int) :=
 (qhF ((10:Int),n)).bind fun x0=>
 some x0.1
def dTr  (d:ByteArray)(q:Int):Option (ByteArray×Int) :=
 (bif(decide (d=(ByteArray.mk (List.toArray []))))then
 some (d,(IntKind.wrap .i64 ((IntKind.wrap .i64 (q+(ByteArray.size d:Int)))-(ByteArray.size d:Int))))
 else
  (qji (d,((48:Nat):Int))).bind fun x0=>
  some (x0,(IntKind.wrap .i64 ((IntKind.wrap .i64 (q+(ByteArray.size d:Int)))-(ByteArray.size x0:Int)))))
def yf(n:Int):Option (List Int):=bif decide (n≤10000)then some (ofN (10^n.toNat))else none
theorem qty(n:Int)(y:List Int)(hg:(d1 (cI .i64)).good n)(h:yf n=some y):qwk n=some y:=by
 obtain⟨h1,h2⟩:=qI h;have:=soi h2;subst this
 unfold qwk qhF;simp only[h1,WS,Kq,zd,zk]
def qbZ(p:ByteArray×Int):Option (ByteArray×Int):=bif Nat.ble (lb p.1).length 1000000&&(decide (-1000000≤p.2)&&decide (p.2≤1000000))then some (bs (yv 48 (lb p.1)),p.2+((lb p.1).length:Int)-((yv 48 (lb p.1)).length:Int))else none
theorem qgj(c:UInt8)(l:List UInt8):(yv c l).length≤l.length:=by
 unfold yv;rw[Wq];refine KF (List.Sublist.length_le (List.dropWhile_sublist _)) ?_
 rw[Wq];exact zJ _
theorem qwl(p:ByteArray×Int)(y:ByteArray×Int)(hg:(dc cS (d1 (cI .i64))).good p)(h:qbZ p=some y):dTr p.1 p.2=some y:=by
 obtain⟨d,q⟩:=p;revert h;refine onB (P:=fun d=>qbZ (d,q)=some y→dTr d q=some y) (fun l h=>?_) d
 obtain⟨h1,h2⟩:=qI h;have:=soi h2;subst this
 simp only[qgd,zh,zM]at h1 ⊢;have hl:=zw h1.1;have ht:=qgj 48 l
 unfold dTr;rw[qi2,qvQ];have w1:IntKind.i64.wrap (q+((l.length:Nat):Int))=q+((l.length:Nat):Int):=w64 (by omega) (by omega)
 by_cases h0:l=[]
 · subst h0
   rw[zf rfl,zd,jO,w1,w64 (by omega) (by omega)];rfl
 · rw[zp h0,zo]
   have r:qji (bs l,48)=some (bs (yv 48 l)):=by
    unfold qji;simp only[qgd];rw[zK (by omega)];rfl
   refine obs r ?_
   rw[jO,jO,w1,w64 (by omega) (by omega)]
end
end Su
end
section
namespace Su
noncomputable section
open Go Fly
def p75L:{n:Nat // n=2^1075}:=Classical.choice ⟨⟨_,rfl⟩⟩
def P75:Nat:=p75L.1
theorem qqy:P75=2^1075:=p75L.2
theorem qe2(k:Nat):kV (k+1)=kV k+2^kE k:=by
 obtain⟨q,w,rfl,hw,h⟩:=qiS k;rw[quu hw h];have h1:=qga (q:=q) (w:=w) (by omega) h
 have h2:=qga (q:=q) (w:=w+1) (by omega) (by rcases h with h | h <;> omega)
 rw[← Kp]at h2;rw[h1,h2,zV,KO]
def js(k:Nat):Nat:=kV k+kV (k+1)
theorem qmd(k:Nat):js k=(2*kM k+1)*2^kE k:=by
 unfold js;rw[qe2];unfold kV;rw[zV,KO,zy];omega
theorem qme{i j:Nat}(h:i<j):js i<2*kV j:=by
 have h1:=qpt h;have h2:=qlG (show i+1≤j by omega)
 unfold js;omega
theorem qmf{i j:Nat}(h:j≤i):2*kV j<js i:=by
 have h1:=qlG h;have h2:=qpt (show i<i+1 by omega)
 unfold js;omega
theorem qtz(k:Nat):kE k≤kE (k+1):=by unfold kE;omega
def Nr(N D k:Nat):Prop :=
 (k=0∨D*js (k-1)<N*P75∨D*js (k-1)=N*P75∧k % 2=0)∧(k≤yk→N*P75<D*js k∨N*P75=D*js k∧k % 2=0)∧k≤yk+1
theorem qtA{N D N' D' k k':Nat}(h:Nr N D k)(h':Nr N' D' k')(e:N*D'=N'*D)(hD:0<D)(hD':0<D'):k=k':=by
 have key:∀ {N D N' D' k k':Nat},Nr N D k→Nr N' D' k'→N*D'=N'*D→0<D→0<D'→¬k<k':=by
  intro N D N' D' k k' h h' e hD hD' hlt;obtain⟨_,h2,_⟩:=h;obtain⟨h1,_,h3⟩:=h';have h2:=h2 (by omega)
  have hm:js k≤js (k'-1):=by
   have a:=qlG (show k≤k'-1 by omega)
   have b:=qlG (show k+1≤k'-1+1 by omega)
   unfold js;omega
  have u1:N*P75≤D*js k:=by rcases h2 with h | h <;> omega
  have u2:D'*js (k'-1)≤N'*P75:=by rcases h1 with h | h | h <;> omega
  have v1:D'*(N*P75)≤D'*(D*js k):=zX _ u1
  have v2:D*(D'*js (k'-1))≤D*(N'*P75):=zX _ u2
  have e1:D'*(N*P75)=D*(N'*P75):=by
   rw[← zy,← zy,zI D' N,e,zI N' D]
  have e2:D'*(D*js k)=D*(D'*js k):=KJ ..
  have v3:D*(D'*js k)≤D*(D'*js (k'-1)):=zX _ (zX _ hm)
  have q1:D'*(N*P75)=D'*(D*js k):=by omega
  have q2:D*(D'*js (k'-1))=D*(N'*P75):=by omega
  have q3:D*(D'*js k)=D*(D'*js (k'-1)):=by omega
  have r1:N*P75=D*js k:=Vw hD' q1
  have r2:D'*js (k'-1)=N'*P75:=Vw hD q2
  have r3:js k=js (k'-1):=Vw hD' (Vw hD q3)
  have p1:k % 2=0:=by rcases h2 with h | h <;> omega
  have p2:k' % 2=0:=by rcases h1 with h | h | h <;> omega
  have hk:k=k'-1:=by
   rcases VA k (k'-1)with hl | hl
   · have a:=qme hl
     have b:=qmf (zJ (k'-1))
     omega
   · omega
  omega
 rcases WJ k k' with hl | hl | hl
 · exact absurd hl (key h h' e hD hD')
 · exact hl
 · exact absurd hl (key h' h e.symm hD' hD)
theorem arr5(B x S:Nat):B*(2*x*S)=B*(x*S)*2:=by rw[zy 2,KJ B 2,zI 2]
theorem qqz{a b:Nat}(h:yZ a b = -1):a<b:=by
 unfold yZ at h;by_cases h1:a<b
 · exact h1
 · rw[zP h1]at h
   split at h <;> exact absurd h (by decide)
theorem qjl{a b:Nat}(h:yZ a b=0):a=b:=by
 unfold yZ at h;by_cases h1:a<b
 · rw[zZ h1]at h;exact absurd h (by decide)
 · rw[zP h1]at h
   by_cases h2:a=b
   · exact h2
   · rw[zP h2]at h;exact absurd h (by decide)
theorem qtB{a b:Nat}(h:yZ a b=1):b<a:=by
 unfold yZ at h;by_cases h1:a<b
 · rw[zZ h1]at h;exact absurd h (by decide)
 · rw[zP h1]at h
   by_cases h2:a=b
   · rw[zZ h2]at h;exact absurd h (by decide)
   · omega
theorem qtC{A B M E:Nat}{rest:Bool}(hB:0<B)(hM:M=A / B)(hr:rest=true↔A % B≠0)(h54:54≤qr M){k:Nat}(hk:k=RN false 0 M E rest) :
 (k=0∨B*(js (k-1)*2^SH)<A*2^(E+1)∨B*(js (k-1)*2^SH)=A*2^(E+1)∧k % 2=0)∧(k≤yk→A*2^(E+1)<B*(js k*2^SH)∨A*2^(E+1)=B*(js k*2^SH)∧k % 2=0)∧k≤yk+1:=by
 have hM0:M≠0:=fun e=>by rw[e]at h54;exact absurd h54 (by decide)
 have hA:A=B*M+A % B:=by rw[hM];exact(K8 A B).symm
 have hA2:A % B<B:=Va _ hB
 have hSH:=qpv;obtain⟨f,hf⟩:∃f,f=Q8 M E:=⟨_,rfl⟩
 have f1:=qpw (E:=E) hM0
 have f2:=qpx (E:=E) hM0
 have cm:=qs4 (E:=E) hM0
 have hkE:kE f=qN M E:=by rw[hf];exact qiT hM0
 rw[← hf]at f1 f2 cm
 -- the grid: E is far below
 have hE:E+1≤kE f+SH:=by rw[hkE];unfold qN;omega
 obtain⟨d,hd⟩:∃d,kE f+(SH-1)=E+d:=⟨kE f+(SH-1)-E,by omega⟩
 have mid_e:js f*2^SH=(2*kM f+1)*2^(kE f+(SH-1))*2:=by
  rw[qmd,zy,zy,← zS,← z7]
  congr 2;omega
 have mid_d:(2*kM f+1)*2^(kE f+(SH-1))=(2*kM f+1)*2^d*2^E:=by
  rw[hd,zS,zI (2^E),zy]
 have pE:=zQ E;have pS:=zQ SH;have hpow:A*2^(E+1)=A*2^E*2:=by rw[z7,zy]
 -- what comes of a strict bound on M
 have below:∀Z:Nat,M*2^E<Z*2^E→A*2^E<B*(Z*2^E):=fun Z h=>by
  have h1:M<Z:=VD h
  have h2:A<B*Z:=by
   have:B*(M+1)≤B*Z:=zX _ h1
   rw[Ky,KW]at this;omega
  rw[← zy];exact z6 h2 pE
 have above:∀Y:Nat,Y<M*2^E→B*Y<A*2^E:=fun Y h=>by
  have h1:B*Y<B*(M*2^E):=Wb h hB
  have h2:B*(M*2^E)≤A*2^E:=by rw[← zy];exact zF _ (by omega)
  omega
 have aboveE:∀Y:Nat,Y≤M*2^E→B*Y≤A*2^E:=fun Y h=>by
  have h1:B*Y≤B*(M*2^E):=zX _ h
  have h2:B*(M*2^E)≤A*2^E:=by rw[← zy];exact zF _ (by omega)
  omega
 have next:A*2^E<B*(kV (f+1)*2^SH):=by
  have e:kV (f+1)*2^SH=kM f*2^d*2*2^E+2^d*2*2^E:=by
   have g:2^kE f*2^SH=2^d*2*2^E:=by
    rw[← zS,← z7,← zS];congr 1;omega
   rw[qe2,zV,g];unfold kV;rw[zy (kM f),g,zy (kM f*2^d),zy (kM f),zy (2^d)]
  rw[e,← zV]at f2 ⊢;exact below _ f2
 -- below the middle before f
 have lo_of:∀j,j<f→B*(js j*2^SH)<A*2^(E+1):=fun j hj=>by
  have h1:=qme hj;have h2:js j*2^SH<2*kV f*2^SH:=z6 h1 pS
  have h3:=aboveE _ f1;have h4:B*(js j*2^SH)<B*(2*kV f*2^SH):=Wb h2 hB
  rw[arr5]at h4;rw[hpow];omega
 have lof:f=0∨B*(js (f-1)*2^SH)<A*2^(E+1):=by
  rcases Nat.eq_zero_or_pos f with h0 | h0
  · exact .inl h0
  · exact .inr (lo_of _ (by omega))
 -- the next one
 have hif:A*2^(E+1)<B*(js (f+1)*2^SH):=by
  have h1:=qmf (zJ (f+1))
  have h2:2*kV (f+1)*2^SH<js (f+1)*2^SH:=z6 h1 pS
  have h4:B*(2*kV (f+1)*2^SH)<B*(js (f+1)*2^SH):=Wb h2 hB
  rw[arr5]at h4;rw[hpow];omega
 have par:f % 2=yt M E % 2:=by rw[hf];unfold Q8;omega
 have top_odd:yk % 2=1:=by decide
 have hk2:k=qnl false (f+(upN false 0 (yt M E % 2 == 1) (hfN M E) (rest||rsN M E)).toNat):=by
  rw[hk,hf];unfold RN;rw[qcE hM0,zo,show sgN false=0 from rfl,zr];rfl
 have hup:upN false 0 (yt M E % 2 == 1) (hfN M E) (rest||rsN M E)=(hfN M E&&((rest||rsN M E)||(yt M E % 2 == 1))):=rfl
 rw[hup]at hk2;have big:f > yk→k=yk+1→(k=0∨B*(js (k-1)*2^SH)<A*2^(E+1)∨B*(js (k-1)*2^SH)=A*2^(E+1)∧k % 2=0)∧(k≤yk→A*2^(E+1)<B*(js k*2^SH)∨A*2^(E+1)=B*(js k*2^SH)∧k % 2=0)∧k≤yk+1:=fun h e=>by
  refine⟨.inr (.inl ?_),fun h=>by omega,by omega⟩
  rw[e,Vr];exact lo_of _ h
 have fin:∀j,qnl false j=if j≤yk then j else yk+1:=fun j=>by
  unfold qnl;by_cases h:j≤yk
  · rw[zK h,zZ h];rfl
  · have:Nat.ble j yk=false:=by
     cases hb:Nat.ble j yk with
     | false=>rfl
     | true=>exact absurd (zw hb) h
    rw[this,zP h];rfl
 rw[fin]at hk2;have stay:(hi:A*2^(E+1)<B*(js f*2^SH)∨A*2^(E+1)=B*(js f*2^SH)∧f % 2=0)→k=(if f≤yk then f else yk+1)→(k=0∨B*(js (k-1)*2^SH)<A*2^(E+1)∨B*(js (k-1)*2^SH)=A*2^(E+1)∧k % 2=0)∧(k≤yk→A*2^(E+1)<B*(js k*2^SH)∨A*2^(E+1)=B*(js k*2^SH)∧k % 2=0)∧k≤yk+1:=fun hi e=>by
  by_cases h:f≤yk
  · rw[zZ h]at e
    subst e;exact⟨lof.imp id .inl,fun _=>hi,by omega⟩
  · rw[zP h]at e
    exact big (by omega) e
 have go:(lo:B*(js f*2^SH)<A*2^(E+1)∨B*(js f*2^SH)=A*2^(E+1)∧(f+1) % 2=0)→k=(if f+1≤yk then f+1 else yk+1)→(k=0∨B*(js (k-1)*2^SH)<A*2^(E+1)∨B*(js (k-1)*2^SH)=A*2^(E+1)∧k % 2=0)∧(k≤yk→A*2^(E+1)<B*(js k*2^SH)∨A*2^(E+1)=B*(js k*2^SH)∧k % 2=0)∧k≤yk+1:=fun lo e=>by
  by_cases h:f≤yk
  · have e2:k=f+1:=by
     by_cases h1:f+1≤yk
     · rw[zZ h1]at e;exact e
     · rw[zP h1]at e;omega
    refine⟨.inr ?_,fun _=>.inl ?_,by omega⟩
    · rw[e2,Vr];exact lo
    · rw[e2];exact hif
  · exact big (by omega) (by rw[e,zP (by omega)])
 cases hh:hfN M E with
 | false=>
  rw[hh,Bool.false_and]at hk2;rw[hh,zP (by decide)]at cm;have hlt:=qqz cm;refine stay (.inl ?_) hk2
  rw[mid_d]at hlt;have:=below _ hlt
  rw[← mid_d]at this;rw[mid_e,hpow,← zy];omega
 | true=>
  rw[hh,Vf]at hk2;rw[hh,zZ rfl]at cm;cases hs:rest||rsN M E with
  | true=>
   rw[hs,Bool.true_or]at hk2;refine go (.inl ?_) hk2
   have hgt:B*((2*kM f+1)*2^(kE f+(SH-1)))<A*2^E:=by
    cases hr2:rsN M E with
    | true=>
     rw[hr2,zZ rfl]at cm;exact above _ (qtB cm)
    | false=>
     rw[hr2,zP (by decide)]at cm;rw[hr2,Bool.or_false]at hs;have hx:=hr.1 hs;have heq:=qjl cm;rw[← heq,← zy];exact z6 (by omega) pE
   rw[mid_e,hpow,← zy];omega
  | false=>
   rw[hs,WO]at hk2;rw[Bool.or_eq_false_iff]at hs;rw[hs.2,zP (by decide)]at cm;have heq:=qjl cm;have h0:A % B=0:=by
    by_cases h:A % B=0
    · exact h
    · rw[hr.2 h]at hs;exact absurd hs.1 (by decide)
   have hAM:A=B*M:=by omega
   have e:B*(js f*2^SH)=A*2^(E+1):=by
    rw[mid_e,hpow,hAM,zy B M,heq,← zy B]
   cases ho:yt M E % 2 == 1 with
   | true=>
    rw[ho]at hk2;have:yt M E % 2=1:=by simpa using ho
    exact go (.inr ⟨e,by omega⟩) hk2
   | false=>
    rw[ho]at hk2;have:yt M E % 2≠1:=by simpa using ho
    exact stay (.inr ⟨e.symm,by omega⟩) hk2
end
end Su
end
