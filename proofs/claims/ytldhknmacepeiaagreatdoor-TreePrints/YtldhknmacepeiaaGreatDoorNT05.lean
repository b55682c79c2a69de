/-
  What functions compute.
-/
import Derived.Test.YtldhknmacepeiaaGreatDoorNC10
set_option linter.unusedVariables false
set_option linter.unusedSimpArgs false
set_option maxRecDepth 10000
section
namespace Su
open Go Fly
noncomputable section
theorem qyQ{x:Nat}(h:x<18446744073709551616):ofN (qk [IntKind.u32.wrap (x:Int),IntKind.u32.wrap (Int.fdiv (x:Int) (2^32))])=ofN x:=by
 have e1:IntKind.u32.wrap (x:Int)=((x % 4294967296:Nat):Int):=by rw[wrap_u32];omega
 have e2:IntKind.u32.wrap (Int.fdiv (x:Int) (2^32))=((x / 4294967296:Nat):Int):=by
  rw[Zu,show x / 2^32=x / 4294967296 from rfl];exact qjj (by omega) (by omega)
 rw[e1,e2]
 congr 1
 simp only[qk,zn];omega
theorem qof{v k:Nat}(h:v<10^k):qu v≤4*k+1:=KF (qaE (Wg h)) (Yk k)
end
end Su
end
section
namespace Su
open Go Fly
noncomputable section
def qad:Stp ((List Int)×Nat×Int×Int×(List T)×Unit):=fun p3=>(bif(decide (p3.2.2.2.1<9))then
 (bif((true&&(Nat.beq p3.2.1 p3.2.2.2.2.1.length))&&(Nat.ble (p3.2.2.2.2.1.length+(List.length [(T.s (.int .u8 (IntKind.wrap .u8 (IntKind.wrap .u64 (48+(Int.tmod p3.2.2.1 10))))))])) 549755813888))then
 some (.inl (p3.1,(List.length (p3.2.2.2.2.1++[(T.s (.int .u8 (IntKind.wrap .u8 (IntKind.wrap .u64 (48+(Int.tmod p3.2.2.1 10))))))])),(IntKind.wrap .u64 (Int.tdiv p3.2.2.1 10)),(IntKind.wrap .i64 (p3.2.2.2.1+1)),(p3.2.2.2.2.1++[(T.s (.int .u8 (IntKind.wrap .u8 (IntKind.wrap .u64 (48+(Int.tmod p3.2.2.1 10))))))]),()))
 else none)
 else
  some (.inr (p3.1,p3.2.1,p3.2.2.1,p3.2.2.2.1,p3.2.2.2.2.1,())))
def qca(fu:Nat):Stp ((List Int)×Nat×(List T)×Unit):=fun p0=>(bif(decide (0<(List.length p0.1:Int)))then
 (YB (p0.1,(1000000000:Int))).bind fun x1=>
 (At x1.2 0).bind fun x2=>
 (itP fu (qad) (x1.1,p0.2.1,x2,(0:Int),p0.2.2.1,())).bind fun x4=>
 some (.inl (x4.1,x4.2.1,x4.2.2.2.2.1,()))
 else
  some (.inr (p0.1,p0.2.1,p0.2.2.1,())))
def qcb:Stp ((List Int)×Nat×(List T)×Unit):=fun p6=>(bif(decide (0<(p6.2.1:Int)))then
 (bif((true&&(decide (0≤(IntKind.wrap .i64 ((p6.2.1:Int)-1)))))&&(decide ((IntKind.wrap .i64 ((p6.2.1:Int)-1))<(p6.2.1:Int))))then
 ((p6.2.2.1)[(0+(Int.toNat (IntKind.wrap .i64 ((p6.2.1:Int)-1))))]?).bind fun x7=>
 (ldT x7 0 false 1).bind fun x8=>
 (asI .u8 (.t x8)).bind fun x9=>
 (bif(decide (x9=48))then
 (bif((true&&(decide (0≤(IntKind.wrap .i64 ((p6.2.1:Int)-1)))))&&(decide ((IntKind.wrap .i64 ((p6.2.1:Int)-1))≤(p6.2.1:Int))))then
 some (.inl (p6.1,(Int.toNat ((IntKind.wrap .i64 ((p6.2.1:Int)-1))-0)),p6.2.2.1,()))
 else none)
 else
  some (.inr (p6.1,p6.2.1,p6.2.2.1,())))
 else none)
 else
  some (.inr (p6.1,p6.2.1,p6.2.2.1,())))
def qcc:Stp (Nat×Int×Int×(List T)×Unit):=fun p11=>(bif(decide (p11.2.1<p11.2.2.1))then
 (bif((true&&(decide (0≤p11.2.2.1)))&&(decide (p11.2.2.1<(p11.1:Int))))then
 ((p11.2.2.2.1)[(0+p11.2.2.1.toNat)]?).bind fun x12=>
 (ldT x12 0 false 1).bind fun x13=>
 (asI .u8 (.t x13)).bind fun x14=>
 (bif((true&&(decide (0≤p11.2.1)))&&(decide (p11.2.1<(p11.1:Int))))then
 ((p11.2.2.2.1)[(0+p11.2.1.toNat)]?).bind fun x15=>
 (ldT x15 0 false 1).bind fun x16=>
 (asI .u8 (.t x16)).bind fun x17=>
 (bif((true&&(decide (0≤p11.2.1)))&&(decide (p11.2.1<(p11.1:Int))))then
 (bif((true&&(decide (0≤p11.2.2.1)))&&(decide (p11.2.2.1<(p11.1:Int))))then
 ((p11.2.2.2.1)[(0+p11.2.1.toNat)]?).bind fun x18=>
 (asI .u8 (.t x18)).bind fun x19=>
 ((List.set p11.2.2.2.1 (0+p11.2.1.toNat) (T.s (.int .u8 x14)))[(0+p11.2.2.1.toNat)]?).bind fun x20=>
 (asI .u8 (.t x20)).bind fun x21=>
 some (.inl (p11.1,(IntKind.wrap .i64 (p11.2.1+1)),(IntKind.wrap .i64 (p11.2.2.1-1)),(List.set (List.set p11.2.2.2.1 (0+p11.2.1.toNat) (T.s (.int .u8 x14))) (0+p11.2.2.1.toNat) (T.s (.int .u8 x17))),()))
 else none)
 else none)
 else none)
 else none)
 else
  some (.inr (p11.1,p11.2.1,p11.2.2.1,p11.2.2.2.1,())))
def qmH  (fu:Nat)(a:(List Int)):Option ByteArray :=
 (itP fu (qca fu) ((ofN (qk a)),0,[],())).bind fun x5=>
 (itP fu (qcb) (x5.1,x5.2.1,x5.2.2.1,())).bind fun x10=>
 (bif(decide ((x10.2.1:Int)=0))then
 some (ByteArray.mk (List.toArray [48]))
 else
  (itP fu (qcc) (x10.2.1,(0:Int),(IntKind.wrap .i64 ((x10.2.1:Int)-1)),x10.2.2.1,())).bind fun x22=>
  (Su.sub x22.2.2.2.1 0 x10.2.1).bind fun x23=>
  (ZM x23).bind fun x24=>
  (bif(Nat.ble x24.length 549755813888)then
  some (byI x24)
 else none))
def eb(c:UInt8):T:=T.s (.int .u8 ((c.toNat:Nat):Int))
theorem qmI(c:UInt8):asI .u8 (.t (eb c))=some ((c.toNat:Nat):Int):=by simp[asI,eb]
theorem qq5(c:UInt8):ldT (eb c) 0 false 1=some (eb c):=rfl
theorem qq6:∀l:List UInt8,ZM (l.map eb)=some (l.map fun c=>((c.toNat:Nat):Int))
 | []=>rfl
 | c::l=>by
  simp only[KH,ZM,qmI,zm,qq6 l]
theorem qxp(l:List UInt8):byI (l.map fun c=>((c.toNat:Nat):Int))=bs l:=by
 rw[qwQ,List.map_map]
 congr 1
 conv=>rhs;rw[← List.map_id l]
 apply List.map_congr_left
 intro c _;show UInt8.ofNat (Int.toNat ((c.toNat:Nat):Int))=c
 rw[zn,UInt8.ofNat_toNat]
def le:Nat→Nat→List UInt8
 | 0,_=>[]
 | k+1,n=>UInt8.ofNat (48+n % 10)::le k (n / 10)
theorem qld:∀k n,(le k n).length=k
 | 0,_=>rfl
 | k+1,n=>by unfold le;rw[zf,qld k]
theorem qun(k n:Nat):le (k+1) n=UInt8.ofNat (48+n % 10)::le k (n / 10):=rfl
theorem qq7:∀(j k n:Nat),le (j+k) n=le j n++le k (n / 10^j)
 | 0,k,n=>by simp[le]
 | j+1,k,n=>by
  rw[show j+1+k=j+k+1 by omega,qun,qun,qq7 j k (n / 10),Kq,Ke,zL 10];rfl
theorem qog(c:UInt8):yG c []=[]:=rfl
theorem qbm(c x:UInt8):∀(l:List UInt8),yG c (x::l)=if yG c l=[]then(if x == c then[]else[x])else x::yG c l:=by
 intro l;obtain⟨r,hr⟩:∃r,r=l.length:=⟨_,rfl⟩
 induction r generalizing l with
 | zero=>
  have:l=[]:=KP.1 hr.symm
  subst this;have:=QH c x []
  rw[zy]at this;rw[this,qog,z6 rfl];cases x == c <;> rfl
 | succ r ih=>
  rcases WJ l with h0|⟨A,y,h0⟩
  · rw[h0]at hr;cases hr
  · rw[WK]at h0
    subst h0;rw[← zD,QH,QH];cases hy:y == c with
    | true=>rw[zg,zg];exact ih A (by simp at hr;omega)
    | false=>rw[zo,zo,zQ (by simp)];rfl
theorem qcN:∀k,yG 48 (le k 0)=[]
 | 0=>rfl
 | k+1=>by
  unfold le;rw[qbm,qcN k,z6 rfl];rfl
theorem d48{n:Nat}(h0:n≠0)(h:n<10):(UInt8.ofNat (48+n % 10) == 48)=false:=by
 have:(UInt8.ofNat (48+n % 10)).toNat=48+n % 10:=qhR (by omega)
 have ne:UInt8.ofNat (48+n % 10)≠48:=fun e=>by
  rw[e]at this;have e48:(48:UInt8).toNat=48:=rfl
  omega
 simpa using ne
theorem qmJ:∀(k n:Nat),n≠0→n<10^k→(yG 48 (le k n)).reverse=dg n
 | 0,n,h0,h=>by rw[Vf]at h;omega
 | k+1,n,h0,h=>by
  unfold le;rw[qbm];by_cases h1:n<10
  · rw[show n / 10=0 by omega,qcN,z6 rfl,d48 h0 h1,ZD h1,show n % 10=n by omega];rfl
  · have ih:=qmJ k (n / 10) (by omega) (by rw[Ke]at h;omega)
    have hne:yG 48 (le k (n / 10))≠[]:=fun e=>by
     rw[e]at ih;exact qvo _ ih.symm
    rw[zQ hne,List.reverse_cons,ih,← qb1 (by omega)]
theorem qq8:∀(k n:Nat),le k (n % 10^k)=le k n
 | 0,_=>rfl
 | k+1,n=>by
  have e1:n % 10^(k+1) % 10=n % 10:=by
   rw[Ke];exact Nat.mod_mul_left_mod ..
  have e2:n % 10^(k+1) / 10=n / 10 % 10^k:=by
   rw[Ke,zL];exact Nat.mod_mul_right_div_self ..
  rw[qun,qun,e1,e2,qq8 k (n / 10)]
theorem qdR{α β:Type}{f:α→Option (α ⊕ β)}:∀ {n:Nat} {s:α} {y:β},itP n f s=some y→∀ {m:Nat},n≤m→itP m f s=some y
 | 0,s,y,h,m,_=>by cases h
 | n+1,s,y,h,m,hm=>by
  obtain⟨m',rfl⟩:∃m',m=m'+1:=⟨m-1,by omega⟩
  rw[jR]at h ⊢;cases hf:f s with
  | none=>rw[hf]at h;cases h
  | some r=>
   rw[hf]at h;cases r with
   | inl s'=>exact qdR (n:=n) h (by omega)
   | inr r=>exact h
theorem qoh(c:UInt8)(l:List UInt8):∃Y,l=yG c l++Y:=by
 refine⟨(l.reverse.takeWhile (·== c)).reverse,?_⟩
 unfold yG;rw[← List.reverse_append,List.takeWhile_append_dropWhile,List.reverse_reverse]
theorem qvy(q:List Int):∀(d i x:Nat) (R:List UInt8),i+d=9→x<18446744073709551616→R.length+d≤500000 →
 ∃y:Int,∀m,d+1≤m→itP m qad (q,R.length,(x:Int),(i:Int),R.map eb,())=some (q,(R++le d x).length,y,(9:Int),(R++le d x).map eb,())
 | 0,i,x,R,hi,_,_=>by
  have:i=9:=by omega
  subst this;refine⟨(x:Int),fun m hm=>?_⟩
  obtain⟨m',rfl⟩:∃m',m=m'+1:=⟨m-1,by omega⟩
  rw[jR];have d0:decide (((9:Nat):Int)<9)=false:=by decide
  simp only[qad,d0,zo,le,z7];rfl
 | d+1,i,x,R,hi,hx,hR=>by
  have d0:decide ((i:Int)<9)=true:=zh (by omega)
  have w1:IntKind.u64.wrap (48+((x % 10:Nat):Int))=((48+x % 10:Nat):Int):=by rw[yd (n:=48+((x % 10:Nat):Int)) (by omega) (by omega)];omega
  have w2:IntKind.u8.wrap ((48+x % 10:Nat):Int)=(((UInt8.ofNat (48+x % 10)).toNat:Nat):Int):=by
   rw[qhR (by omega)];exact Zm (by unfold inR;simp;exact⟨by show(0:Int)≤_;omega,by show _≤(255:Int);omega⟩)
  have w3:IntKind.u64.wrap ((x / 10:Nat):Int)=((x / 10:Nat):Int):=yd (by omega) (by omega)
  have w4:IntKind.i64.wrap ((i:Int)+1)=((i+1:Nat):Int):=by rw[w64 (n:=(i:Int)+1) (by omega) (by omega)];omega
  have em:R.map eb++[T.s (.int .u8 (((UInt8.ofNat (48+x % 10)).toNat:Nat):Int))]=(R++[UInt8.ofNat (48+x % 10)]).map eb:=by rw[Kr];rfl
  have lm:(R.map eb).length=R.length:=zV ..
  have lm2:((R++[UInt8.ofNat (48+x % 10)]).map eb).length=(R++[UInt8.ofNat (48+x % 10)]).length:=zV ..
  have hb:Nat.ble (R.length+1) 549755813888=true:=zN (by omega)
  have hq:=Vk R.length;obtain⟨y,h⟩:=qvy q d (i+1) (x / 10) (R++[UInt8.ofNat (48+x % 10)]) (by omega) (by omega) (by simp;omega)
  refine⟨y,fun m hm=>?_⟩
  obtain⟨m',rfl⟩:∃m',m=m'+1:=⟨m-1,by omega⟩
  have h:=h m' (by omega)
  rw[jR];have ea:R++le (d+1) x=R++[UInt8.ofNat (48+x % 10)]++le d (x / 10):=by rw[zw];rfl
  rw[ea];simp only[qad,d0,tmN,tdN,w1,w2,w3,w4,em,lm,lm2,VU,hq,hb,Vi,Kt,zg];exact h
theorem At_0{r:Nat}(h:r<4294967296):At (ofN r) 0=some (r:Int):=by
 have hw:=qe7 r;have a0:=Q1 hw 0
 obtain⟨p1,p2⟩:=yz hw 0
 have v0:=Y4 (ofN r) 0
 rw[Vm,valN_ofN]at v0;have:nth (ofN r) 0=(r:Int):=by omega
 rw[this]at a0;exact a0
theorem qmK{V:Nat}(h:V≠0):0<(ofN V).length:=by rw[qb4 h];simp
theorem qq9:∀(k V:Nat) (R:List UInt8),V<10^(9*k)→R.length+9*k≤400000 →
 ∃g,g≤k∧V<10^(9*g)∧∀fu m,10≤fu→k+1≤m→itP m (qca fu) (ofN V,R.length,R.map eb,())=some (ofN 0,(R++le (9*g) V).length,(R++le (9*g) V).map eb,())
 | k,V,R,hV,hR=>by
  by_cases h0:V=0
  · subst h0
    refine⟨0,by omega,by decide,fun fu m _ hm=>?_⟩
    obtain⟨m',rfl⟩:∃m',m=m'+1:=⟨m-1,by omega⟩
    rw[jR];have d0:decide ((0:Int)<(((ofN 0).length:Nat):Int))=false:=by decide
    simp only[qca,d0,zo,VE,le,z7];rfl
  · cases k with
    | zero=>rw[VE,Vf]at hV;omega
    | succ k=>
     have e9:10^(9*(k+1))=10^(9*k)*10^9:=by rw[← zW];rfl
     have hq:V / 10^9<10^(9*k):=Wa (by rw[zL,← e9];exact hV)
     obtain⟨g,g1,g2,g3⟩:=qq9 k (V / 10^9) (R++le 9 (V % 10^9)) hq (by rw[zb,qld];omega)
     obtain⟨y,hin⟩:=qvy (ofN (V / 10^9)) 9 0 (V % 10^9) R rfl (by have:=Vd V (show 0<10^9 by decide);omega) (by omega)
     have eg:le (9*(g+1)) V=le 9 (V % 10^9)++le (9*g) (V / 10^9):=by
      rw[show 9*(g+1)=9+9*g by omega,qq7,qq8]
     refine⟨g+1,by omega,?_,fun fu m hf hm=>?_⟩
     · have e9:10^(9*(g+1))=10^(9*g)*10^9:=by rw[← zW];rfl
       rw[e9];exact(KG (by decide)).1 g2
     · obtain⟨m',rfl⟩:∃m',m=m'+1:=⟨m-1,by omega⟩
       have h3:=g3 fu m' hf (by omega)
       have h4:=hin fu (by omega)
       have d0:decide ((0:Int)<(((ofN V).length:Nat):Int))=true:=zh (by have:=qmK h0;omega)
       have hb:=qof hV;have hl:=qab V;have sh:YB (ofN V,(1000000000:Int))=some (ofN (V / 10^9),ofN (V % 10^9)):=by
        unfold YB qla;simp only[valN_ofN];rw[zN (by omega)];rfl
       have a0:=At_0 (r:=V % 10^9) (by have:=Vd V (show 0<10^9 by decide);omega)
       have h4':itP fu qad (ofN (V / 10^9),R.length,((V % 10^9:Nat):Int),(0:Int),R.map eb,())=_:=h4
       rw[jR,eg,← zw];simp only[qca,d0,sh,a0,h4',zm,zg];exact h3
theorem qvz(q:List Int)(X:List UInt8):∀(k:Nat) (Q:List UInt8) (Y:List UInt8),Q.length=k→k≤500000 →
 ∃n,itP n qcb (q,Q.length,(Q++Y).map eb,())=some (q,(yG 48 Q).length,(Q++Y).map eb,())
 | 0,Q,Y,h,_=>by
  have:Q=[]:=KP.1 h
  subst this;exact⟨1,rfl⟩
 | k+1,Q,Y,h,hk=>by
  rcases WJ Q with h0|⟨A,x,h0⟩
  · rw[h0]at h;cases h
  · rw[WK]at h0
    subst h0;have hA:A.length=k:=by simpa using h
    have hw:IntKind.i64.wrap ((((A++[x]).length:Nat):Int)-1)=((k:Nat):Int):=by rw[h,w64 (by omega) (by omega)];omega
    have d0:decide ((0:Int)<(((A++[x]).length:Nat):Int))=true:=zh (by omega)
    have d1:decide ((0:Int)≤((k:Nat):Int))=true:=zh (by omega)
    have d2:decide (((k:Nat):Int)<(((A++[x]).length:Nat):Int))=true:=zh (by omega)
    have d3:decide (((k:Nat):Int)≤(((A++[x]).length:Nat):Int))=true:=zh (by omega)
    have g:((A++[x]++Y).map eb)[0+Int.toNat ((k:Nat):Int)]?=some (eb x):=by
     rw[zt,zn,Ku,zw,Kl (by omega),hA,Ww];rfl
    have e48:decide (((x.toNat:Nat):Int)=48)=(x == 48):=qq0 x 48
    have ek:Int.toNat (((k:Nat):Int)-0)=A.length:=by omega
    cases hx:x == 48 with
    | true=>
     obtain⟨n,h2⟩:=qvz q X k A ([x]++Y) hA (by omega)
     rw[hx]at e48;refine⟨n+1,?_⟩
     rw[jR,QH,hx,zg,zw];rw[zw]at g;simp only[qcb,hw,d0,d1,d2,d3,g,qq5,qmI,e48,ek,Vi,Kt,zg,zm];exact h2
    | false=>
     rw[hx]at e48;refine⟨1,?_⟩
     rw[jR,QH,hx,zo];simp only[qcb,hw,d0,d1,d2,g,qq5,qmI,e48,Vi,Kt,zg,zo,zm]
theorem qra(Q:List UInt8)(hQ:Q.length≤500000)(N:Nat)(hN:Q.length≤N):∀(d i j:Nat) (Z:List UInt8),i+j+1=Q.length→j+1-i≤d→Z.length=N→(∀k,k<Q.length→Z[k]?=if k<i∨j<k then Q[Q.length-1-k]? else Q[k]?) →
 ∃(n:Nat) (a b:Int) (Z':List UInt8),itP n qcc (Q.length,(i:Int),(j:Int),Z.map eb,())=some (Q.length,a,b,Z'.map eb,())∧Z'.length=N∧∀k,k<Q.length→Z'[k]?=Q[Q.length-1-k]?
 | d,i,j,Z,hij,hd,hZ,hI=>by
  by_cases hlt:i<j
  · cases d with
    | zero=>omega
    | succ d=>
     have zi:∃x,Z[i]?=some x:=⟨Z[i]'(by omega),zA _⟩
     have zj:∃y,Z[j]?=some y:=⟨Z[j]'(by omega),zA _⟩
     obtain⟨x,hx⟩:=zi;obtain⟨y,hy⟩:=zj;have d0:decide ((i:Int)<(j:Int))=true:=zh (by omega)
     have d1:decide ((0:Int)≤(j:Int))=true:=zh (by omega)
     have d2:decide ((j:Int)<((Q.length:Nat):Int))=true:=zh (by omega)
     have d3:decide ((0:Int)≤(i:Int))=true:=zh (by omega)
     have d4:decide ((i:Int)<((Q.length:Nat):Int))=true:=zh (by omega)
     have gi:(Z.map eb)[0+Int.toNat (i:Int)]?=some (eb x):=by rw[zt,zn,Ku,hx];rfl
     have gj:(Z.map eb)[0+Int.toNat (j:Int)]?=some (eb y):=by rw[zt,zn,Ku,hy];rfl
     have es:List.set (Z.map eb) (0+Int.toNat (i:Int)) (T.s (.int .u8 ((y.toNat:Nat):Int)))=(Z.set i y).map eb:=by rw[zt,zn,WF];rfl
     have gj2:((Z.set i y).map eb)[0+Int.toNat (j:Int)]?=some (eb y):=by rw[zt,zn,Ku,Kh (by omega),hy];rfl
     have es2:List.set ((Z.set i y).map eb) (0+Int.toNat (j:Int)) (T.s (.int .u8 ((x.toNat:Nat):Int)))=((Z.set i y).set j x).map eb:=by rw[zt,zn];exact(WF ..).symm
     have w1:IntKind.i64.wrap ((i:Int)+1)=((i+1:Nat):Int):=by rw[w64 (n:=(i:Int)+1) (by omega) (by omega)];omega
     have w2:IntKind.i64.wrap ((j:Int)-1)=((j-1:Nat):Int):=by rw[w64 (n:=(j:Int)-1) (by omega) (by omega)];omega
     have qi:Z[i]?=Q[i]?:=by rw[hI i (by omega),zQ (by omega)]
     have qj:Z[j]?=Q[j]?:=by rw[hI j (by omega),zQ (by omega)]
     obtain⟨n,a,b,Z',h1,h2,h3⟩:=qra Q hQ N hN d (i+1) (j-1) ((Z.set i y).set j x) (by omega) (by omega) (by simp[hZ]) (fun k hk=>by
      by_cases k1:k=j
      · subst k1
        rw[Vj (by simp;omega),z6 (by omega),← hx,qi]
        congr 1;omega
      · rw[Kh (by omega)]
        by_cases k2:k=i
        · subst k2
          rw[Vj (by omega),z6 (by omega),← hy,qj]
          congr 1;omega
        · rw[Kh (by omega),hI k hk]
          by_cases k3:k<i∨j<k
          · rw[z6 k3,z6 (by omega)]
          · rw[zQ k3,zQ (by omega)])
     refine⟨n+1,a,b,Z',?_,h2,h3⟩
     rw[jR];simp only[qcc,d0,d1,d2,d3,d4,gi,gj,gj2,es,es2,qq5,qmI,w1,w2,Vi,Kt,zg,zm];exact h1
  · have d0:decide ((i:Int)<(j:Int))=false:=zq (by omega)
    refine⟨1,(i:Int),(j:Int),Z,?_,hZ,fun k hk=>?_⟩
    · rw[jR]
      simp only[qcc,d0,zo];rfl
    · rw[hI k hk]
      by_cases k3:k<i∨j<k
      · rw[z6 k3]
      · rw[zQ k3];congr 1;omega
theorem qrb{Q Z:List UInt8}(h:Q.length≤Z.length)(hk:∀k,k<Q.length→Z[k]?=Q[Q.length-1-k]?):Z.take Q.length=Q.reverse:=by
 refine WS fun k=>?_
 by_cases hlt:k<Q.length
 · rw[List.getElem?_take_of_lt hlt,hk k hlt,List.getElem?_reverse hlt]
 · rw[Kk (by simp;omega),Kk (by simp;omega)]
def YC(a:List Int):Option ByteArray:=bif Nat.ble (qu (qk a)) 40000 then some (bs (dg (qk a)))else none
theorem qrc(a:List Int)(y:ByteArray)(hg:(d1 (cQ 1 1)).good a)(h:YC a=some y):∃n,qmH n a=some y:=by
 obtain⟨h1,h2⟩:=qL h;have:=soi h2;subst this
 have hb:=zx h1;generalize hV:qk a=V at *
 obtain⟨k,hk⟩:∃k,k=qu V / 29+1:=⟨_,rfl⟩
 have hVk:V<10^(9*k):=by
  refine Kv (Qs V) ?_
  refine KF (Kg (by omega) (show qu V≤29*k by omega)) ?_
  rw[Nat.pow_mul,Nat.pow_mul];exact Nat.pow_le_pow_left (by decide) k
 obtain⟨g,g1,g2,g3⟩:=qq9 k V [] hVk (by simp;omega)
 rw[zy]at g3;have hll:=qld (9*g) V
 obtain⟨n3,h3⟩:=qvz (ofN 0) [] (9*g) (le (9*g) V) [] hll (by omega)
 rw[z7]at h3;have trl:(yG 48 (le (9*g) V)).length≤(le (9*g) V).length:=by
  unfold yG;rw[Wz];refine KF (List.Sublist.length_le (List.dropWhile_sublist _)) ?_
  rw[Wz];exact zI _
 by_cases h0:V=0
 · subst h0
   rw[qcN]at h3;refine⟨max 10 (max (k+1) n3),?_⟩
   unfold qmH;rw[hV];refine obs (g3 _ _ (by omega) (by omega)) ?_
   refine obs (qdR h3 (by omega)) ?_
   rfl
 · have ht:=qmJ (9*g) V h0 g2
   generalize hQ:yG 48 (le (9*g) V)=Q at *
   have hQ0:0<Q.length:=by
    rw[← Wz,ht];exact List.length_pos_iff.2 (qvo V)
   have hpre:∀k,k<Q.length→(le (9*g) V)[k]?=Q[k]?:=fun k hk=>by
    obtain⟨Y,hY⟩:=qoh 48 (le (9*g) V)
    rw[hQ]at hY;rw[hY,Ki hk]
   obtain⟨n4,a4,b4,Z',h4,h5,h6⟩:=qra Q (by omega) (le (9*g) V).length (by omega) (Q.length) 0 (Q.length-1) (le (9*g) V) (by omega) (by omega) rfl (fun k hk=>by
    rw[zQ (by omega)];exact hpre k hk)
   refine⟨max 10 (max (k+1) (max n3 n4)),?_⟩
   unfold qmH;rw[hV];refine obs (g3 _ _ (by omega) (by omega)) ?_
   refine obs (qdR h3 (by omega)) ?_
   have w1:IntKind.i64.wrap (((Q.length:Nat):Int)-1)=((Q.length-1:Nat):Int):=by rw[w64 (n:=((Q.length:Nat):Int)-1) (by omega) (by omega)];omega
   simp only[];rw[zq (show¬((Q.length:Nat):Int)=0 by omega),zo,w1];refine obs (qdR h4 (by omega)) ?_
   have hs:Su.sub (Z'.map eb) 0 Q.length=some (Q.reverse.map eb):=by
    unfold Su.sub;rw[zN (by simp;omega),zg,Vm,← List.map_take,qrb (by omega) h6]
   refine obs hs (obs (qq6 _) ?_)
   rw[zN (by simp;omega),zg,qxp,ht]
end
end Su
end
section
namespace Su
open Go Fly
def cK(b:ByteArray):Cod Unit where
 enc _:=.s (.string b)
 dec x:=(asS (.t x)).bind fun s=>bif decide (s=b)then some ()else none
 good _:=True
 rep {x a} h V v hr:=by
  obtain⟨s,h1,h2⟩:=osm h;have:=qpP h1
  simp only[SV.t.injEq]at this;subst this;obtain⟨h3,_⟩:=qL h2;have:=KM h3;subst this
  exact hr
 de _:=by show(bif decide (b=b)then some ()else none)=_;rw[zh rfl];rfl
 rng _:=trivial
end Su
end
section
namespace Su
open Go Fly
noncomputable section
def qfk(p:Unit×Int):Option ByteArray:=bif decide (0≤p.2)&&decide (p.2≤40)then some (bs (zs p.2.toNat))else none
end
end Su
end
section
namespace Su
open Go Fly
noncomputable section
def qxq  (n:Int):Option (List Int) :=
 (qh5 ((10:Int),n)).bind fun x0=>
 some x0.1
def dTr  (d:ByteArray)(q:Int):Option (ByteArray×Int) :=
 (bif(decide (d=(ByteArray.mk (List.toArray []))))then
 some (d,(IntKind.wrap .i64 ((IntKind.wrap .i64 (q+(ByteArray.size d:Int)))-(ByteArray.size d:Int))))
 else
  (qjK (d,((48:Nat):Int))).bind fun x0=>
  some (x0,(IntKind.wrap .i64 ((IntKind.wrap .i64 (q+(ByteArray.size d:Int)))-(ByteArray.size x0:Int)))))
def yu(n:Int):Option (List Int):=bif decide (n≤10000)then some (ofN (10^n.toNat))else none
theorem qup(n:Int)(y:List Int)(hg:(d1 (cI .i64)).good n)(h:yu n=some y):qxq n=some y:=by
 obtain⟨h1,h2⟩:=qL h;have:=soi h2;subst this
 unfold qxq qh5;simp only[h1,WX,Kt,zg,zm]
def qcd(p:ByteArray×Int):Option (ByteArray×Int):=bif Nat.ble (lb p.1).length 1000000&&(decide (-1000000≤p.2)&&decide (p.2≤1000000))then some (bs (yG 48 (lb p.1)),p.2+((lb p.1).length:Int)-((yG 48 (lb p.1)).length:Int))else none
theorem qgD(c:UInt8)(l:List UInt8):(yG c l).length≤l.length:=by
 unfold yG;rw[Wz];refine KF (List.Sublist.length_le (List.dropWhile_sublist _)) ?_
 rw[Wz];exact zI _
theorem qxr(p:ByteArray×Int)(y:ByteArray×Int)(hg:(dc cS (d1 (cI .i64))).good p)(h:qcd p=some y):dTr p.1 p.2=some y:=by
 obtain⟨d,q⟩:=p;revert h;refine onB (P:=fun d=>qcd (d,q)=some y→dTr d q=some y) (fun l h=>?_) d
 obtain⟨h1,h2⟩:=qL h;have:=soi h2;subst this
 simp only[qgv,zp,zY]at h1 ⊢;have hl:=zx h1.1;have ht:=qgD 48 l
 unfold dTr;rw[qgw,qwR];have w1:IntKind.i64.wrap (q+((l.length:Nat):Int))=q+((l.length:Nat):Int):=w64 (by omega) (by omega)
 by_cases h0:l=[]
 · subst h0
   rw[zh rfl,zg,jB,w1,w64 (by omega) (by omega)];rfl
 · rw[zq h0,zo]
   have r:qjK (bs l,48)=some (bs (yG 48 l)):=by
    unfold qjK;simp only[qgv];rw[zN (by omega)];rfl
   refine obs r ?_
   rw[jB,jB,w1,w64 (by omega) (by omega)]
end
end Su
end
section
namespace Su
noncomputable section
open Go Fly
def p75L:{n:Nat // n=2^1075}:=Classical.choice ⟨⟨_,rfl⟩⟩
def P75:Nat:=p75L.1
theorem qrd:P75=2^1075:=p75L.2
theorem qfl(k:Nat):kV (k+1)=kV k+2^kE k:=by
 obtain⟨q,w,rfl,hw,h⟩:=qjk k;rw[qvn hw h];have h1:=qgq (q:=q) (w:=w) (by omega) h
 have h2:=qgq (q:=q) (w:=w+1) (by omega) (by rcases h with h|h <;> omega)
 rw[← Kp]at h2;rw[h1,h2,zR,KR]
def jy(k:Nat):Nat:=kV k+kV (k+1)
theorem qmL(k:Nat):jy k=(2*kM k+1)*2^kE k:=by
 unfold jy;rw[qfl];unfold kV;rw[zR,KR,zB];omega
theorem qmM{i j:Nat}(h:i<j):jy i<2*kV j:=by
 have h1:=qp6 h;have h2:=qmd (show i+1≤j by omega)
 unfold jy;omega
theorem qmN{i j:Nat}(h:j≤i):2*kV j<jy i:=by
 have h1:=qmd h;have h2:=qp6 (show i<i+1 by omega)
 unfold jy;omega
theorem quq(k:Nat):kE k≤kE (k+1):=by unfold kE;omega
def Nr(N D k:Nat):Prop :=
 (k=0∨D*jy (k-1)<N*P75∨D*jy (k-1)=N*P75∧k % 2=0)∧(k≤yy→N*P75<D*jy k∨N*P75=D*jy k∧k % 2=0)∧k≤yy+1
theorem qur{N D N' D' k k':Nat}(h:Nr N D k)(h':Nr N' D' k')(e:N*D'=N'*D)(hD:0<D)(hD':0<D'):k=k':=by
 have key:∀ {N D N' D' k k':Nat},Nr N D k→Nr N' D' k'→N*D'=N'*D→0<D→0<D'→¬k<k':=by
  intro N D N' D' k k' h h' e hD hD' hlt;obtain⟨_,h2,_⟩:=h;obtain⟨h1,_,h3⟩:=h';have h2:=h2 (by omega)
  have hm:jy k≤jy (k'-1):=by
   have a:=qmd (show k≤k'-1 by omega)
   have b:=qmd (show k+1≤k'-1+1 by omega)
   unfold jy;omega
  have u1:N*P75≤D*jy k:=by rcases h2 with h|h <;> omega
  have u2:D'*jy (k'-1)≤N'*P75:=by rcases h1 with h|h|h <;> omega
  have v1:D'*(N*P75)≤D'*(D*jy k):=z8 _ u1
  have v2:D*(D'*jy (k'-1))≤D*(N'*P75):=z8 _ u2
  have e1:D'*(N*P75)=D*(N'*P75):=by
   rw[← zB,← zB,zL D' N,e,zL N' D]
  have e2:D'*(D*jy k)=D*(D'*jy k):=KN ..
  have v3:D*(D'*jy k)≤D*(D'*jy (k'-1)):=z8 _ (z8 _ hm)
  have q1:D'*(N*P75)=D'*(D*jy k):=by omega
  have q2:D*(D'*jy (k'-1))=D*(N'*P75):=by omega
  have q3:D*(D'*jy k)=D*(D'*jy (k'-1)):=by omega
  have r1:N*P75=D*jy k:=VA hD' q1
  have r2:D'*jy (k'-1)=N'*P75:=VA hD q2
  have r3:jy k=jy (k'-1):=VA hD' (VA hD q3)
  have p1:k % 2=0:=by rcases h2 with h|h <;> omega
  have p2:k' % 2=0:=by rcases h1 with h|h|h <;> omega
  have hk:k=k'-1:=by
   rcases VH k (k'-1)with hl|hl
   · have a:=qmM hl
     have b:=qmN (zI (k'-1))
     omega
   · omega
  omega
 rcases WQ k k' with hl|hl|hl
 · exact absurd hl (key h h' e hD hD')
 · exact hl
 · exact absurd hl (key h' h e.symm hD' hD)
theorem arr5(B x S:Nat):B*(2*x*S)=B*(x*S)*2:=by rw[zB 2,KN B 2,zL 2]
theorem qre{a b:Nat}(h:Qm a b = -1):a<b:=by
 unfold Qm at h;by_cases h1:a<b
 · exact h1
 · rw[zQ h1]at h
   split at h <;> exact absurd h (by decide)
theorem qjN{a b:Nat}(h:Qm a b=0):a=b:=by
 unfold Qm at h;by_cases h1:a<b
 · rw[z6 h1]at h;exact absurd h (by decide)
 · rw[zQ h1]at h
   by_cases h2:a=b
   · exact h2
   · rw[zQ h2]at h;exact absurd h (by decide)
theorem qus{a b:Nat}(h:Qm a b=1):b<a:=by
 unfold Qm at h;by_cases h1:a<b
 · rw[z6 h1]at h;exact absurd h (by decide)
 · rw[zQ h1]at h
   by_cases h2:a=b
   · rw[z6 h2]at h;exact absurd h (by decide)
   · omega
theorem qut{A B M E:Nat}{rest:Bool}(hB:0<B)(hM:M=A / B)(hr:rest=true↔A % B≠0)(h54:54≤qu M){k:Nat}(hk:k=RN false 0 M E rest) :
 (k=0∨B*(jy (k-1)*2^SH)<A*2^(E+1)∨B*(jy (k-1)*2^SH)=A*2^(E+1)∧k % 2=0)∧(k≤yy→A*2^(E+1)<B*(jy k*2^SH)∨A*2^(E+1)=B*(jy k*2^SH)∧k % 2=0)∧k≤yy+1:=by
 have hM0:M≠0:=fun e=>by rw[e]at h54;exact absurd h54 (by decide)
 have hA:A=B*M+A % B:=by rw[hM];exact(Vb A B).symm
 have hA2:A % B<B:=Vd _ hB
 have hSH:=qp8;obtain⟨f,hf⟩:∃f,f=Jg M E:=⟨_,rfl⟩
 have f1:=qp9 (E:=E) hM0
 have f2:=qqa (E:=E) hM0
 have cm:=qtP (E:=E) hM0
 have hkE:kE f=qN M E:=by rw[hf];exact qjl hM0
 rw[← hf]at f1 f2 cm
 -- the grid: E is far below
 have hE:E+1≤kE f+SH:=by rw[hkE];unfold qN;omega
 obtain⟨d,hd⟩:∃d,kE f+(SH-1)=E+d:=⟨kE f+(SH-1)-E,by omega⟩
 have mid_e:jy f*2^SH=(2*kM f+1)*2^(kE f+(SH-1))*2:=by
  rw[qmL,zB,zB,← zW,← Ke]
  congr 2;omega
 have mid_d:(2*kM f+1)*2^(kE f+(SH-1))=(2*kM f+1)*2^d*2^E:=by
  rw[hd,zW,zL (2^E),zB]
 have pE:=zU E;have pS:=zU SH;have hpow:A*2^(E+1)=A*2^E*2:=by rw[Ke,zB]
 -- what comes of a strict bound on M
 have below:∀Z:Nat,M*2^E<Z*2^E→A*2^E<B*(Z*2^E):=fun Z h=>by
  have h1:M<Z:=VP h
  have h2:A<B*Z:=by
   have:B*(M+1)≤B*Z:=z8 _ h1
   rw[KB,KK]at this;omega
  rw[← zB];exact Kf h2 pE
 have above:∀Y:Nat,Y<M*2^E→B*Y<A*2^E:=fun Y h=>by
  have h1:B*Y<B*(M*2^E):=Wm h hB
  have h2:B*(M*2^E)≤A*2^E:=by rw[← zB];exact zG _ (by omega)
  omega
 have aboveE:∀Y:Nat,Y≤M*2^E→B*Y≤A*2^E:=fun Y h=>by
  have h1:B*Y≤B*(M*2^E):=z8 _ h
  have h2:B*(M*2^E)≤A*2^E:=by rw[← zB];exact zG _ (by omega)
  omega
 have next:A*2^E<B*(kV (f+1)*2^SH):=by
  have e:kV (f+1)*2^SH=kM f*2^d*2*2^E+2^d*2*2^E:=by
   have g:2^kE f*2^SH=2^d*2*2^E:=by
    rw[← zW,← Ke,← zW];congr 1;omega
   rw[qfl,zR,g];unfold kV;rw[zB (kM f),g,zB (kM f*2^d),zB (kM f),zB (2^d)]
  rw[e,← zR]at f2 ⊢;exact below _ f2
 -- below the middle before f
 have lo_of:∀j,j<f→B*(jy j*2^SH)<A*2^(E+1):=fun j hj=>by
  have h1:=qmM hj;have h2:jy j*2^SH<2*kV f*2^SH:=Kf h1 pS
  have h3:=aboveE _ f1;have h4:B*(jy j*2^SH)<B*(2*kV f*2^SH):=Wm h2 hB
  rw[arr5]at h4;rw[hpow];omega
 have lof:f=0∨B*(jy (f-1)*2^SH)<A*2^(E+1):=by
  rcases Nat.eq_zero_or_pos f with h0|h0
  · exact .inl h0
  · exact .inr (lo_of _ (by omega))
 -- the next one
 have hif:A*2^(E+1)<B*(jy (f+1)*2^SH):=by
  have h1:=qmN (zI (f+1))
  have h2:2*kV (f+1)*2^SH<jy (f+1)*2^SH:=Kf h1 pS
  have h4:B*(2*kV (f+1)*2^SH)<B*(jy (f+1)*2^SH):=Wm h2 hB
  rw[arr5]at h4;rw[hpow];omega
 have par:f % 2=yE M E % 2:=by rw[hf];unfold Jg;omega
 have top_odd:yy % 2=1:=by decide
 have hk2:k=qnV false (f+(upN false 0 (yE M E % 2 == 1) (hfN M E) (rest||rsN M E)).toNat):=by
  rw[hk,hf];unfold RN;rw[qcL hM0,zo,show sgN false=0 from rfl,zt];rfl
 have hup:upN false 0 (yE M E % 2 == 1) (hfN M E) (rest||rsN M E)=(hfN M E&&((rest||rsN M E)||(yE M E % 2 == 1))):=rfl
 rw[hup]at hk2;have big:f > yy→k=yy+1→(k=0∨B*(jy (k-1)*2^SH)<A*2^(E+1)∨B*(jy (k-1)*2^SH)=A*2^(E+1)∧k % 2=0)∧(k≤yy→A*2^(E+1)<B*(jy k*2^SH)∨A*2^(E+1)=B*(jy k*2^SH)∧k % 2=0)∧k≤yy+1:=fun h e=>by
  refine⟨.inr (.inl ?_),fun h=>by omega,by omega⟩
  rw[e,Vt];exact lo_of _ h
 have fin:∀j,qnV false j=if j≤yy then j else yy+1:=fun j=>by
  unfold qnV;by_cases h:j≤yy
  · rw[zN h,z6 h];rfl
  · have:Nat.ble j yy=false:=by
     cases hb:Nat.ble j yy with
     | false=>rfl
     | true=>exact absurd (zx hb) h
    rw[this,zQ h];rfl
 rw[fin]at hk2;have stay:(hi:A*2^(E+1)<B*(jy f*2^SH)∨A*2^(E+1)=B*(jy f*2^SH)∧f % 2=0)→k=(if f≤yy then f else yy+1)→(k=0∨B*(jy (k-1)*2^SH)<A*2^(E+1)∨B*(jy (k-1)*2^SH)=A*2^(E+1)∧k % 2=0)∧(k≤yy→A*2^(E+1)<B*(jy k*2^SH)∨A*2^(E+1)=B*(jy k*2^SH)∧k % 2=0)∧k≤yy+1:=fun hi e=>by
  by_cases h:f≤yy
  · rw[z6 h]at e
    subst e;exact⟨lof.imp id .inl,fun _=>hi,by omega⟩
  · rw[zQ h]at e
    exact big (by omega) e
 have go:(lo:B*(jy f*2^SH)<A*2^(E+1)∨B*(jy f*2^SH)=A*2^(E+1)∧(f+1) % 2=0)→k=(if f+1≤yy then f+1 else yy+1)→(k=0∨B*(jy (k-1)*2^SH)<A*2^(E+1)∨B*(jy (k-1)*2^SH)=A*2^(E+1)∧k % 2=0)∧(k≤yy→A*2^(E+1)<B*(jy k*2^SH)∨A*2^(E+1)=B*(jy k*2^SH)∧k % 2=0)∧k≤yy+1:=fun lo e=>by
  by_cases h:f≤yy
  · have e2:k=f+1:=by
     by_cases h1:f+1≤yy
     · rw[z6 h1]at e;exact e
     · rw[zQ h1]at e;omega
    refine⟨.inr ?_,fun _=>.inl ?_,by omega⟩
    · rw[e2,Vt];exact lo
    · rw[e2];exact hif
  · exact big (by omega) (by rw[e,zQ (by omega)])
 cases hh:hfN M E with
 | false=>
  rw[hh,Bool.false_and]at hk2;rw[hh,zQ (by decide)]at cm;have hlt:=qre cm;refine stay (.inl ?_) hk2
  rw[mid_d]at hlt;have:=below _ hlt
  rw[← mid_d]at this;rw[mid_e,hpow,← zB];omega
 | true=>
  rw[hh,Vi]at hk2;rw[hh,z6 rfl]at cm;cases hs:rest||rsN M E with
  | true=>
   rw[hs,Bool.true_or]at hk2;refine go (.inl ?_) hk2
   have hgt:B*((2*kM f+1)*2^(kE f+(SH-1)))<A*2^E:=by
    cases hr2:rsN M E with
    | true=>
     rw[hr2,z6 rfl]at cm;exact above _ (qus cm)
    | false=>
     rw[hr2,zQ (by decide)]at cm;rw[hr2,Bool.or_false]at hs;have hx:=hr.1 hs;have heq:=qjN cm;rw[← heq,← zB];exact Kf (by omega) pE
   rw[mid_e,hpow,← zB];omega
  | false=>
   rw[hs,WV]at hk2;rw[Bool.or_eq_false_iff]at hs;rw[hs.2,zQ (by decide)]at cm;have heq:=qjN cm;have h0:A % B=0:=by
    by_cases h:A % B=0
    · exact h
    · rw[hr.2 h]at hs;exact absurd hs.1 (by decide)
   have hAM:A=B*M:=by omega
   have e:B*(jy f*2^SH)=A*2^(E+1):=by
    rw[mid_e,hpow,hAM,zB B M,heq,← zB B]
   cases ho:yE M E % 2 == 1 with
   | true=>
    rw[ho]at hk2;have:yE M E % 2=1:=by simpa using ho
    exact go (.inr ⟨e,by omega⟩) hk2
   | false=>
    rw[ho]at hk2;have:yE M E % 2≠1:=by simpa using ho
    exact stay (.inr ⟨e.symm,by omega⟩) hk2
end
end Su
end
