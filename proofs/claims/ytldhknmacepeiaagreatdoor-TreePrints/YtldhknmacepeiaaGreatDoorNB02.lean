/-
  What functions compute.
-/
import Derived.Test.YtldhknmacepeiaaGreatDoorTrN
set_option linter.unusedVariables false
set_option linter.unusedSimpArgs false
set_option maxRecDepth 10000
section
namespace Su
open Go Fly
noncomputable section
def qb3:Stp ((List Int)×Unit):=fun p0=>(bif(decide (0<(List.length p0.1:Int)))then
 (idx p0.1 (IntKind.wrap .i64 ((List.length p0.1:Int)-1))).bind fun x1=>
 (bif(decide (x1=0))then
 (bif(true&&((true&&(decide (0≤(IntKind.wrap .i64 ((List.length p0.1:Int)-1)))))&&(decide ((IntKind.wrap .i64 ((List.length p0.1:Int)-1))≤(List.length p0.1:Int)))))then
 some (.inl ((List.take (Int.toNat ((IntKind.wrap .i64 ((List.length p0.1:Int)-1))-0)) (List.drop 0 p0.1)),()))
 else none)
 else
  some (.inr (p0.1,())))
 else
  some (.inr (p0.1,())))
def qw1  (fu:Nat)(a:(List Int)):Option (List Int) :=
 (itP fu (qb3) (a,())).bind fun x2=>
 some x2.1
def qk:List Int→Nat
 | []=>0
 | x::l=>x.toNat+4294967296*qk l
def ofF:Nat→Nat→List Int
 | 0,_=>[]
 | k+1,n=>if n=0 then[]else((n % 4294967296:Nat):Int)::ofF k (n / 4294967296)
def ofN(n:Nat):List Int:=ofF (n.log2 / 32+1) n
theorem qqA:∀(k j n:Nat),n<4294967296^k→n<4294967296^j→ofF k n=ofF j n
 | 0,0,_,_,_=>rfl
 | 0,j+1,n,h,_=>by
  have:n=0:=by simpa using h
  subst this;rfl
 | k+1,0,n,_,h=>by
  have:n=0:=by simpa using h
  subst this;rfl
 | k+1,j+1,n,h1,h2=>by
  unfold ofF;by_cases h0:n=0
  · simp[h0]
  · simp only[h0,Vv]
    rw[qqA k j (n / 4294967296)]
    · rw[Ke]at h1;exact Wa (by rw[zL];exact h1)
    · rw[Ke]at h2;exact Wa (by rw[zL];exact h2)
theorem qhW(n:Nat):n<4294967296^(n.log2 / 32+1):=by
 have h:=@Nat.lt_log2_self n
 have e:(4294967296:Nat)^(n.log2 / 32+1)=2^(32*(n.log2 / 32+1)):=by rw[Nat.pow_mul]
 rw[e];exact Kv h (Kg (by omega) (by omega))
theorem Yh:ofN 0=[]:=rfl
theorem qb4{n:Nat}(h:n≠0):ofN n=((n % 4294967296:Nat):Int)::ofN (n / 4294967296):=by
 have:ofN n=ofF (n.log2 / 32+1) n:=rfl
 rw[this];unfold ofF;rw[zQ h]
 congr 1
 have hl:=qhW n;rw[Ke]at hl;exact qqA _ _ _ (Wa (by rw[zL];exact hl)) (qhW _)
def Wd(l:List Int):Prop:=∀x∈l,0≤x∧x<4294967296
theorem Wd.nil:Wd []:=fun _ h=>by cases h
theorem Wd.cons{x:Int}{l:List Int}(h0:0≤x)(h1:x<4294967296)(h:Wd l):Wd (x::l):=fun y hy=>by
 rcases zK.1 hy with rfl|hy
 · exact⟨h0,h1⟩
 · exact h y hy
theorem Wd.tail{x:Int}{l:List Int}(h:Wd (x::l)):Wd l:=fun y hy=>h y (zE _ hy)
theorem Wd.head{x:Int}{l:List Int}(h:Wd (x::l)):0≤x∧x<4294967296:=h x (zM ..)
theorem Wd.app{a b:List Int}(h:Wd a)(h':Wd b):Wd (a++b):=fun x hx=>by
 rcases zS.1 hx with hx|hx
 · exact h x hx
 · exact h' x hx
theorem Wd.left{a b:List Int}(h:Wd (a++b)):Wd a:=fun x hx=>h x (KX _ hx)
theorem Wd.right{a b:List Int}(h:Wd (a++b)):Wd b:=fun x hx=>h x (VC _ hx)
theorem Wd.of{l:List Int}(h:∀x∈l,gU 1 x):Wd l:=fun x hx=>qdJ.1 (h x hx)
theorem yV:∀(a b:List Int),qk (a++b)=qk a+4294967296^a.length*qk b
 | [],b=>by simp[qk]
 | x::a,b=>by simp only[zD,qk,yV a b,zf,Ke];rw[KB,← zB,zL 4294967296 (4294967296^a.length)];omega
theorem qjz{x:Int}{n:Nat}(h0:0≤x)(h1:x<4294967296)(h:x.toNat+4294967296*n≠0):ofN (x.toNat+4294967296*n)=x::ofN n:=by
 rw[qb4 h];have e1:(x.toNat+4294967296*n) % 4294967296=x.toNat:=by omega
 have e2:(x.toNat+4294967296*n) / 4294967296=n:=by omega
 rw[e1,e2]
 congr 1;omega
theorem qjA:∀(k n:Nat),n<4294967296^k→qk (ofF k n)=n
 | 0,n,h=>by
  have:n=0:=by simpa using h
  subst this;rfl
 | k+1,n,h=>by
  unfold ofF;by_cases h0:n=0
  · simp[h0,qk]
  · simp only[h0,Vv,qk]
    rw[qjA k _ (by rw[Ke]at h;exact Wa (by rw[zL];exact h))];omega
@[simp] theorem valN_ofN (n:Nat):qk (ofN n)=n:=qjA _ _ (qhW n)
theorem qqB:∀(k n:Nat),Wd (ofF k n)
 | 0,_=>.nil
 | k+1,n=>by
  unfold ofF;split
  · exact .nil
  · exact .cons (by omega) (by omega) (qqB k _)
theorem qe7(n:Nat):Wd (ofN n):=qqB _ _
theorem qmk:∀(l:List Int),Wd l→l.getLast?≠some 0→ofN (qk l)=l
 | [],_,_=>rfl
 | [x],h,hl=>by
  have:=h.head
  have hx:x≠0:=fun e=>hl (by simp[e])
  simp only[qk,VE];have:=qjz (x:=x) (n:=0) this.1 this.2 (by omega)
  simpa[Yh]using this
 | x::y::l,h,hl=>by
  have hl':(y::l).getLast?≠some 0:=by rwa [List.getLast?_cons_cons]at hl
  have ih:=qmk (y::l) h.tail hl'
  have hnz:qk (y::l)≠0:=fun e=>by rw[e,Yh]at ih;cases ih
  show ofN (x.toNat+4294967296*qk (y::l))=_
  rw[qjz h.head.1 h.head.2 (by omega),ih]
theorem qhX(l:List Int):qk (l++[0])=qk l:=by rw[yV];simp[qk]
theorem qgz(q:Unit):∀(k:Nat) (l:List Int),l.length=k→Wd l→k≤maxLen→∃n,itP n qb3 (l,q)=some (ofN (qk l),q)
 | 0,l,hk,_,_=>by
  have:=KP.1 hk;subst this
  exact J9 (by simp[qb3,qk,Yh])
 | k+1,l,hk,hw,hm=>by
  rw[Jf]at hm;rcases WJ l with rfl|⟨l',x,rfl⟩
  · simp at hk
  · simp only[WK,zb,zf,zk]at hk hw ⊢
    have hlen:l'.length=k:=by omega
    have hx:=hw.right.head;have e1:IntKind.i64.wrap (((l'++[x]).length:Int)-1)=(l'.length:Int):=by rw[w64] <;> simp <;> omega
    by_cases h0:x=0
    · subst h0
      refine Yx (s':=(l',q)) ?_ (by rw[qhX];exact qgz q k l' hlen hw.left (by rw[Jf];omega))
      simp only[qb3,e1];simp[JN];rw[zh (by omega)];rfl
    · have hv:ofN (qk (l'++[x]))=l'++[x]:=qmk _ hw (by simp[h0])
      rw[hv];refine J9 ?_
      simp only[qb3,e1];simp[JN,h0]
def qhY(a:List Int):Option (List Int):=some (ofN (qk a))
theorem qt2(a y:List Int)(hg:(d1 (cQ 1 1)).good a)(h:qhY a=some y):∃n,qw1 n a=some y:=by
 obtain⟨n,hn⟩:=qgz () a.length a rfl (Wd.of hg.1) hg.2
 refine⟨n,?_⟩
 have:=soi h;subst this
 unfold qw1;rw[hn];rfl
end
end Su
end
section
namespace Su
open Go Fly
noncomputable section
def qhZ:Stp ((List Int)×(List Int)×Nat×Int×Int×Int×(List T)×Unit):=fun p0=>(bif(decide (p0.2.2.2.2.2.1<p0.2.2.2.2.1))then
 (At p0.1 p0.2.2.2.2.2.1).bind fun x1=>
 (At p0.2.1 p0.2.2.2.2.2.1).bind fun x2=>
 (bif((true&&(Nat.beq p0.2.2.1 p0.2.2.2.2.2.2.1.length))&&(Nat.ble (p0.2.2.2.2.2.2.1.length+(List.length [(T.s (.int .u32 (IntKind.wrap .u32 (IntKind.wrap .u64 (p0.2.2.2.1+(IntKind.wrap .u64 (x1+x2)))))))])) 549755813888))then
 some (.inl (p0.1,p0.2.1,(List.length (p0.2.2.2.2.2.2.1++[(T.s (.int .u32 (IntKind.wrap .u32 (IntKind.wrap .u64 (p0.2.2.2.1+(IntKind.wrap .u64 (x1+x2)))))))])),(Int.fdiv (IntKind.wrap .u64 (p0.2.2.2.1+(IntKind.wrap .u64 (x1+x2)))) (2^32)),p0.2.2.2.2.1,(IntKind.wrap .i64 (p0.2.2.2.2.2.1+1)),(p0.2.2.2.2.2.2.1++[(T.s (.int .u32 (IntKind.wrap .u32 (IntKind.wrap .u64 (p0.2.2.2.1+(IntKind.wrap .u64 (x1+x2)))))))]),()))
 else none)
 else
  some (.inr (p0.1,p0.2.1,p0.2.2.1,p0.2.2.2.1,p0.2.2.2.2.1,p0.2.2.2.2.2.1,p0.2.2.2.2.2.2.1,())))
def Add  (fu:Nat)(a:(List Int))(b:(List Int)):Option (List Int) :=
 (itP fu (qhZ) (a,b,0,(0:Int),(max (List.length a:Int) (List.length b:Int)),(0:Int),[],())).bind fun x3=>
 (bif((true&&(Nat.beq x3.2.2.1 x3.2.2.2.2.2.2.1.length))&&(Nat.ble (x3.2.2.2.2.2.2.1.length+(List.length [(T.s (.int .u32 (IntKind.wrap .u32 x3.2.2.2.1)))])) 549755813888))then
 (Su.sub (x3.2.2.2.2.2.2.1++[(T.s (.int .u32 (IntKind.wrap .u32 x3.2.2.2.1)))]) 0 (List.length (x3.2.2.2.2.2.2.1++[(T.s (.int .u32 (IntKind.wrap .u32 x3.2.2.2.1)))]))).bind fun x4=>
 (Su.sub (x3.2.2.2.2.2.2.1++[(T.s (.int .u32 (IntKind.wrap .u32 x3.2.2.2.1)))]) 0 (List.length (x3.2.2.2.2.2.2.1++[(T.s (.int .u32 (IntKind.wrap .u32 x3.2.2.2.1)))]))).bind fun x5=>
 ((yC 1 x4).bind fun x6=>
 some (ofN (qk x6))).bind fun x7=>
 some x7
 else none)
def qbj:((List Int)×(List Int)×Int×Unit)→Option (((List Int)×(List Int)×Int×Unit) ⊕ (Lp ((List Int)×(List Int)×Int×Unit) Int)):=fun p0=>(bif(decide (0≤p0.2.2.1))then
 (At p0.1 p0.2.2.1).bind fun x1=>
 (At p0.2.1 p0.2.2.1).bind fun x2=>
 (bif(!(decide (x1=x2)))then
 (bif(decide (x1<x2))then
 some (.inr (.ret (-1)))
 else
  some (.inr (.ret 1)))
 else
  some (.inl (p0.1,p0.2.1,(IntKind.wrap .i64 (p0.2.2.1-1)),())))
 else
  some (.inr (.exit 0 (p0.1,p0.2.1,p0.2.2.1,()))))
def Cmp  (fu:Nat)(a:(List Int))(b:(List Int)):Option Int :=
 (itP fu (qbj) (a,b,(IntKind.wrap .i64 ((max (List.length a:Int) (List.length b:Int))-1)),())).bind fun x3=>
 (match x3 with
 | .exit i4 p5=>(bif(Nat.beq i4 0)then
  some 0
 else none)
 | .ret o6=>some o6)
def New  (x:Int):Option (List Int) :=
 some (ofN (qk [(IntKind.wrap .u32 x),(IntKind.wrap .u32 (Int.fdiv x (2^32)))]))
def Yj:ByteArray:=⟨⟨[0,1,2,2,3,3,3,3,4,4,4,4,4,4,4,4,5,5,5,5,5,5,5,5,5,5,5,5,5,5,5,5,6,6,6,6,6,6,6,6,6,6,6,6,6,6,6,6,6,6,6,6,6,6,6,6,6,6,6,6,6,6,6,6,7,7,7,7,7,7,7,7,7,7,7,7,7,7,7,7,7,7,7,7,7,7,7,7,7,7,7,7,7,7,7,7,7,7,7,7,7,7,7,7,7,7,7,7,7,7,7,7,7,7,7,7,7,7,7,7,7,7,7,7,7,7,7,7,8,8,8,8,8,8,8,8,8,8,8,8,8,8,8,8,8,8,8,8,8,8,8,8,8,8,8,8,8,8,8,8,8,8,8,8,8,8,8,8,8,8,8,8,8,8,8,8,8,8,8,8,8,8,8,8,8,8,8,8,8,8,8,8,8,8,8,8,8,8,8,8,8,8,8,8,8,8,8,8,8,8,8,8,8,8,8,8,8,8,8,8,8,8,8,8,8,8,8,8,8,8,8,8,8,8,8,8,8,8,8,8,8,8,8,8,8,8,8,8,8,8,8,8,8,8,8,8]⟩⟩
def qjB  (x:Int):Option Int :=
 (bif(decide (65536≤x))then
 (bif(decide (256≤(Int.fdiv x (2^16))))then
 (bif(decide (0≤(IntKind.wrap .u8 (Int.fdiv (Int.fdiv x (2^16)) (2^8)))))then
 ((Yj)[(Int.toNat (IntKind.wrap .u8 (Int.fdiv (Int.fdiv x (2^16)) (2^8))))]?).bind fun x0=>
 some (IntKind.wrap .i64 ((IntKind.wrap .i64 (16+8))+(IntKind.wrap .i64 (UInt8.toNat x0:Int))))
 else none)
 else
  (bif(decide (0≤(IntKind.wrap .u8 (Int.fdiv x (2^16)))))then
  ((Yj)[(Int.toNat (IntKind.wrap .u8 (Int.fdiv x (2^16))))]?).bind fun x1=>
  some (IntKind.wrap .i64 (16+(IntKind.wrap .i64 (UInt8.toNat x1:Int))))
 else none))
 else
  (bif(decide (256≤x))then
  (bif(decide (0≤(IntKind.wrap .u8 (Int.fdiv x (2^8)))))then
  ((Yj)[(Int.toNat (IntKind.wrap .u8 (Int.fdiv x (2^8))))]?).bind fun x2=>
  some (IntKind.wrap .i64 ((IntKind.wrap .i64 (0+8))+(IntKind.wrap .i64 (UInt8.toNat x2:Int))))
 else none)
 else
  (bif(decide (0≤(IntKind.wrap .u8 x)))then
  ((Yj)[(Int.toNat (IntKind.wrap .u8 x))]?).bind fun x3=>
  some (IntKind.wrap .i64 (0+(IntKind.wrap .i64 (UInt8.toNat x3:Int))))
 else none)))
def nth(a:List Int)(i:Nat):Int:=a[i]?.getD 0
theorem yz{a:List Int}(h:Wd a)(i:Nat):0≤nth a i∧nth a i<4294967296:=by
 unfold nth;cases hi:a[i]? with
 | none=>exact⟨Int.le_refl _,by decide⟩
 | some x=>exact h x (zO hi)
theorem Q1{a:List Int}(h:Wd a)(i:Nat):At a (i:Int)=some (nth a i):=by
 unfold At nth;by_cases hi:i<a.length
 · have hx:=h a[i] (List.getElem_mem hi)
   have e:((i:Int)<(a.length:Int)):=by omega
   simp only[JN,zA hi,zh e,zg,zm,Option.getD_some];rw[yd hx.1 (by omega)]
 · have e : ¬((i:Int)<(a.length:Int)):=by omega
   rw[Kk (by omega),zq e];rfl
theorem jS(a:List Int)(i:Nat):qk (a.take (i+1))=qk (a.take i)+4294967296^i*(nth a i).toNat:=by
 unfold nth;by_cases hi:i<a.length
 · rw[List.take_succ_eq_append_getElem hi,yV,zA hi]
   simp[qk,Ka,Vg (Wg hi)]
 · rw[zP (by omega),zP (by omega),Kk (by omega)];simp
theorem Zr(l:List T):sub l 0 l.length=some l:=by
 unfold sub;rw[show Nat.ble (0+l.length) l.length=true by rw[Wj];omega];simp
theorem JU(l:List Int):yC 1 (l.map fun x=>T.s (.int .u32 x))=some l:=qdc (u:=1) (by decide) l
abbrev eW(x:Int):T:=T.s (.int .u32 x)
theorem qjC(a b:List Int)(ha:Wd a)(hb:Wd b)(N:Nat)(hN:N≤549755813887):∀(k i:Nat) (out:List Int) (c:Int),i+k=N→out.length=i→Wd out→0≤c→c≤1 →
 qk out+4294967296^i*c.toNat=qk (a.take i)+qk (b.take i) →
 ∃(out':List Int) (c':Int),out'.length=N∧Wd out'∧0≤c'∧c'≤1∧qk out'+4294967296^N*c'.toNat=qk (a.take N)+qk (b.take N) ∧
  ∃n,itP n qhZ (a,b,i,c,(N:Int),(i:Int),out.map eW,())=some (a,b,N,c',(N:Int),(N:Int),out'.map eW,())
 | 0,i,out,c,hk,ho,hw,hc0,hc1,hv=>by
  have:i=N:=by omega
  subst this;exact⟨out,c,ho,hw,hc0,hc1,hv,J9 (by simp[qhZ])⟩
 | k+1,i,out,c,hk,ho,hw,hc0,hc1,hv=>by
  have hi:(i:Int)<N:=by omega
  obtain⟨x0,x1⟩:=yz ha i;obtain⟨y0,y1⟩:=yz hb i;have e1:IntKind.u64.wrap (nth a i+nth b i)=nth a i+nth b i:=yd (by omega) (by omega)
  have e2:IntKind.u64.wrap (c+(nth a i+nth b i))=c+(nth a i+nth b i):=yd (by omega) (by omega)
  have e3:IntKind.i64.wrap ((i:Int)+1)=((i+1:Nat):Int):=by rw[w64 (by omega) (by omega)];rfl
  obtain⟨s,hs⟩:∃s:Nat,c+(nth a i+nth b i)=(s:Int):=⟨(c+(nth a i+nth b i)).toNat,by omega⟩
  have e6:IntKind.u64.wrap (s:Int)=(s:Int):=yd (by omega) (by omega)
  have e4:IntKind.u32.wrap (s:Int)=((s % 4294967296:Nat):Int):=by rw[wrap_u32];omega
  have e5:Int.fdiv (s:Int) (2^32)=((s / 4294967296:Nat):Int):=by
   rw[Vh _ (by decide)];rfl
  obtain⟨out',c',h1,h2,h3,h4,h5,h6⟩:=qjC a b ha hb N hN k (i+1) (out++[((s % 4294967296:Nat):Int)]) ((s / 4294967296:Nat):Int) (by omega) (by simp[ho])
   (hw.app (.cons (by omega) (by omega) .nil)) (by omega) (by omega) (by
     rw[yV,jS,jS,ho];simp only[qk,VE,KQ,zn];have hp:4294967296^(i+1)*(s / 4294967296)+4294967296^i*(s % 4294967296)=4294967296^i*s:=by
      rw[Ke,zB,← KB];congr 1;omega
     have hq:4294967296^i*s=4294967296^i*c.toNat+4294967296^i*(nth a i).toNat+4294967296^i*(nth b i).toNat:=by
      rw[← KB,← KB];congr 1;omega
     omega)
  refine⟨out',c',h1,h2,h3,h4,h5,Yx ?_ h6⟩
  simp only[qhZ,Q1 ha,Q1 hb,zm,e1,e3,hs,e6,e4,e5,zh hi,zg];have hb1:Nat.beq i (out.map eW).length=true:=by rw[zV,ho];exact Vk _
  have hb2:Nat.ble ((out.map eW).length+[eW ((s % 4294967296:Nat):Int)].length) 549755813888=true:=by
   rw[Wj,zV,ho];simp;omega
  rw[hb1,hb2];simp[ho]
def sm(n:Nat):Bool:=Nat.ble n.log2 8796093022208
def qgA(p:List Int×List Int):Option (List Int):=bif Nat.ble (max p.1.length p.2.length) 549755813887 then some (ofN (qk p.1+qk p.2))else none
theorem qw2(p:List Int×List Int)(y:List Int)(hg:(dc (cQ 1 1) (d1 (cQ 1 1))).good p)(h:qgA p=some y):∃n,Add n p.1 p.2=some y:=by
 obtain⟨a,b⟩:=p;obtain⟨⟨ha,la⟩,hb,lb⟩:=hg;obtain⟨hm,h⟩:=qL h;have:=soi h;subst this
 have hm:=zx hm;obtain⟨out,c,h1,h2,h3,h4,h5,n,h6⟩:=qjC a b (Wd.of ha) (Wd.of hb) (max a.length b.length) hm (max a.length b.length) 0 [] 0 (by omega) rfl .nil (by omega) (by omega) (by simp[qk])
 refine⟨n,?_⟩
 unfold Add;have em:max (a.length:Int) (b.length:Int)=((max a.length b.length:Nat):Int):=by omega
 rw[em];rw[show(a,b,0,(0:Int),((max a.length b.length:Nat):Int),(0:Int),([]:List T),())=(a,b,0,(0:Int),((max a.length b.length:Nat):Int),((0:Nat):Int),([]:List Int).map eW,()) from rfl,h6];simp only[zm];have e4:IntKind.u32.wrap c=c:=qjj h3 (by omega)
 have hb1:Nat.beq (max a.length b.length) (out.map eW).length=true:=by rw[zV,h1];exact Vk _
 have hb2:Nat.ble ((out.map eW).length+[eW c].length) 549755813888=true:=by
  rw[Wj,zV,h1];simp;omega
 have hu:yC 1 (out.map eW++[eW c])=some (out++[c]):=by
  have:=JU (out++[c])
  rwa [Kr]at this
 rw[e4,hb1,hb2];simp only[Vi,zg,Zr,zm,hu];have hv:qk (out++[c])=qk a+qk b:=by
  rw[yV,h1];simp only[qk,VE,KQ];rw[h5,zP (by omega),zP (by omega)]
 show some (ofN (qk (out++[c])))=_
 rw[hv]
theorem qqC(a b x y B:Nat)(hx:a<B)(hy:b<B)(hne:x≠y):Qm (a+B*x) (b+B*y)=if x<y then -1 else 1:=by
 unfold Qm;by_cases h:x<y
 · have:B*x+B≤B*y:=by rw[← Nat.mul_succ];exact z8 _ h
   rw[z6 (by omega),z6 h]
 · have:B*y+B≤B*x:=by rw[← Nat.mul_succ];exact z8 _ (by omega)
   rw[zQ (by omega),zQ (by omega),zQ h]
theorem Qu:∀(a:List Int),Wd a→qk a<4294967296^a.length
 | [],_=>by simp[qk]
 | x::a,h=>by
  have:=Qu a h.tail
  have:=h.head
  simp only[qk,zf,Ke];omega
theorem Qv{a:List Int}(h:Wd a)(i:Nat):qk (a.take i)<4294967296^i:=by
 have h1:=Qu (a.take i) (fun x hx=>h x (V8 hx))
 exact Kv h1 (Kg (by omega) (by rw[Ka];omega))
def qk9(a b:List Int)(i:Nat)(o:Option (Lp (List Int×List Int×Int×Unit) Int)):Prop :=
 (Qm (qk (a.take i)) (qk (b.take i))=0∧o=some (.exit 0 (a,b,-1,())))∨(Qm (qk (a.take i)) (qk (b.take i))≠0∧o=some (.ret (Qm (qk (a.take i)) (qk (b.take i)))))
theorem qjD(a b:List Int)(ha:Wd a)(hb:Wd b):∀(i:Nat),i≤9223372036854775807→∃n,qk9 a b i (itP n qbj (a,b,(i:Int)-1,()))
 | 0,_=>⟨1,.inl ⟨by simp[Qm,qk],by simp[itP,qbj]⟩⟩
 | i+1,hi=>by
  obtain⟨x0,x1⟩:=yz ha i;obtain⟨y0,y1⟩:=yz hb i;have e0:((i+1:Nat):Int)-1=(i:Int):=by omega
  rw[e0];have e3:IntKind.i64.wrap ((i:Int)-1)=(i:Int)-1:=w64 (by omega) (by omega)
  by_cases hxy:nth a i=nth b i
  · obtain⟨n,hn⟩:=qjD a b ha hb i (by omega)
    refine⟨n+1,?_⟩
    have hst:qbj (a,b,(i:Int),())=some (.inl (a,b,(i:Int)-1,())):=by
     simp[qbj,Q1 ha,Q1 hb,hxy,e3]
    rw[jR,hst];have he:Qm (qk (a.take (i+1))) (qk (b.take (i+1)))=Qm (qk (a.take i)) (qk (b.take i)):=by
     rw[jS,jS,hxy];unfold Qm;simp
    unfold qk9 at hn ⊢
    rw[he];exact hn
  · refine⟨1,.inr ?_⟩
    have he:=qqC (qk (a.take i)) (qk (b.take i)) (nth a i).toNat (nth b i).toNat (4294967296^i) (Qv ha i) (Qv hb i) (by omega)
    rw[← jS,← jS]at he;rw[he,jR];by_cases hlt:nth a i<nth b i
    · rw[z6 (by omega)]
      exact⟨by decide,by simp[qbj,Q1 ha,Q1 hb,hxy,hlt]⟩
    · rw[zQ (by omega)]
      exact⟨by decide,by simp[qbj,Q1 ha,Q1 hb,hxy,hlt]⟩
def qvr(p:List Int×List Int):Option Int:=some (Qm (qk p.1) (qk p.2))
theorem qw3(p:List Int×List Int)(y:Int)(hg:(dc (cQ 1 1) (d1 (cQ 1 1))).good p)(h:qvr p=some y):∃n,Cmp n p.1 p.2=some y:=by
 obtain⟨a,b⟩:=p;obtain⟨⟨ha,la⟩,hb,lb⟩:=hg;have:=soi h;subst this
 have la':a.length≤9223372036854775807:=by have:=la;rw[Jf]at this;exact this
 have lb':b.length≤9223372036854775807:=by have:=lb;rw[Jf]at this;exact this
 have em:max (a.length:Int) (b.length:Int)=((max a.length b.length:Nat):Int):=by omega
 obtain⟨n,hn⟩:=qjD a b (Wd.of ha) (Wd.of hb) (max a.length b.length) (by omega)
 refine⟨n,?_⟩
 unfold Cmp;rw[em,w64 (by omega) (by omega)];unfold qk9 at hn;rw[zP (by omega),zP (by omega)]at hn;rcases hn with⟨h1,h2⟩|⟨h1,h2⟩
 · rw[h2,h1];rfl
 · rw[h2];rfl
end
end Su
end
section
namespace Su
open Go Fly
noncomputable section
def Len  (a:(List Int)):Option Int :=
 (bif(decide ((((List.length (ofN (qk a))):Nat):Int)=0))then
 some 0
 else
  (idx (ofN (qk a)) (IntKind.wrap .i64 ((((List.length (ofN (qk a))):Nat):Int)-1))).bind fun x0=>
  (qjB x0).bind fun x1=>
  some (IntKind.wrap .i64 ((IntKind.wrap .i64 (32*(IntKind.wrap .i64 ((((List.length (ofN (qk a))):Nat):Int)-1))))+x1)))
def Bit  (a:(List Int))(i:Int):Option Int :=
 (bif(decide (i<0))then
 some 0
 else
  (bif(decide ((IntKind.wrap .i64 (32*(List.length a:Int)))≤i))then
  some 0
 else
  (idx a (IntKind.wrap .i64 (Int.tdiv i 32))).bind fun x0=>
  (bif(decide (0≤(Int.tmod i 32)))then
  some (IntKind.wrap .u64 (Fly.jj Go.BinOp.and .u32 (Int.fdiv x0 (2^(min (Int.toNat (Int.tmod i 32)) 32))) 1))
 else none)))
def qe8:Stp ((List Int)×Nat×(List Int)×Int×Int×Int×Int×Int×(List Int)×Int×Int×(List T)×Unit):=fun p2=>(bif(decide (p2.2.2.2.2.2.2.2.2.2.2.1<p2.2.2.2.2.2.2.2.2.2.1))then
 (idx p2.2.2.2.2.2.2.2.2.1 p2.2.2.2.2.2.2.2.2.2.2.1).bind fun x3=>
 (bif((true&&(decide (0≤(IntKind.wrap .i64 (p2.2.2.2.2.2.1+p2.2.2.2.2.2.2.2.2.2.2.1)))))&&(decide ((IntKind.wrap .i64 (p2.2.2.2.2.2.1+p2.2.2.2.2.2.2.2.2.2.2.1))<(p2.2.1:Int))))then
 ((p2.2.2.2.2.2.2.2.2.2.2.2.1)[(0+(Int.toNat (IntKind.wrap .i64 (p2.2.2.2.2.2.1+p2.2.2.2.2.2.2.2.2.2.2.1))))]?).bind fun x4=>
 (ldT x4 0 false 1).bind fun x5=>
 (asI .u32 (.t x5)).bind fun x6=>
 (bif((true&&(decide (0≤(IntKind.wrap .i64 (p2.2.2.2.2.2.1+p2.2.2.2.2.2.2.2.2.2.2.1)))))&&(decide ((IntKind.wrap .i64 (p2.2.2.2.2.2.1+p2.2.2.2.2.2.2.2.2.2.2.1))<(p2.2.1:Int))))then
 ((p2.2.2.2.2.2.2.2.2.2.2.2.1)[(0+(Int.toNat (IntKind.wrap .i64 (p2.2.2.2.2.2.1+p2.2.2.2.2.2.2.2.2.2.2.1))))]?).bind fun x7=>
 (asI .u32 (.t x7)).bind fun x8=>
 some (.inl (p2.1,p2.2.1,p2.2.2.1,p2.2.2.2.1,p2.2.2.2.2.1,p2.2.2.2.2.2.1,p2.2.2.2.2.2.2.1,(Int.fdiv (IntKind.wrap .u64 (p2.2.2.2.2.2.2.2.1+(IntKind.wrap .u64 ((IntKind.wrap .u64 ((IntKind.wrap .u64 p2.2.2.2.2.2.2.1)*(IntKind.wrap .u64 x3)))+(IntKind.wrap .u64 x6))))) (2^32)),p2.2.2.2.2.2.2.2.2.1,p2.2.2.2.2.2.2.2.2.2.1,(IntKind.wrap .i64 (p2.2.2.2.2.2.2.2.2.2.2.1+1)),(List.set p2.2.2.2.2.2.2.2.2.2.2.2.1 (0+(Int.toNat (IntKind.wrap .i64 (p2.2.2.2.2.2.1+p2.2.2.2.2.2.2.2.2.2.2.1)))) (T.s (.int .u32 (IntKind.wrap .u32 (IntKind.wrap .u64 (p2.2.2.2.2.2.2.2.1+(IntKind.wrap .u64 ((IntKind.wrap .u64 ((IntKind.wrap .u64 p2.2.2.2.2.2.2.1)*(IntKind.wrap .u64 x3)))+(IntKind.wrap .u64 x6))))))))),()))
 else none)
 else none)
 else
  some (.inr (p2.1,p2.2.1,p2.2.2.1,p2.2.2.2.1,p2.2.2.2.2.1,p2.2.2.2.2.2.1,p2.2.2.2.2.2.2.1,p2.2.2.2.2.2.2.2.1,p2.2.2.2.2.2.2.2.2.1,p2.2.2.2.2.2.2.2.2.2.1,p2.2.2.2.2.2.2.2.2.2.2.1,p2.2.2.2.2.2.2.2.2.2.2.2.1,())))
def qe9(fu:Nat):Stp ((List Int)×Nat×(List Int)×Int×Int×(List T)×Unit):=fun p0=>(bif(decide (p0.2.2.2.2.1<p0.2.2.2.1))then
 (idx p0.2.2.1 p0.2.2.2.2.1).bind fun x1=>
 (itP fu (qe8) (p0.1,p0.2.1,p0.2.2.1,p0.2.2.2.1,p0.2.2.2.2.1,p0.2.2.2.2.1,x1,(0:Int),p0.1,(List.length p0.1:Int),(0:Int),p0.2.2.2.2.2.1,())).bind fun x9=>
 (bif((true&&(decide (0≤(IntKind.wrap .i64 (x9.2.2.2.2.2.1+(List.length x9.1:Int))))))&&(decide ((IntKind.wrap .i64 (x9.2.2.2.2.2.1+(List.length x9.1:Int)))<(x9.2.1:Int))))then
 ((x9.2.2.2.2.2.2.2.2.2.2.2.1)[(0+(Int.toNat (IntKind.wrap .i64 (x9.2.2.2.2.2.1+(List.length x9.1:Int)))))]?).bind fun x10=>
 (asI .u32 (.t x10)).bind fun x11=>
 some (.inl (x9.1,x9.2.1,x9.2.2.1,x9.2.2.2.1,(IntKind.wrap .i64 (x9.2.2.2.2.1+1)),(List.set x9.2.2.2.2.2.2.2.2.2.2.2.1 (0+(Int.toNat (IntKind.wrap .i64 (x9.2.2.2.2.2.1+(List.length x9.1:Int))))) (T.s (.int .u32 (IntKind.wrap .u32 x9.2.2.2.2.2.2.2.1)))),()))
 else none)
 else
  some (.inr (p0.1,p0.2.1,p0.2.2.1,p0.2.2.2.1,p0.2.2.2.2.1,p0.2.2.2.2.2.1,())))
def Mul  (fu:Nat)(a:(List Int))(b:(List Int)):Option (List Int) :=
 (bif(((true&&(decide (0≤(IntKind.wrap .i64 ((List.length a:Int)+(List.length b:Int))))))&&(decide ((IntKind.wrap .i64 ((List.length a:Int)+(List.length b:Int)))≤(IntKind.wrap .i64 ((List.length a:Int)+(List.length b:Int))))))&&(decide ((IntKind.wrap .i64 ((List.length a:Int)+(List.length b:Int)))≤549755813888)))then
 (itP fu (qe9 fu) (b,(Int.toNat (IntKind.wrap .i64 ((List.length a:Int)+(List.length b:Int)))),a,(List.length a:Int),(0:Int),(List.replicate (Int.toNat (IntKind.wrap .i64 ((List.length a:Int)+(List.length b:Int)))) (T.s (.int .u32 0))),())).bind fun x12=>
 (Su.sub x12.2.2.2.2.2.1 0 x12.2.1).bind fun x13=>
 (Su.sub x12.2.2.2.2.2.1 0 x12.2.1).bind fun x14=>
 (Su.sub x12.2.2.2.2.2.1 0 x12.2.1).bind fun x15=>
 ((yC 1 x13).bind fun x16=>
 some (ofN (qk x16))).bind fun x17=>
 some x17
 else none)
theorem Z6:∀(l:List Int) (j:Nat) (y:Int),j<l.length→qk (l.set j y)+4294967296^j*(nth l j).toNat=qk l+4294967296^j*y.toNat
 | [],j,y,h=>by simp at h
 | x::l,0,y,_=>by simp[qk,nth];omega
 | x::l,j+1,y,h=>by
  have ih:=Z6 l j y (by simpa using h)
  have e:nth (x::l) (j+1)=nth l j:=by simp[nth]
  rw[e];simp only[WB,qk,Ke];have h1:4294967296^j*4294967296*(nth l j).toNat=4294967296*(4294967296^j*(nth l j).toNat):=by rw[zL (4294967296^j) 4294967296,zB]
  have h2:4294967296^j*4294967296*y.toNat=4294967296*(4294967296^j*y.toNat):=by rw[zL (4294967296^j) 4294967296,zB]
  rw[h1,h2];omega
theorem Wd.set{l:List Int}(h:Wd l){y:Int}(h0:0≤y)(h1:y<4294967296)(j:Nat):Wd (l.set j y):=fun x hx=>by
 rcases Wt hx with hx|rfl
 · exact h x hx
 · exact⟨h0,h1⟩
theorem qbk{l:List Int}{j k:Nat}(y:Int)(h:j≠k):nth (l.set j y) k=nth l k:=by unfold nth;rw[Kh h]
theorem Zs{l:List Int}{j:Nat}(h:j<l.length):(l.map eW)[j]?=some (eW (nth l j)):=by
 rw[Ku,zA h];simp[nth,zA h]
theorem qdP(l:List Int)(j:Nat)(y:Int):(l.map eW).set j (eW y)=(l.set j y).map eW:=by rw[WF]
theorem Q3(κ:IntKind)(y:Int):asI κ (.t (.s (.int κ y)))=some y:=by simp[asI]
theorem YL(y:Int):ldT (eW y) 0 false 1=some (eW y):=rfl
theorem qqD(a b:List Int)(hb:Wd b)(x t:Int)(hx0:0≤x)(hx1:x<4294967296)(i:Nat)(hlen:a.length+b.length≤549755813888)(hi:i<a.length)(out0:List Int):∀(m k:Nat) (out:List Int) (c:Int),k+m=b.length→out.length=a.length+b.length→Wd out →
 0≤c→c<4294967296→(∀j,i+k≤j→nth out j=nth out0 j)→qk out+4294967296^(i+k)*c.toNat=qk out0+4294967296^i*(x.toNat*qk (b.take k)) →
 ∃(out':List Int) (c':Int),out'.length=a.length+b.length∧Wd out'∧0≤c'∧c'<4294967296∧(∀j,i+b.length≤j→nth out' j=nth out0 j)∧qk out'+4294967296^(i+b.length)*c'.toNat=qk out0+4294967296^i*(x.toNat*qk b) ∧
  ∃N,∀n,N≤n→itP n qe8 (b,a.length+b.length,a,(a.length:Int),t,(i:Int),x,c,b,(b.length:Int),(k:Int),out.map eW,()) =
   some (b,a.length+b.length,a,(a.length:Int),t,(i:Int),x,c',b,(b.length:Int),(b.length:Int),out'.map eW,())
 | 0,k,out,c,hk,ho,hw,hc0,hc1,hz,hv=>by
  have:k=b.length:=by omega
  subst this;refine⟨out,c,ho,hw,hc0,hc1,hz,by rw[zP (zI _)]at hv;exact hv,1,fun n hn=>?_⟩
  obtain⟨n,rfl⟩:∃q,n=q+1:=⟨n-1,by omega⟩
  rw[jR];simp[qe8]
 | m+1,k,out,c,hk,ho,hw,hc0,hc1,hz,hv=>by
  have hkb:k<b.length:=by omega
  have hj:i+k<out.length:=by omega
  obtain⟨y0,y1⟩:=yz hb k;obtain⟨o0,o1⟩:=yz hw (i+k)
  have hy:idx b (k:Int)=some (nth b k):=by rw[JN,zA hkb];simp[nth,zA hkb]
  obtain⟨X,rfl⟩:∃X:Nat,x=(X:Int):=⟨x.toNat,by omega⟩
  obtain⟨Y,hY⟩:∃Y:Nat,nth b k=(Y:Int):=⟨(nth b k).toNat,by omega⟩
  obtain⟨Z,hZ⟩:∃Z:Nat,nth out (i+k)=(Z:Int):=⟨(nth out (i+k)).toNat,by omega⟩
  obtain⟨C,rfl⟩:∃C:Nat,c=(C:Int):=⟨c.toNat,by omega⟩
  have hXY:X*Y≤4294967295*4294967295:=Vu (by omega) (by omega)
  have e0:IntKind.i64.wrap ((i:Int)+(k:Int))=((i+k:Nat):Int):=by rw[w64 (by omega) (by omega)];rfl
  have e1:IntKind.u64.wrap (X:Int)=X:=yd (by omega) (by omega)
  have e2:IntKind.u64.wrap (Y:Int)=Y:=yd (by omega) (by omega)
  have e3:IntKind.u64.wrap (Z:Int)=Z:=yd (by omega) (by omega)
  have e4:IntKind.u64.wrap ((X:Int)*(Y:Int))=((X*Y:Nat):Int):=by rw[← Vw];exact yd (by omega) (by omega)
  have e5:IntKind.u64.wrap (((X*Y:Nat):Int)+(Z:Int))=((X*Y+Z:Nat):Int):=by rw[yd (by omega) (by omega)];rfl
  have e6:IntKind.u64.wrap ((C:Int)+((X*Y+Z:Nat):Int))=((C+(X*Y+Z):Nat):Int):=by rw[yd (by omega) (by omega)];rfl
  have e9:IntKind.i64.wrap ((k:Int)+1)=((k+1:Nat):Int):=by rw[w64 (by omega) (by omega)];rfl
  generalize hS:C+(X*Y+Z)=S at *
  have e7:IntKind.u32.wrap (S:Int)=((S % 4294967296:Nat):Int):=by rw[wrap_u32];omega
  have e8:Int.fdiv (S:Int) (2^32)=((S / 4294967296:Nat):Int):=by
   rw[Vh _ (by decide)];rfl
  have hset:=Z6 out (i+k) ((S % 4294967296:Nat):Int) hj
  rw[hZ]at hset;obtain⟨out',c',h1,h2,h3,h4,h5,h6,N,h7⟩:=qqD a b hb (X:Int) t hx0 hx1 i hlen hi out0 m (k+1) (out.set (i+k) ((S % 4294967296:Nat):Int)) ((S / 4294967296:Nat):Int) (by omega) (by simp[ho])
   (hw.set (by omega) (by omega) _) (by omega) (by omega) (fun j hj=>by rw[qbk _ (by omega)];exact hz j (by omega)) (by
     simp only[zn]at hset hv ⊢;rw[jS,hY];simp only[zn];have hp:4294967296^(i+(k+1))*(S / 4294967296)+4294967296^(i+k)*(S % 4294967296)=4294967296^(i+k)*S:=by
      rw[← Kp,Ke,zB,← KB];congr 1;omega
     have hq:4294967296^(i+k)*S=4294967296^(i+k)*C+4294967296^(i+k)*(X*Y)+4294967296^(i+k)*Z:=by
      rw[← hS,KB,KB,Kp]
     have hr:4294967296^i*(X*(qk (b.take k)+4294967296^k*Y))=4294967296^i*(X*qk (b.take k))+4294967296^(i+k)*(X*Y):=by
      rw[KB,KB,zW]
      congr 1
      rw[KN X,zB]
     rw[hr];omega)
  refine⟨out',c',h1,h2,h3,h4,h5,h6,N+1,fun n hn=>?_⟩
  obtain⟨n,rfl⟩:∃q,n=q+1:=⟨n-1,by omega⟩
  have hst:qe8 (b,a.length+b.length,a,(a.length:Int),t,(i:Int),(X:Int),(C:Int),b,(b.length:Int),(k:Int),out.map eW,()) =
   some (.inl (b,a.length+b.length,a,(a.length:Int),t,(i:Int),(X:Int),((S / 4294967296:Nat):Int),b,(b.length:Int),((k+1:Nat):Int),(out.set (i+k) ((S % 4294967296:Nat):Int)).map eW,())):=by
   have d1:decide ((k:Int)<(b.length:Int))=true:=zh (by omega)
   have d2:decide ((0:Int)≤((i+k:Nat):Int))=true:=zh (by omega)
   have d3:decide (((i+k:Nat):Int)<((a.length+b.length:Nat):Int))=true:=zh (by omega)
   have hg:(out.map eW)[0+((i+k:Nat):Int).toNat]?=some (eW (Z:Int)):=by
    rw[zt,zn,Zs hj,hZ]
   simp only[qe8,d1,zg,hy,hY,zm,e0,d2,d3,Vi,hg,YL,Q3,e1,e2,e3,e4,e5,e6,e7,e8,e9];simp only[zt,zn,qdP]
  rw[jR,hst];exact h7 n (by omega)
theorem qml(a b:List Int)(ha:Wd a)(hb:Wd b)(hlen:a.length+b.length≤549755813888):∀(m i:Nat) (out:List Int),i+m=a.length→out.length=a.length+b.length→Wd out→(∀j,i+b.length≤j→nth out j=0) →
 qk out=qk (a.take i)*qk b →
 ∃out':List Int,out'.length=a.length+b.length∧Wd out'∧qk out'=qk a*qk b ∧
  ∃N,∀fu,N≤fu→∀n,N≤n→itP n (qe9 fu) (b,a.length+b.length,a,(a.length:Int),(i:Int),out.map eW,())=some (b,a.length+b.length,a,(a.length:Int),(a.length:Int),out'.map eW,())
 | 0,i,out,hk,ho,hw,hz,hv=>by
  have:i=a.length:=by omega
  subst this;refine⟨out,ho,hw,by rw[zP (zI _)]at hv;exact hv,1,fun fu _ n hn=>?_⟩
  obtain⟨n,rfl⟩:∃q,n=q+1:=⟨n-1,by omega⟩
  rw[jR];simp[qe9]
 | m+1,i,out,hk,ho,hw,hz,hv=>by
  have hia:i<a.length:=by omega
  obtain⟨x0,x1⟩:=yz ha i;have hx:idx a (i:Int)=some (nth a i):=by rw[JN,zA hia];simp[nth,zA hia]
  obtain⟨o1,c,g1,g2,g3,g4,g5,g6,N1,g7⟩:=qqD a b hb (nth a i) (i:Int) x0 x1 i hlen hia out b.length 0 out 0 (by omega) ho hw (by omega) (by omega) (fun _ _=>rfl) (by simp[qk])
  have hj:i+b.length<o1.length:=by omega
  have hnz:nth o1 (i+b.length)=0:=by rw[g5 _ (zI _)];exact hz _ (zI _)
  have hset:=Z6 o1 (i+b.length) c hj
  rw[hnz]at hset;obtain⟨out',h1,h2,h3,N2,h4⟩:=qml a b ha hb hlen m (i+1) (o1.set (i+b.length) c) (by omega) (by simp[g1]) (g2.set g3 g4 _)
   (fun j hj=>by rw[qbk _ (by omega),g5 j (by omega)];exact hz j (by omega)) (by
     have e:qk (a.take (i+1))*qk b=qk (a.take i)*qk b+4294967296^i*((nth a i).toNat*qk b):=by
      rw[jS,zR,zB]
     simp only[Int.toNat_zero,VE,KQ]at hset;omega)
  refine⟨out',h1,h2,h3,max N1 N2+1,fun fu hfu n hn=>?_⟩
  obtain⟨n,rfl⟩:∃q,n=q+1:=⟨n-1,by omega⟩
  have e9:IntKind.i64.wrap ((i:Int)+1)=((i+1:Nat):Int):=by rw[w64 (by omega) (by omega)];rfl
  have e0:IntKind.i64.wrap ((i:Int)+(b.length:Int))=((i+b.length:Nat):Int):=by rw[w64 (by omega) (by omega)];rfl
  have e7:IntKind.u32.wrap c=c:=qjj g3 g4
  have hst:qe9 fu (b,a.length+b.length,a,(a.length:Int),(i:Int),out.map eW,())=some (.inl (b,a.length+b.length,a,(a.length:Int),((i+1:Nat):Int),(o1.set (i+b.length) c).map eW,())):=by
   have d1:decide ((i:Int)<(a.length:Int))=true:=zh (by omega)
   have d2:decide ((0:Int)≤((i+b.length:Nat):Int))=true:=zh (by omega)
   have d3:decide (((i+b.length:Nat):Int)<((a.length+b.length:Nat):Int))=true:=zh (by omega)
   have hg:(o1.map eW)[0+((i+b.length:Nat):Int).toNat]?=some (eW 0):=by
    rw[zt,zn,Zs hj,hnz]
   have g7':=g7 fu (by omega)
   simp only[Int.natCast_zero]at g7';simp only[qe9,d1,zg,hx,zm,g7',e0,d2,d3,Vi,hg,Q3,e7,e9];simp only[zt,zn,qdP]
  rw[jR,hst];exact h4 fu (by omega) n (by omega)
theorem Zt(n:Nat):qk (List.replicate n 0)=0:=by
 induction n with
 | zero=>rfl
 | succ n ih=>simp[We,qk,ih]
def Qo(p:List Int×List Int):Option (List Int):=bif Nat.ble (p.1.length+p.2.length) 549755813888 then some (ofN (qk p.1*qk p.2))else none
theorem qw4(p:List Int×List Int)(y:List Int)(hg:(dc (cQ 1 1) (d1 (cQ 1 1))).good p)(h:Qo p=some y):∃n,Mul n p.1 p.2=some y:=by
 obtain⟨a,b⟩:=p;obtain⟨⟨ha,la⟩,hb,lb⟩:=hg;obtain⟨hm,h⟩:=qL h;have:=soi h;subst this
 have hlen:a.length+b.length≤549755813888:=zx hm
 obtain⟨out,h1,h2,h3,N,h4⟩:=qml a b (Wd.of ha) (Wd.of hb) hlen a.length 0 (List.replicate (a.length+b.length) 0) (by omega) (by simp) (fun x hx=>by
  have:=(Vc.1 hx).2;subst this;exact⟨Int.le_refl _,by decide⟩) (fun j _=>by unfold nth;rw[K9];split <;> rfl) (by simp[Zt,qk])
 refine⟨N,?_⟩
 have e0:IntKind.i64.wrap ((a.length:Int)+(b.length:Int))=((a.length+b.length:Nat):Int):=by rw[w64 (by omega) (by omega)];rfl
 have d1:decide ((0:Int)≤((a.length+b.length:Nat):Int))=true:=zh (by omega)
 have d2:decide (((a.length+b.length:Nat):Int)≤((a.length+b.length:Nat):Int))=true:=zh (by omega)
 have d3:decide (((a.length+b.length:Nat):Int)≤549755813888)=true:=zh (by omega)
 have h4':=h4 N (zI _) N (zI _)
 rw[VX,Int.natCast_zero]at h4';unfold Mul;simp only[e0,d1,d2,d3,Vi,zg,zn];rw[show(T.s (.int .u32 0))=eW 0 from rfl,h4'];have hs:sub (out.map eW) 0 (a.length+b.length)=some (out.map eW):=by
  have:=Zr (out.map eW)
  rwa [zV,h1]at this
 simp only[zm,hs,JU];show some (ofN (qk out))=_
 rw[h3]
end
end Su
end
section
namespace Su
open Go Fly
noncomputable section
def qt3  (a:(List Int)):Option (Int×Bool) :=
 (Len a).bind fun x0=>
 (bif(decide (64<x0))then
 some ((0:Int),false)
 else
  (At a 0).bind fun x1=>
  (At a 1).bind fun x2=>
  some ((Fly.jj Go.BinOp.or .u64 x1 (IntKind.wrap .u64 (x2*(2^32)))),true))
theorem qyK:((List.range 256).all fun i=>decide ((Yj[i]?).map UInt8.toNat=some (qu i)))=true:=by decide +kernel
theorem qb5{i:Nat}(h:i<256):∃b:UInt8,Yj[i]?=some b∧b.toNat=qu i:=by
 have:=Ko.1 qyK i (WT.2 h)
 have h2:=KM this;cases hb:Yj[i]? with
 | none=>rw[hb]at h2;cases h2
 | some b=>rw[hb]at h2;exact⟨b,rfl,by simpa using h2⟩
theorem qgB(x:Nat)(h:x<4294967296):qjB (x:Int)=some (qu x:Int):=by
 have b32:qu x≤32:=ye.2 (by simpa using h)
 have fd:∀(y k:Nat),Int.fdiv (y:Int) (2^k)=((y / 2^k:Nat):Int):=fun y k=>by
  rw[Vh _ (by have:=zU k;exact_mod_cast Wv _)];simp
 have w8:∀(y:Nat),y<256→IntKind.u8.wrap (y:Int)=y:=fun y hy=>wu8 (by omega) (by omega)
 have wn:∀(y:Nat),y<256→IntKind.i64.wrap (y:Int)=y:=fun y hy=>w64 (by omega) (by omega)
 have ws:∀(y z:Nat),y<256→z<256→IntKind.i64.wrap ((y:Int)+(z:Int))=((y+z:Nat):Int):=fun y z hy hz=>by rw[w64 (by omega) (by omega)];rfl
 have bl:∀y,y<256→qu y≤8:=fun y hy=>ye.2 (by simpa using hy)
 unfold qjB;by_cases h1:65536≤x
 · have d1:decide ((65536:Int)≤(x:Int))=true:=zh (by omega)
   rw[d1,zg,fd];have hb:=Y0 (n:=x) (k:=16) h1
   by_cases h2:256≤x / 2^16
   · have d2:decide ((256:Int)≤((x / 2^16:Nat):Int))=true:=zh (by omega)
     have hlt:x / 2^16 / 2^8<256:=by omega
     obtain⟨b,hb1,hb2⟩:=qb5 hlt;have hb':=Y0 (n:=x / 2^16) (k:=8) h2
     have:=bl _ hlt
     rw[d2,zg,fd,w8 _ hlt,zh (by omega),zg,zn,hb1,zm,hb2];rw[wn (qu _) (by omega),show((16:Int)+8)=((24:Nat):Int) from rfl,wn 24 (by omega),ws _ _ (by omega) (by omega)]
     congr 2;omega
   · have d2:decide ((256:Int)≤((x / 2^16:Nat):Int))=false:=zq (by omega)
     have hlt:x / 2^16<256:=by omega
     obtain⟨b,hb1,hb2⟩:=qb5 hlt;have:=bl _ hlt
     rw[d2,zo,w8 _ hlt,zh (by omega),zg,zn,hb1,zm,hb2];rw[wn (qu _) (by omega),show(16:Int)=((16:Nat):Int) from rfl,ws _ _ (by omega) (by omega)]
     congr 2;omega
 · have d1:decide ((65536:Int)≤(x:Int))=false:=zq (by omega)
   rw[d1,zo];by_cases h2:256≤x
   · have d2:decide ((256:Int)≤(x:Int))=true:=zh (by omega)
     have hlt:x / 2^8<256:=by omega
     obtain⟨b,hb1,hb2⟩:=qb5 hlt;have hb':=Y0 (n:=x) (k:=8) h2
     have:=bl _ hlt
     rw[d2,zg,fd,w8 _ hlt,zh (by omega),zg,zn,hb1,zm,hb2];rw[wn (qu _) (by omega),show((0:Int)+8)=((8:Nat):Int) from rfl,wn 8 (by omega),ws _ _ (by omega) (by omega)]
     congr 2;omega
   · have d2:decide ((256:Int)≤(x:Int))=false:=zq (by omega)
     have hlt:x<256:=by omega
     obtain⟨b,hb1,hb2⟩:=qb5 hlt;have:=bl _ hlt
     rw[d2,zo,w8 _ hlt,zh (by omega),zg,zn,hb1,zm,hb2];rw[wn (qu _) (by omega),Int.zero_add,wn _ (by omega)]
theorem qfa(v:Nat):v≠0→∃(l:List Int) (x:Nat),ofN v=l++[(x:Int)]∧x≠0∧x<4294967296∧Wd l∧v=qk l+4294967296^l.length*x:=by
 induction v using Nat.strongRecOn with
 | _ v ih=>
  intro hv;rw[qb4 hv];by_cases hB:v<4294967296
  · refine⟨[],v,?_,hv,hB,.nil,by simp[qk]⟩
    rw[KT hB,Vo hB,Yh];rfl
  · obtain⟨l,x,h1,h2,h3,h4,h5⟩:=ih (v / 4294967296) (by omega) (by omega)
    refine⟨((v % 4294967296:Nat):Int)::l,x,by rw[h1];rfl,h2,h3,.cons (by omega) (by omega) h4,?_⟩
    simp only[qk,zf,Ke,zn];have e:4294967296^l.length*4294967296*x=4294967296*(4294967296^l.length*x):=by rw[zL (4294967296^l.length) 4294967296,zB]
    rw[e];have:=Vb v 4294967296
    rw[h5]at this;rw[KB]at this;omega
theorem qdf(k:Nat):(4294967296:Nat)^k=2^(32*k):=by rw[Nat.pow_mul]
theorem qgC{l:List Int}{x:Nat}(hw:Wd l)(hx:x≠0):qu (qk l+4294967296^l.length*x)=32*l.length+qu x:=by
 have h1:=Qu l hw;have hp:0<4294967296^l.length:=Nat.pow_pos (by omega)
 have h2:2^(32*l.length)≤qk l+4294967296^l.length*x:=by
  rw[← qdf];have:4294967296^l.length*1≤4294967296^l.length*x:=z8 _ (by omega)
  omega
 rw[Y0 h2,← qdf,VZ _ _ hp,Vo h1,zt]
theorem qh0(a:List Int)(h:qu (qk a)<4611686018427387904):Len a=some (qu (qk a):Int):=by
 unfold Len;generalize qk a=v at h ⊢
 by_cases hv:v=0
 · subst hv;rfl
 · obtain⟨l,x,h1,h2,h3,h4,h5⟩:=qfa v hv
   have hb:qu v=32*l.length+qu x:=by rw[h5];exact qgC h4 h2
   have hbx:qu x≤32:=ye.2 (by simpa using h3)
   have hl:(ofN v).length=l.length+1:=by rw[h1];simp
   have d1:decide (((ofN v).length:Int)=0)=false:=zq (by omega)
   have e1:IntKind.i64.wrap (((ofN v).length:Int)-1)=(l.length:Int):=by rw[hl,w64 (by omega) (by omega)];omega
   have e2:IntKind.i64.wrap (32*(l.length:Int))=32*(l.length:Int):=w64 (by omega) (by omega)
   have hi:idx (ofN v) (l.length:Int)=some (x:Int):=by rw[JN,h1];simp
   rw[d1,zo,e1,hi,zm,qgB x h3,zm,e2,w64 (by omega) (by omega),hb];simp
end
end Su
end
