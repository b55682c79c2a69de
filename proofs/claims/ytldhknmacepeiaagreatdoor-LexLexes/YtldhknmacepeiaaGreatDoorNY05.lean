/-
  What functions of the program compute, in plain Lean, and that the evaluator finds it.
-/
import Derived.Test.YtldhknmacepeiaaGreatDoorSuXl
import Derived.Test.YtldhknmacepeiaaGreatDoorRba
set_option linter.unusedVariables false
set_option linter.unusedSimpArgs false
set_option maxRecDepth 10000
section
namespace Su
open Go Fly
noncomputable section
def yAt  (s:ByteArray)(i:Int):Option Int :=
 (bif(decide (i<(ByteArray.size s:Int)))then
 (bif(decide (0≤i))then
 ((s)[i.toNat]?).bind fun x0=>
 some (UInt8.toNat x0:Int)
 else none)
 else
  some 0)
def qzx  (c:Int):Option Bool :=
 (bif(decide (65≤c))then
 (bif(decide (c≤90))then
 some true
 else
  (bif(decide (97≤c))then
  (bif(decide (c≤122))then
  some true
 else
  some (decide (c=95)))
 else
  some (decide (c=95))))
 else
  (bif(decide (97≤c))then
  (bif(decide (c≤122))then
  some true
 else
  some (decide (c=95)))
 else
  some (decide (c=95))))
def qzy  (c:Int):Option Bool :=
 (bif(decide (48≤c))then
 some (decide (c≤57))
 else
  some false)
def ZQ:(ByteArray×ByteArray×Int×Int×Unit)→Option ((ByteArray×ByteArray×Int×Int×Unit) ⊕ (Lp (ByteArray×ByteArray×Int×Int×Unit) Bool)):=fun p0=>(bif(decide (p0.2.2.2.1<(ByteArray.size p0.2.1:Int)))then
 (bif(decide (0≤p0.2.2.2.1))then
 ((p0.2.1)[p0.2.2.2.1.toNat]?).bind fun x1=>
 (bif(decide ((UInt8.toNat x1:Int)=32))then
 (bif(((decide (0≤p0.2.2.1))&&(decide (p0.2.2.1≤p0.2.2.2.1)))&&(decide (p0.2.2.2.1≤(ByteArray.size p0.2.1:Int))))then
 (bif(decide ((ByteArray.extract p0.2.1 p0.2.2.1.toNat p0.2.2.2.1.toNat)=p0.1))then
 some (.inr (.ret true))
 else
  some (.inl (p0.1,p0.2.1,(IntKind.wrap .i64 (p0.2.2.2.1+1)),(IntKind.wrap .i64 (p0.2.2.2.1+1)),())))
 else none)
 else
  some (.inl (p0.1,p0.2.1,p0.2.2.1,(IntKind.wrap .i64 (p0.2.2.2.1+1)),())))
 else none)
 else
  some (.inr (.exit 0 (p0.1,p0.2.1,p0.2.2.1,p0.2.2.2.1,()))))
def qqK  (fu:Nat)(s:ByteArray)(l:ByteArray):Option Bool :=
 (itP fu (ZQ) (s,l,(0:Int),(0:Int),())).bind fun x2=>
 (match x2 with
 | .exit i3 p4=>(bif(Nat.beq i3 0)then
  some false
 else none)
 | .ret o5=>some o5)
def atV(S:List UInt8)(i:Nat):UInt8:=(S[i]?).getD 0
def yP(p:ByteArray×Int):Option Int:=bif decide (0≤p.2)then some (((atV (lb p.1) p.2.toNat).toNat:Nat):Int)else none
theorem J9(S:List UInt8)(i:Nat):yP (bs S,((i:Nat):Int))=some (((atV S i).toNat:Nat):Int):=by
 unfold yP;show(bif decide ((0:Int)≤((i:Nat):Int))then _ else _)=_
 rw[za (by omega)];rfl
theorem qzz(p:ByteArray×Int)(y:Int)(hg:(dc cS (d1 (cI .i64))).good p)(h:yP p=some y):yAt p.1 p.2=some y:=by
 obtain⟨s,i⟩:=p;clear hg;revert h;refine onB (P:=fun s=>yP (s,i)=some y→yAt s i=some y) (fun S h=>?_) s
 obtain⟨h1,h2⟩:=qi h;obtain⟨k,rfl⟩:=zV (zW h1)
 have:=soi h2;subst this
 show yAt (bs S) ((k:Nat):Int)=some (((atV S k).toNat:Nat):Int)
 unfold yAt atV;simp only[qe,zg,qW];by_cases hk:k<S.length
 · rw[bdT (by omega),bdT (by omega),zl hk];rfl
 · rw[bdF (by omega),zA (by omega)];rfl
def Zh(c:Int):Option Bool:=bif decide (0≤c)&&decide (c<256)then some (yp (UInt8.ofNat c.toNat))else none
theorem qqL:(List.range 256).all (fun k=>qzx ((k:Nat):Int) == some (yp (UInt8.ofNat k)))=true:=by decide +kernel
theorem qvL(c:Int)(y:Bool)(hg:(d1 (cI .u8)).good c)(h:Zh c=some y):qzx c=some y:=by
 obtain⟨h1,h2⟩:=qi h;simp only[zk,zD]at h1;obtain⟨k,rfl⟩:=zV h1.1;have:=zX.1 qqL k (Wi.2 (by omega))
 rw[zg]at h2;rw[← h2];exact eq_of_beq this
theorem qhn(c:UInt8):Zh ((c.toNat:Nat):Int)=some (yp c):=by
 have:=c.toNat_lt
 unfold Zh;rw[za (by omega),za (by omega),zg,Vh];rfl
def QF(c:Int):Option Bool:=bif decide (0≤c)&&decide (c<256)then some (isD (UInt8.ofNat c.toNat))else none
theorem qqM:(List.range 256).all (fun k=>qzy ((k:Nat):Int) == some (isD (UInt8.ofNat k)))=true:=by decide +kernel
theorem qvM(c:Int)(y:Bool)(hg:(d1 (cI .u8)).good c)(h:QF c=some y):qzy c=some y:=by
 obtain⟨h1,h2⟩:=qi h;simp only[zk,zD]at h1;obtain⟨k,rfl⟩:=zV h1.1;have:=zX.1 qqM k (Wi.2 (by omega))
 rw[zg]at h2;rw[← h2];exact eq_of_beq this
theorem Jv(c:UInt8):QF ((c.toNat:Nat):Int)=some (isD c):=by
 have:=c.toNat_lt
 unfold QF;rw[za (by omega),za (by omega),zg,Vh];rfl
def qqN{σ:Type}(r:Lp σ Bool):Option Bool:=match r with
 | .exit i3 p4=>(bif(Nat.beq i3 0)then
  some false
 else none)
 | .ret o5=>some o5
theorem qho{S L:List UInt8}(hL:L.length≤1000000):∀(R cur P:List UInt8),P++(cur++R)=L →
 ∃r,(∃n,itP n ZQ (bs S,bs L,((P.length:Nat):Int),((P.length+cur.length:Nat):Int),())=some r)∧qqN r=some (amL S cur R)
 | [],cur,P,h=>by
  have hl:P.length+cur.length=L.length:=by rw[← h];simp
  refine⟨.exit 0 (bs S,bs L,((P.length:Nat):Int),((P.length+cur.length:Nat):Int),()),js ?_,rfl⟩
  unfold ZQ;simp only[qe];rw[bdF (by omega)]
 | c::R,cur,P,h=>by
  have hl:P.length+(cur.length+(R.length+1))=L.length:=by rw[← h];simp
  have hc:L[P.length+cur.length]?=some c:=by
   rw[← h,zO (by omega),K4,zO (zw _),Vz];rfl
  have w:IntKind.i64.wrap (((P.length+cur.length:Nat):Int)+1)=((P.length+cur.length+1:Nat):Int):=by rw[w64 (by omega) (by omega)];omega
  by_cases h32:c=32
  · subst h32
    have ex:(bs L).extract P.length (P.length+cur.length)=bs cur:=by
     rw[jZ,K4,← h,List.drop_left,Wj]
    have e1:amL S cur (32::R)=(cur == S||amL S [] R):=by rw[amL,zr rfl]
    by_cases hq:cur=S
    · refine⟨.ret true,js ?_,by rw[e1,hq];simp[qqN]⟩
      unfold ZQ;simp only[qe,zg,qW,hc,zd,w,ex];rw[bdT (by omega),bdT (by omega),bdT (by rfl),za (show(0:Int)≤((P.length:Nat):Int) by omega),za (show((P.length:Nat):Int)≤((P.length+cur.length:Nat):Int) by omega),za (show((P.length+cur.length:Nat):Int)≤((L.length:Nat):Int) by omega),hq];exact bdT rfl _ _
    · have e2:amL S cur (32::R)=amL S [] R:=by
       rw[e1,show(cur == S)=false by simpa using hq];rfl
      obtain⟨r,hr1,hr2⟩:=qho (S:=S) hL R [] (P++(cur++[32])) (by rw[← h];simp)
      have el:(P++(cur++[32])).length=P.length+cur.length+1:=by simp;omega
      rw[el,KF,Ks]at hr1;refine⟨r,jK ?_ hr1,by rw[e2];exact hr2⟩
      unfold ZQ;simp only[qe,zg,qW,hc,zd,w,ex];rw[bdT (by omega),bdT (by omega),bdT (by rfl),za (show(0:Int)≤((P.length:Nat):Int) by omega),za (show((P.length:Nat):Int)≤((P.length+cur.length:Nat):Int) by omega),za (show((P.length+cur.length:Nat):Int)≤((L.length:Nat):Int) by omega)];exact bdF (fun e=>hq (qen.1 e)) _ _
  · have e2:amL S cur (c::R)=amL S (cur++[c]) R:=by rw[amL,zp h32]
    obtain⟨r,hr1,hr2⟩:=qho (S:=S) hL R (cur++[c]) P (by rw[← h];simp)
    rw[show P.length+(cur++[c]).length=P.length+cur.length+1 by simp;omega]at hr1;refine⟨r,jK ?_ hr1,by rw[e2];exact hr2⟩
    unfold ZQ;simp only[qe,zg,qW,hc,zd,w];rw[bdT (by omega),bdT (by omega),bdF (fun e=>h32 (KJ.1 (show c.toNat=32 by omega)))]
def qhp(p:ByteArray×ByteArray):Option Bool:=bif Nat.ble (lb p.2).length 1000000 then some (amL (lb p.1) [] (lb p.2))else none
theorem qvN(p:ByteArray×ByteArray)(y:Bool)(hg:(dc cS (d1 cS)).good p)(h:qhp p=some y):∃n,qqK n p.1 p.2=some y:=by
 obtain⟨s,l⟩:=p;clear hg;revert h;refine onB (P:=fun s=>qhp (s,l)=some y→∃n,qqK n s l=some y) (fun S=>?_) s
 refine onB (P:=fun l=>qhp (bs S,l)=some y→∃n,qqK n (bs S) l=some y) (fun L h=>?_) l
 obtain⟨h1,h2⟩:=qi h;have:=soi h2;subst this
 simp only[jB]at h1 ⊢;obtain⟨r,⟨n,hn⟩,hr⟩:=qho (S:=S) (zm h1) L [] [] rfl
 refine⟨n,?_⟩
 unfold qqK;exact obs hn (by cases r <;> exact hr)
end
end Su
end
section
namespace Su
open Go Fly
noncomputable section
def qqO:ByteArray:=⟨⟨[116,105,99,107,115,32,105,110,112,117,116,32,118,97,114,32,105,110,105,116,32,115,116,101,112,32,105,102,32,101,108,115,101,32,102,111,114,32,116,114,117,101,32,102,97,108,115,101,32,105,110,116,32,102,108,111,97,116,32,98,111,111,108,32,97,98,115,32,105,110,32]⟩⟩
def yWd  (s:ByteArray):Option Bool :=
 some (amL (lb s) [] (lb qqO))
def qeH:(ByteArray×Int×Unit)→Option ((ByteArray×Int×Unit) ⊕ (Lp (ByteArray×Int×Unit) Bool)):=fun p2=>(bif(decide (p2.2.1<(ByteArray.size p2.1:Int)))then
 (bif(decide (0≤p2.2.1))then
 ((p2.1)[p2.2.1.toNat]?).bind fun x3=>
 (Zh (UInt8.toNat x3:Int)).bind fun x4=>
 (bif(!x4)then
 (bif(decide (0≤p2.2.1))then
 ((p2.1)[p2.2.1.toNat]?).bind fun x5=>
 (QF (UInt8.toNat x5:Int)).bind fun x6=>
 (bif(!x6)then
 some (.inr (.ret false))
 else
  some (.inl (p2.1,(IntKind.wrap .i64 (p2.2.1+1)),())))
 else none)
 else
  some (.inl (p2.1,(IntKind.wrap .i64 (p2.2.1+1)),())))
 else none)
 else
  some (.inr (.exit 0 (p2.1,p2.2.1,()))))
def qzA:ByteArray:=⟨⟨[116,105,99,107,115,32,105,110,112,117,116,32,118,97,114,32,105,110,105,116,32,115,116,101,112,32,105,102,32,101,108,115,101,32,102,111,114,32,116,114,117,101,32,102,97,108,115,101,32,105,110,116,32,102,108,111,97,116,32,98,111,111,108,32,97,98,115,32,105,110,32]⟩⟩
def yNm  (fu:Nat)(s:ByteArray):Option Bool :=
 (bif(decide (s=(ByteArray.mk (List.toArray []))))then
 some false
 else
  (bif(decide (32<(ByteArray.size s:Int)))then
  some false
 else
  ((s)[0]?).bind fun x0=>
  (Zh (UInt8.toNat x0:Int)).bind fun x1=>
  (bif(!x1)then
  some false
 else
  (itP fu (qeH) (s,(0:Int),())).bind fun x7=>
  (match x7 with
 | .exit i8 p9=>(bif(Nat.beq i8 0)then
  some (!(amL (lb p9.1) [] (lb qzA)))
 else none)
 | .ret o10=>some o10))))
def qeI(s:ByteArray):Option Bool:=bif okS []then some (Jt (lb s))else none
theorem qxn(S:List UInt8):qeI (bs S)=some (Jt S):=by unfold qeI;rw[ZK,jB];rfl
theorem qzB(s:ByteArray)(y:Bool)(hg:(d1 cS).good s)(h:qeI s=some y):yWd s=some y:=by
 unfold qeI at h;rw[ZK,zf]at h;have:=soi h;subst this
 unfold yWd;rw[show lb qqO=qzt from rfl,qxm]
def nmY(S:List UInt8):Bool:=S.all yS&&(bif S.isEmpty then false else(Nat.ble S.length 32&&((S[0]?).any yp&&!Jt S)))
theorem qqP{S:List UInt8}(hS:S.length≤1000000):∀(R P:List UInt8),P++R=S→∃r,(∃n,itP n qeH (bs S,((P.length:Nat):Int),())=some r)∧((R.all yS=false∧r = .ret false)∨(R.all yS=true∧r = .exit 0 (bs S,((S.length:Nat):Int),())))
 | [],P,h=>by
  have hl:P.length=S.length:=by rw[← h];simp
  refine⟨_,js ?_,.inr ⟨rfl,rfl⟩⟩
  unfold qeH;simp only[qe];rw[bdF (by omega),hl]
 | c::R,P,h=>by
  have hl:P.length+(R.length+1)=S.length:=by rw[← h];simp
  have hc:S[P.length]?=some c:=by rw[← h,zO (zw _),Vz];rfl
  have w:IntKind.i64.wrap (((P.length:Nat):Int)+1)=((P.length+1:Nat):Int):=by rw[w64 (by omega) (by omega)];omega
  have head:qeH (bs S,((P.length:Nat):Int),())=bif yS c then some (.inl (bs S,((P.length+1:Nat):Int),()))else some (.inr (.ret false)):=by
   unfold qeH;simp only[qe,zg,qW,hc,zd,qhn,Jv,w];rw[bdT (by omega),bdT (by omega)];unfold yS;cases yp c with
   | true=>rfl
   | false=>cases isD c <;> rfl
  cases hin:yS c with
  | false=>
   refine⟨_,js (head.trans (by rw[hin];rfl)),.inl ⟨?_,rfl⟩⟩
   rw[Wg,hin];rfl
  | true=>
   obtain⟨r,hr1,hr2⟩:=qqP hS R (P++[c]) (by rw[← h];simp)
   rw[show(P++[c]).length=P.length+1 by simp]at hr1;refine⟨r,jK (head.trans (by rw[hin];rfl)) hr1,?_⟩
   rw[Wg,hin,z7];exact hr2
def qfU(s:ByteArray):Option Bool:=bif Nat.ble (lb s).length 1000000 then some (nmY (lb s))else none
theorem qBN{S:List UInt8}(h:S.length≤1000000):qfU (bs S)=some (nmY S):=by
 unfold qfU;rw[jB,zo h];rfl
theorem qzC(s:ByteArray)(y:Bool)(hg:(d1 cS).good s)(h:qfU s=some y):∃n,yNm n s=some y:=by
 clear hg;revert h;refine onB (P:=fun s=>qfU s=some y→∃n,yNm n s=some y) (fun S h=>?_) s
 obtain⟨h1,h2⟩:=qi h;have:=soi h2;subst this
 rw[jB]at h1 ⊢;have hS:=zm h1;obtain⟨r,⟨n,hn⟩,hr⟩:=qqP hS S [] rfl
 refine⟨n,?_⟩
 unfold yNm;simp only[qe,qW];rw[qhg];cases S with
 | nil=>rfl
 | cons c R=>
  rw[bdF (List.cons_ne_nil _ _)];unfold nmY;by_cases h32:(c::R).length≤32
  · rw[bdF (by omega),zo h32]
    have e0:(c::R)[0]?=some c:=rfl
    rw[e0,zd];simp only[qhn,zd,List.isEmpty_cons,zj,z7,Option.any_some];cases hlt:yp c with
    | false=>simp
    | true=>
     simp only[Wr,zj,z7];refine obs hn ?_
     rcases hr with⟨ha,rfl⟩ | ⟨ha,rfl⟩
     · rw[ha];rfl
     · rw[ha]
       show some (!(amL (lb (bs (c::R))) [] qzt))=_
       rw[jB,qxm];rfl
  · rw[bdT (by omega)]
    have:Nat.ble (c::R).length 32=false:=by
     cases hb:Nat.ble (c::R).length 32 with
     | false=>rfl
     | true=>exact absurd (zm hb) h32
    rw[this];simp
end
end Su
end
section
namespace Su
open Go Fly
noncomputable section
def ZR:Stp (ByteArray×Int×Bool×Unit):=fun p0=>(yP (p0.1,p0.2.1)).bind fun x1=>
 (QF x1).bind fun x2=>
 (bif x2 then
 some (.inl (p0.1,(IntKind.wrap .i64 (p0.2.1+1)),p0.2.2.1,()))
 else
  some (.inr (p0.1,p0.2.1,p0.2.2.1,())))
def Yt:Stp (ByteArray×Int×Bool×Int×Unit):=fun p15=>(yP (p15.1,p15.2.2.2.1)).bind fun x16=>
 (QF x16).bind fun x17=>
 (bif x17 then
 some (.inl (p15.1,p15.2.1,p15.2.2.1,(IntKind.wrap .i64 (p15.2.2.2.1+1)),()))
 else
  some (.inr (p15.1,p15.2.1,p15.2.2.1,p15.2.2.2.1,())))
def eNp(fu:Nat)(q:ByteArray×Int×Bool×Unit)(k:Int):Option (Int×Bool) :=
 (yP (q.1,k)).bind fun x13=>(QF x13).bind fun x14=>
 (bif x14 then(itP fu (Yt) (q.1,q.2.1,true,k,())).bind fun x18=>some (x18.2.2.2.1,x18.2.2.1)else some (q.2.1,q.2.2.1))
def eNs(fu:Nat)(q:ByteArray×Int×Bool×Unit):Option (Int×Bool) :=
 (yP (q.1,(IntKind.wrap .i64 (q.2.1+1)))).bind fun x12=>(bif(decide (x12=43))then eNp fu q (IntKind.wrap .i64 ((IntKind.wrap .i64 (q.2.1+1))+1))else
 (yP (q.1,(IntKind.wrap .i64 (q.2.1+1)))).bind fun x19=>(bif(decide (x19=45))then eNp fu q (IntKind.wrap .i64 ((IntKind.wrap .i64 (q.2.1+1))+1))else eNp fu q (IntKind.wrap .i64 (q.2.1+1))))
def eNb(fu:Nat)(q:ByteArray×Int×Bool×Unit):Option (Int×Bool) :=
 (yP (q.1,q.2.1)).bind fun x11=>(bif(decide (x11=101))then eNs fu q else
 (yP (q.1,q.2.1)).bind fun x32=>(bif(decide (x32=69))then eNs fu q else some (q.2.1,q.2.2.1)))
def qqQ(fu:Nat)(s:ByteArray)(i:Int):Option (Int×Bool) :=
 (itP fu (ZR) (s,i,false,())).bind fun x3=>
 (yP (x3.1,x3.2.1)).bind fun x4=>
 (bif(decide (x4=46))then
 (yP (x3.1,(IntKind.wrap .i64 (x3.2.1+1)))).bind fun x5=>(QF x5).bind fun x6=>
 (bif x6 then(itP fu (ZR) (x3.1,(IntKind.wrap .i64 (x3.2.1+1)),true,())).bind fun x10=>eNb fu x10 else eNb fu x3)
 else eNb fu x3)
theorem qhq(S:List UInt8)(i:Nat)(c:UInt8)(h:c≠0):decide ((((atV S i).toNat:Nat):Int)=((c.toNat:Nat):Int))=decide (S[i]?=some c):=by
 refine Wh.2 ⟨fun e=>?_,fun e=>?_⟩
 · have e1:atV S i=c:=KJ.1 (by omega)
   unfold atV at e1;cases hc:S[i]? with
   | none=>rw[hc]at e1;exact absurd e1.symm h
   | some d=>rw[hc]at e1;exact congrArg some e1
 · unfold atV;rw[e];rfl
theorem Zi(S:List UInt8)(i:Nat):isD (atV S i)=QP S i:=by
 unfold atV QP;cases S[i]? <;> rfl
theorem qvO{S:List UInt8}{i:Nat}(h:QP S i=false):∀c,S[i]?=some c→isD c=false:=fun c hc=>by
 unfold QP at h;rw[hc]at h;exact h
theorem qzD{S:List UInt8}{i:Nat}(h:QP S i=true):∃c,S[i]?=some c∧isD c=true:=by
 unfold QP at h;cases hc:S[i]? with
 | none=>rw[hc]at h;cases h
 | some c=>rw[hc]at h;exact⟨c,rfl,h⟩
theorem qqR{S:List UInt8}{i:Nat}(h:QP S i=true):rn S i=rn S (i+1):=by
 obtain⟨c,hc,hd⟩:=qzD h;unfold rn;rw[J5 hc hd,zy];omega
theorem qhr{S:List UInt8}{i:Nat}(h:QP S i=false):rn S i=i:=by
 unfold rn;rw[Js (qvO h)];rfl
theorem qlH{S:List UInt8}(hS:S.length≤1000000)(fl:Bool):∀(d i:Nat),i≤S.length→S.length-i≤d→je (d+1) ZR (bs S,((i:Nat):Int),fl,()) (bs S,((rn S i:Nat):Int),fl,()):=fun d=>by
 induction d with
 | zero=>
  intro i h1 h2;have hd:QP S i=false:=by unfold QP;rw[zA (by omega)];rfl
  rw[qhr hd];refine je.stop ?_
  unfold ZR;simp only[J9,zd,Jv,Zi,hd,zj]
 | succ d ih=>
  intro i h1 h2;cases hd:QP S i with
  | false=>
   rw[qhr hd];refine je.stop ?_
   unfold ZR;simp only[J9,zd,Jv,Zi,hd,zj]
  | true=>
   have hl:=JF hd;have w:IntKind.i64.wrap (((i:Nat):Int)+1)=((i+1:Nat):Int):=by rw[w64 (by omega) (by omega)];omega
   rw[qqR hd];refine je.next ?_ (ih (i+1) (by omega) (by omega))
   unfold ZR;simp only[J9,zd,Jv,Zi,hd,zf,w]
theorem qvP{S:List UInt8}(hS:S.length≤1000000)(j:Nat)(fl:Bool):∀(d i:Nat),i≤S.length→S.length-i≤d→je (d+1) Yt (bs S,(j:Int),fl,((i:Nat):Int),()) (bs S,(j:Int),fl,((rn S i:Nat):Int),()):=fun d=>by
 induction d with
 | zero=>
  intro i h1 h2;have hd:QP S i=false:=by unfold QP;rw[zA (by omega)];rfl
  rw[qhr hd];refine je.stop ?_
  unfold Yt;simp only[J9,zd,Jv,Zi,hd,zj]
 | succ d ih=>
  intro i h1 h2;cases hd:QP S i with
  | false=>
   rw[qhr hd];refine je.stop ?_
   unfold Yt;simp only[J9,zd,Jv,Zi,hd,zj]
  | true=>
   have hl:=JF hd;have w:IntKind.i64.wrap (((i:Nat):Int)+1)=((i+1:Nat):Int):=by rw[w64 (by omega) (by omega)];omega
   rw[qqR hd];refine je.next ?_ (ih (i+1) (by omega) (by omega))
   unfold Yt;simp only[J9,zd,Jv,Zi,hd,zf,w]
theorem qqS{S:List UInt8}(hS:S.length≤1000000){j:Nat}(hj:j≤S.length)(fl:Bool):eNb 2000000 (bs S,(j:Int),fl,())=some (((numE S j fl).1:Int),(numE S j fl).2):=by
 have w1:IntKind.i64.wrap ((j:Int)+1)=((j+1:Nat):Int):=by rw[w64 (by omega) (by omega)];omega
 have w2:IntKind.i64.wrap (((j+1:Nat):Int)+1)=((j+2:Nat):Int):=by rw[w64 (by omega) (by omega)];omega
 have fin:∀k:Nat,exK S j=k→(S[j]?=some 101∨S[j]?=some 69) →
  ((yP (bs S,((k:Nat):Int))).bind fun x13=>(QF x13).bind fun x14=>(bif x14 then(itP 2000000 Yt (bs S,(j:Int),true,((k:Nat):Int),())).bind fun x18=>some (x18.2.2.2.1,x18.2.2.1)else some ((j:Int),fl)))=some (((numE S j fl).1:Int),(numE S j fl).2):=fun k hk he=>by
  refine obs (J9 S k) (obs (Jv _) ?_)
  rw[Zi];unfold numE;rw[hk];cases hd:QP S k with
  | false=>rw[zp (fun h=>by cases h.2)];rfl
  | true=>
   rw[zr ⟨he,rfl⟩];have hl:=JF hd;exact obs (qvP hS j true (S.length-k) k (by omega) (by omega) 2000000 (by omega)) rfl
 have ev:∀(i:Nat) (c:UInt8) (K1 K2:Option (Int×Bool)),c≠0→((yP (bs S,((i:Nat):Int))).bind fun x=>(bif decide (x=((c.toNat:Nat):Int))then K1 else K2))=if S[i]?=some c then K1 else K2:=fun i c K1 K2 hc=>by
  refine obs (J9 S i) ?_
  rw[qhq S i c hc];by_cases h:S[i]?=some c
  · rw[zr h,bdT h]
  · rw[zp h,bdF h]
 have sg:∀(K1 K2:Option (Int×Bool)),((yP (bs S,((j+1:Nat):Int))).bind fun x=>(bif decide (x=43)then K1 else(yP (bs S,((j+1:Nat):Int))).bind fun x=>(bif decide (x=45)then K1 else K2)))=if S[j+1]?=some 43∨S[j+1]?=some 45 then K1 else K2:=fun K1 K2=>by
  refine(ev (j+1) 43 _ _ (by decide)).trans ?_
  by_cases h:S[j+1]?=some 43
  · rw[zr h,zr (.inl h)]
  · rw[zp h]
    refine(ev (j+1) 45 _ _ (by decide)).trans ?_
    by_cases h5:S[j+1]?=some 45
    · rw[zr h5,zr (.inr h5)]
    · rw[zp h5,zp (fun e=>e.elim h h5)]
 have arm:∀K:Option (Int×Bool),(S[j]?=some 101∨S[j]?=some 69)→(∀k,exK S j=k→K=((yP (bs S,((k:Nat):Int))).bind fun x13=>(QF x13).bind fun x14=>(bif x14 then(itP 2000000 Yt (bs S,(j:Int),true,((k:Nat):Int),())).bind fun x18=>some (x18.2.2.2.1,x18.2.2.1)else some ((j:Int),fl))))→K=some (((numE S j fl).1:Int),(numE S j fl).2):=fun K he h=>(h _ rfl).trans (fin _ rfl he)
 unfold eNb eNs eNp;simp only[w1,w2];refine(ev j 101 _ _ (by decide)).trans ?_
 by_cases h1:S[j]?=some 101
 · rw[zr h1]
   refine arm _ (.inl h1) fun k hk=>?_
   refine(sg _ _).trans ?_
   unfold exK at hk;split
   · rename_i h;rw[zr h]at hk;subst hk;rfl
   · rename_i h;rw[zp h]at hk;subst hk;rfl
 · rw[zp h1]
   refine(ev j 69 _ _ (by decide)).trans ?_
   by_cases h2:S[j]?=some 69
   · rw[zr h2]
     refine arm _ (.inr h2) fun k hk=>?_
     refine(sg _ _).trans ?_
     unfold exK at hk;split
     · rename_i h;rw[zr h]at hk;subst hk;rfl
     · rename_i h;rw[zp h]at hk;subst hk;rfl
   · rw[zp h2]
     unfold numE;rw[zp (fun h=>h.1.elim h1 h2)]
theorem qqT{S:List UInt8}(hS:S.length≤1000000){i:Nat}(hi:i≤S.length):qqQ 2000000 (bs S) ((i:Nat):Int)=some (((yq S i).1:Int),(yq S i).2):=by
 unfold qqQ;refine obs (qlH hS false (S.length-i) i hi (by omega) 2000000 (by omega)) ?_
 have hr:=QO hi;have w1:IntKind.i64.wrap (((rn S i:Nat):Int)+1)=((rn S i+1:Nat):Int):=by rw[w64 (by omega) (by omega)];omega
 simp only[w1];refine obs (J9 S _) ?_
 have ed:=qhq S (rn S i) 46 (by decide)
 unfold yq;by_cases h46:S[rn S i]?=some 46
 · rw[show decide ((((atV S (rn S i)).toNat:Nat):Int)=46)=true from ed.trans (za h46),zf]
   refine obs (J9 S _) (obs (Jv _) ?_)
   rw[Zi];cases hd:QP S (rn S i+1)with
   | false=>
    rw[zp (fun h=>by cases h.2)];exact qqS hS hr false
   | true=>
    rw[zr ⟨h46,rfl⟩,zf];have hl:=JF hd;exact obs (qlH hS true (S.length-(rn S i+1)) (rn S i+1) (by omega) (by omega) 2000000 (by omega)) (qqS hS (QO (by omega)) true)
 · rw[show decide ((((atV S (rn S i)).toNat:Nat):Int)=46)=false from ed.trans (zi h46),zj,zp (fun h=>h46 h.1)]
   exact qqS hS hr false
def qcq(p:ByteArray×Int):Option (Int×Bool):=bif(decide (0≤p.2)&&decide (p.2≤((lb p.1).length:Int)))&&Nat.ble (lb p.1).length 1000000 then some (((yq (lb p.1) p.2.toNat).1:Int),(yq (lb p.1) p.2.toNat).2)else none
theorem qzE{S:List UInt8}{i:Nat}(hS:S.length≤1000000)(hi:i≤S.length):qcq (bs S,((i:Nat):Int))=some (((yq S i).1:Int),(yq S i).2):=by
 unfold qcq;show(bif(decide ((0:Int)≤((i:Nat):Int))&&decide (((i:Nat):Int)≤((S.length:Nat):Int)))&&Nat.ble S.length 1000000 then _ else _)=_
 rw[za (by omega),za (by omega),zo (by omega)];rfl
theorem qvQ(p:ByteArray×Int)(y:Int×Bool)(hg:(dc cS (d1 (cI .i64))).good p)(h:qcq p=some y):∃n,qqQ n p.1 p.2=some y:=by
 obtain⟨s,i⟩:=p;clear hg;refine⟨2000000,?_⟩
 revert h;refine onB (P:=fun s=>qcq (s,i)=some y→qqQ 2000000 s i=some y) (fun S h=>?_) s
 obtain⟨h1,h2⟩:=qi h;have:=soi h2;subst this
 simp only[zk]at h1;obtain⟨⟨a1,a2⟩,a3⟩:=h1;have a3:S.length≤1000000:=zm a3
 have a1:=zW a1;obtain⟨k,rfl⟩:=zV a1;have a2:((k:Nat):Int)≤((S.length:Nat):Int):=zW a2
 exact qqT a3 (by omega)
end
end Su
end
section
namespace Su
open Go Fly
noncomputable section
def qbB:Stp (ByteArray×Int×Int×Int×Int×ByteArray×Int×Int×Int×Int×ByteArray×Int×Int×Unit):=fun p2=>(yP (p2.1,p2.2.2.1)).bind fun x3=>
 (Zh x3).bind fun x4=>
 (bif x4 then
 some (.inl (p2.1,p2.2.1,(IntKind.wrap .i64 (p2.2.2.1+1)),p2.2.2.2.1,p2.2.2.2.2.1,p2.2.2.2.2.2.1,p2.2.2.2.2.2.2.1,p2.2.2.2.2.2.2.2.1,p2.2.2.2.2.2.2.2.2.1,p2.2.2.2.2.2.2.2.2.2.1,p2.2.2.2.2.2.2.2.2.2.2.1,p2.2.2.2.2.2.2.2.2.2.2.2.1,p2.2.2.2.2.2.2.2.2.2.2.2.2.1,()))
 else
  (yP (p2.1,p2.2.2.1)).bind fun x5=>
  (QF x5).bind fun x6=>
  (bif x6 then
  some (.inl (p2.1,p2.2.1,(IntKind.wrap .i64 (p2.2.2.1+1)),p2.2.2.2.1,p2.2.2.2.2.1,p2.2.2.2.2.2.1,p2.2.2.2.2.2.2.1,p2.2.2.2.2.2.2.2.1,p2.2.2.2.2.2.2.2.2.1,p2.2.2.2.2.2.2.2.2.2.1,p2.2.2.2.2.2.2.2.2.2.2.1,p2.2.2.2.2.2.2.2.2.2.2.2.1,p2.2.2.2.2.2.2.2.2.2.2.2.2.1,()))
 else
  some (.inr (p2.1,p2.2.1,p2.2.2.1,p2.2.2.2.1,p2.2.2.2.2.1,p2.2.2.2.2.2.1,p2.2.2.2.2.2.2.1,p2.2.2.2.2.2.2.2.1,p2.2.2.2.2.2.2.2.2.1,p2.2.2.2.2.2.2.2.2.2.1,p2.2.2.2.2.2.2.2.2.2.2.1,p2.2.2.2.2.2.2.2.2.2.2.2.1,p2.2.2.2.2.2.2.2.2.2.2.2.2.1,()))))
def qdo:Stp (ByteArray×Int×Int×ByteArray×Int×Int×Int×Int×ByteArray×Int×Int×Int×Int×ByteArray×Int×Int×Unit):=fun p13=>(bif(decide (p13.2.2.2.2.2.1<(ByteArray.size p13.2.2.2.1:Int)))then
 (bif(decide (0≤p13.2.2.2.2.2.1))then
 ((p13.2.2.2.1)[p13.2.2.2.2.2.1.toNat]?).bind fun x14=>
 some (.inl (p13.1,p13.2.1,p13.2.2.1,p13.2.2.2.1,(min (IntKind.wrap .i64 ((IntKind.wrap .i64 (p13.2.2.2.2.1*10))+(IntKind.wrap .i64 (IntKind.wrap .u8 ((UInt8.toNat x14:Int)-48))))) 1099511627776),(IntKind.wrap .i64 (p13.2.2.2.2.2.1+1)),p13.2.2.2.2.2.2.1,p13.2.2.2.2.2.2.2.1,p13.2.2.2.2.2.2.2.2.1,p13.2.2.2.2.2.2.2.2.2.1,p13.2.2.2.2.2.2.2.2.2.2.1,p13.2.2.2.2.2.2.2.2.2.2.2.1,p13.2.2.2.2.2.2.2.2.2.2.2.2.1,p13.2.2.2.2.2.2.2.2.2.2.2.2.2.1,p13.2.2.2.2.2.2.2.2.2.2.2.2.2.2.1,p13.2.2.2.2.2.2.2.2.2.2.2.2.2.2.2.1,()))
 else none)
 else
  some (.inr (p13.1,p13.2.1,p13.2.2.1,p13.2.2.2.1,p13.2.2.2.2.1,p13.2.2.2.2.2.1,p13.2.2.2.2.2.2.1,p13.2.2.2.2.2.2.2.1,p13.2.2.2.2.2.2.2.2.1,p13.2.2.2.2.2.2.2.2.2.1,p13.2.2.2.2.2.2.2.2.2.2.1,p13.2.2.2.2.2.2.2.2.2.2.2.1,p13.2.2.2.2.2.2.2.2.2.2.2.2.1,p13.2.2.2.2.2.2.2.2.2.2.2.2.2.1,p13.2.2.2.2.2.2.2.2.2.2.2.2.2.2.1,p13.2.2.2.2.2.2.2.2.2.2.2.2.2.2.2.1,())))
def qlI:ByteArray:=⟨⟨[40,32,41,32,91,32,93,32,123,32,125,32,44,32,59,32,58,32,61,32,60,32,62,32,43,32,45,32,42,32,47,32,33,32]⟩⟩
def qhs(s:ByteArray)(i:Int) :=
 bif(((decide (0≤i))&&(decide (i≤(IntKind.wrap .i64 (i+1)))))&&(decide ((IntKind.wrap .i64 (i+1))≤(ByteArray.size s:Int))))then
 (bif(amL (lb (ByteArray.extract s i.toNat (Int.toNat (IntKind.wrap .i64 (i+1))))) [] (lb qlI))then
 (bif(((decide (0≤i))&&(decide (i≤(IntKind.wrap .i64 (i+1)))))&&(decide ((IntKind.wrap .i64 (i+1))≤(ByteArray.size s:Int))))then
 some (((5:Int),i,(ByteArray.extract s i.toNat (Int.toNat (IntKind.wrap .i64 (i+1)))),(0:Int),(0:Int)),(IntKind.wrap .i64 (i+1)),(0:Int))
 else none)
 else
  some (((5:Int),i,(ByteArray.empty),(0:Int),(0:Int)),i,(90:Int)))
 else
  none
def qqU  (fu:Nat)(s:ByteArray)(i:Int):Option ((Int×Int×ByteArray×Int×Int)×Int×Int) :=
 (bif(decide (0≤i))then
 ((s)[i.toNat]?).bind fun x0=>
 (Zh (UInt8.toNat x0:Int)).bind fun x1=>
 (bif x1 then
 (itP fu (qbB) (s,i,i,(0:Int),(0:Int),(ByteArray.empty),(0:Int),(0:Int),(0:Int),i,(ByteArray.empty),(0:Int),(0:Int),())).bind fun x7=>
 (bif(((decide (0≤x7.2.1))&&(decide (x7.2.1≤x7.2.2.1)))&&(decide (x7.2.2.1≤(ByteArray.size x7.1:Int))))then
 (qeI (ByteArray.extract x7.1 x7.2.1.toNat x7.2.2.1.toNat)).bind fun x8=>
 (bif x8 then
 (bif(decide (32<(((ByteArray.size (ByteArray.extract x7.1 x7.2.1.toNat x7.2.2.1.toNat)):Nat):Int)))then
 some (((4:Int),x7.2.2.2.2.2.2.2.2.2.1,(ByteArray.extract x7.1 x7.2.1.toNat x7.2.2.1.toNat),x7.2.2.2.2.2.2.2.2.2.2.2.1,x7.2.2.2.2.2.2.2.2.2.2.2.2.1),x7.2.2.1,(91:Int))
 else
  some (((4:Int),x7.2.2.2.2.2.2.2.2.2.1,(ByteArray.extract x7.1 x7.2.1.toNat x7.2.2.1.toNat),x7.2.2.2.2.2.2.2.2.2.2.2.1,x7.2.2.2.2.2.2.2.2.2.2.2.2.1),x7.2.2.1,(0:Int)))
 else
  (bif(decide (32<(((ByteArray.size (ByteArray.extract x7.1 x7.2.1.toNat x7.2.2.1.toNat)):Nat):Int)))then
  some (((1:Int),x7.2.2.2.2.2.2.2.2.2.1,(ByteArray.extract x7.1 x7.2.1.toNat x7.2.2.1.toNat),x7.2.2.2.2.2.2.2.2.2.2.2.1,x7.2.2.2.2.2.2.2.2.2.2.2.2.1),x7.2.2.1,(91:Int))
 else
  some (((1:Int),x7.2.2.2.2.2.2.2.2.2.1,(ByteArray.extract x7.1 x7.2.1.toNat x7.2.2.1.toNat),x7.2.2.2.2.2.2.2.2.2.2.2.1,x7.2.2.2.2.2.2.2.2.2.2.2.2.1),x7.2.2.1,(0:Int))))
 else none)
 else
  (bif(decide (0≤i))then
  ((s)[i.toNat]?).bind fun x9=>
  (QF (UInt8.toNat x9:Int)).bind fun x10=>
  (bif x10 then
  (qcq (s,i)).bind fun x11=>
  (bif(((decide (0≤i))&&(decide (i≤x11.1)))&&(decide (x11.1≤(ByteArray.size s:Int))))then
  (bif(decide (400<(((ByteArray.size (ByteArray.extract s i.toNat x11.1.toNat)):Nat):Int)))then
  some (((0:Int),i,(ByteArray.empty),(0:Int),(0:Int)),x11.1,(91:Int))
 else
  (bif x11.2 then
  (qcp (ByteArray.extract s i.toNat x11.1.toNat)).bind fun x12=>
  (bif(!(decide (x12.2=0)))then
  some (((0:Int),i,(ByteArray.empty),(0:Int),(0:Int)),x11.1,(93:Int))
 else
  some (((3:Int),i,(ByteArray.empty),(0:Int),x12.1),x11.1,(0:Int)))
 else
  (itP fu (qdo) (s,i,x11.1,(ByteArray.extract s i.toNat x11.1.toNat),(0:Int),(0:Int),(0:Int),(0:Int),(ByteArray.empty),(0:Int),(0:Int),(0:Int),i,(ByteArray.empty),(0:Int),(0:Int),())).bind fun x15=>
  (bif(decide (2147483647<x15.2.2.2.2.1))then
  some ((x15.2.2.2.2.2.2.2.2.2.2.2.1,x15.2.2.2.2.2.2.2.2.2.2.2.2.1,x15.2.2.2.2.2.2.2.2.2.2.2.2.2.1,x15.2.2.2.2.2.2.2.2.2.2.2.2.2.2.1,x15.2.2.2.2.2.2.2.2.2.2.2.2.2.2.2.1),x15.2.2.1,(92:Int))
 else
  some (((2:Int),x15.2.2.2.2.2.2.2.2.2.2.2.2.1,x15.2.2.2.2.2.2.2.2.2.2.2.2.2.1,(IntKind.wrap .i32 x15.2.2.2.2.1),x15.2.2.2.2.2.2.2.2.2.2.2.2.2.2.2.1),x15.2.2.1,(0:Int)))))
 else none)
 else
  (bif(decide ((IntKind.wrap .i64 (i+2))≤(ByteArray.size s:Int)))then
  (bif(((decide (0≤i))&&(decide (i≤(IntKind.wrap .i64 (i+2)))))&&(decide ((IntKind.wrap .i64 (i+2))≤(ByteArray.size s:Int))))then
  (bif(amL (lb (ByteArray.extract s i.toNat (Int.toNat (IntKind.wrap .i64 (i+2))))) [] (lb (ByteArray.mk (List.toArray [61,61,32,33,61,32,60,61,32,62,61,32,38,38,32,124,124,32,46,46,32]))))then
  (bif(((decide (0≤i))&&(decide (i≤(IntKind.wrap .i64 (i+2)))))&&(decide ((IntKind.wrap .i64 (i+2))≤(ByteArray.size s:Int))))then
  some (((5:Int),i,(ByteArray.extract s i.toNat (Int.toNat (IntKind.wrap .i64 (i+2)))),(0:Int),(0:Int)),(IntKind.wrap .i64 (i+2)),(0:Int))
 else none)
 else
  (qhs s i))
 else none)
 else
  (qhs s i)))
 else none))
 else none)
noncomputable section
abbrev R1y:=Int×(Int×ByteArray×Int×Int×Int×Int×ByteArray×Int×Int×Unit)
abbrev R2y:=Int×(Int×ByteArray×Int×Int×Int×Int×ByteArray×Int×Int×Unit)
theorem qBO(S:List UInt8)(i:Nat):yS (atV S i)=(S[i]?).any yS:=by
 unfold atV;cases S[i]? <;> rfl
theorem qzF{S:List UInt8}(hS:S.length≤1000000)(a:Int)(rest:R1y):∀(d i:Nat),i≤S.length→S.length-i≤d→je (d+1) qbB (bs S,a,((i:Nat):Int),rest) (bs S,a,((spI S i:Nat):Int),rest):=fun d=>by
 have head:∀i:Nat,i≤S.length→qbB (bs S,a,((i:Nat):Int),rest)=bif(S[i]?).any yS then some (.inl (bs S,a,((i+1:Nat):Int),rest))else some (.inr (bs S,a,((i:Nat):Int),rest)):=fun i hi=>by
  have w:IntKind.i64.wrap (((i:Nat):Int)+1)=((i+1:Nat):Int):=by rw[w64 (by omega) (by omega)];omega
  rw[← qBO];unfold qbB;simp only[J9,zd,qhn,Jv,w];unfold yS;cases yp (atV S i)with
  | true=>rfl
  | false=>cases isD (atV S i) <;> rfl
 have stop:∀i:Nat,i≤S.length→(S[i]?).any yS=false→∀K,je (K+1) qbB (bs S,a,((i:Nat):Int),rest) (bs S,a,((spI S i:Nat):Int),rest):=fun i hi h K=>by
  rw[qj9 fun c hc=>by rw[hc]at h;exact h];exact je.stop ((head i hi).trans (by rw[h];rfl))
 induction d with
 | zero=>
  intro i h1 h2;exact stop i h1 (by rw[zA (by omega)];rfl) 0
 | succ d ih=>
  intro i h1 h2;cases h:(S[i]?).any yS with
  | false=>exact stop i h1 h _
  | true=>
   obtain⟨c,hc,hin⟩:∃c,S[i]?=some c∧yS c=true:=by
    cases hc:S[i]? with
    | none=>rw[hc]at h;cases h
    | some c=>rw[hc]at h;exact⟨c,rfl,h⟩
   have hl:=qpS hc;rw[qhi hc hin];exact je.next ((head i h1).trans (by rw[h];rfl)) (ih (i+1) (by omega) (by omega))
def ZY(E:List UInt8):Nat:=min (dv E) 1099511627776
theorem qm8(E:List UInt8)(c:UInt8):ZY (E++[c])=min (ZY E*10+(c.toNat-48)) 1099511627776:=by
 have e1:dv [c]=c.toNat-48:=by unfold dv;simp
 have:=qas E [c]
 rw[e1]at this;have e:dv (E++[c])=dv E*10+(c.toNat-48):=this
 unfold ZY;rw[e];omega
theorem qvR{E:List UInt8}(hE:E.length≤1000000)(hD:∀c∈E,isD c=true)(s:ByteArray)(a b:Int)(rest:R2y):∀(d:Nat) (A B:List UInt8),A++B=E→B.length=d →
 je (d+1) qdo (s,a,b,bs E,((ZY A:Nat):Int),((A.length:Nat):Int),rest) (s,a,b,bs E,((ZY E:Nat):Int),((E.length:Nat):Int),rest):=fun d=>by
 induction d with
 | zero=>
  intro A B h hB;have:B=[]:=KD.1 hB
  subst this;rw[KV]at h;subst h;refine je.stop ?_
  unfold qdo;simp only[qe];rw[zi (by omega)];rfl
 | succ d ih=>
  intro A B h hB;cases B with
  | nil=>cases hB
  | cons c B=>
   have hl:A.length+(B.length+1)=E.length:=by rw[← h];simp
   have hc:E[A.length]?=some c:=by rw[← h,zO (zw _),Vz];rfl
   have hcD:=jP.1 (hD c (by rw[← h];simp))
   have hx:ZY A≤1099511627776:=Nat.min_le_right _ _
   have ih':=ih (A++[c]) B (by rw[zZ];exact h) (by simpa using hB)
   rw[qm8,zJ,Vp]at ih';refine je.next ?_ ih'
   have w:IntKind.i64.wrap (((A.length:Nat):Int)+1)=((A.length+1:Nat):Int):=by rw[w64 (by omega) (by omega)];omega
   have w1:IntKind.u8.wrap (((c.toNat:Nat):Int)-48)=((c.toNat-48:Nat):Int):=by
    rw[show(((c.toNat:Nat):Int)-48)=((c.toNat-48:Nat):Int) by omega];exact yB (Y3.2 ⟨by omega,by omega⟩)
   have w2:IntKind.i64.wrap (((ZY A:Nat):Int)*10)=((ZY A:Nat):Int)*10:=w64 (by omega) (by omega)
   have w3:IntKind.i64.wrap ((c.toNat-48:Nat):Int)=((c.toNat-48:Nat):Int):=w64 (by omega) (by omega)
   have w4:IntKind.i64.wrap (((ZY A:Nat):Int)*10+((c.toNat-48:Nat):Int))=((ZY A:Nat):Int)*10+((c.toNat-48:Nat):Int):=w64 (by omega) (by omega)
   have em:min (((ZY A:Nat):Int)*10+((c.toNat-48:Nat):Int)) 1099511627776=((min (ZY A*10+(c.toNat-48)) 1099511627776:Nat):Int):=by omega
   unfold qdo;simp only[qe,zg,qW,hc,zd,w,w1,w2,w3,w4,em];rw[za (by omega),za (by omega)];rfl
theorem qqV{S:List UInt8}(hS:S.length≤1000000){i:Nat}(hi:i<S.length):qqU 2000000 (bs S) ((i:Nat):Int)=some (jV S i):=by
 obtain⟨c,hc⟩:∃c,S[i]?=some c:=⟨_,zl hi⟩
 have w1:IntKind.i64.wrap (((i:Nat):Int)+1)=((i+1:Nat):Int):=by rw[w64 (by omega) (by omega)];omega
 have w2:IntKind.i64.wrap (((i:Nat):Int)+2)=((i+2:Nat):Int):=by rw[w64 (by omega) (by omega)];omega
 have eA:∀p:UInt8→Bool,(S[i]?).any p=p c:=fun p=>by rw[hc];rfl
 unfold qqU qhs jV;rw[eA,eA];simp only[qe,zg,qW,w1,w2];rw[bdT (by omega),hc,zd];refine obs (qhn c) ?_
 cases hl:yp c with
 | true=>
  rw[zf,zr rfl];refine obs (qzF hS _ _ (S.length-i) i (by omega) (by omega) 2000000 (by omega)) ?_
  have g2:=qax (S:=S) (i:=i) (by omega)
  have g1:i≤spI S i:=by unfold spI;omega
  simp only[qe,zg,jZ];rw[za (show(0:Int)≤((i:Nat):Int) by omega),za (show((i:Nat):Int)≤((spI S i:Nat):Int) by omega),za (show((spI S i:Nat):Int)≤((S.length:Nat):Int) by omega)];simp only[z7,zf];refine obs (qxn _) ?_
  have el:((S.drop i).take (spI S i-i)).length=spI S i-i:=by rw[zM,Kl];omega
  rw[el];by_cases h32:32<spI S i-i
  · rw[zr h32]
    cases Jt ((S.drop i).take (spI S i-i))with
    | true=>exact bdT (by omega) _ _
    | false=>exact bdT (by omega) _ _
  · rw[zp h32]
    cases Jt ((S.drop i).take (spI S i-i))with
    | true=>exact bdF (by omega) _ _
    | false=>exact bdF (by omega) _ _
 | false=>
  rw[zj,zp (by decide),bdT (by omega),zd];refine obs (Jv c) ?_
  cases hd:isD c with
  | true=>
   rw[zf,zr rfl];refine obs (qzE hS (by omega)) ?_
   obtain⟨b1,b2⟩:=qkb (S:=S) (i:=i) (by omega)
   have hint:=@qiP S i
   generalize yq S i=N at *
   obtain⟨k,fl⟩:=N;dsimp only at b1 b2 hint ⊢;simp only[zg,jZ];rw[za (show(0:Int)≤((i:Nat):Int) by omega),za (show((i:Nat):Int)≤((k:Nat):Int) by omega),za (show((k:Nat):Int)≤((S.length:Nat):Int) by omega)];simp only[z7,zf,qe];have el:((S.drop i).take (k-i)).length=k-i:=by rw[zM,Kl];omega
   have hdl:fl=false→∀c∈(S.drop i).take (k-i),isD c=true:=fun hf=>by
    rw[hint hf,qlE];exact qat S i
   generalize (S.drop i).take (k-i)=l at *
   unfold qka;by_cases h4:400<l.length
   · rw[zr h4]
     exact bdT (by omega) _ _
   · rw[zp h4,bdF (by omega)]
     cases fl with
     | true=>
      rw[zf,zr rfl];refine obs (qqH l) ?_
      by_cases hp:(Qn l).2=0
      · rw[zr hp,za hp];rfl
      · rw[zp hp,zi hp];rfl
     | false=>
      rw[zj,zp (by decide)];refine obs (qvR (E:=l) (by omega) (hdl rfl) (bs S) _ _ _ l.length [] l rfl rfl 2000000 (by omega)) ?_
      have hcap:ZY l=min (dv l) 1099511627776:=rfl
      by_cases h9:2147483647<dv l
      · rw[zr h9]
        exact bdT (by show(2147483647:Int)<((ZY l:Nat):Int);omega) _ _
      · rw[zp h9]
        refine(bdF (by show¬(2147483647:Int)<((ZY l:Nat):Int);omega) _ _).trans ?_
        have e:ZY l=dv l:=by omega
        show some _=some _
        rw[e,show IntKind.i32.wrap ((dv l:Nat):Int)=((dv l:Nat):Int) from yB (by unfold inR;simp;exact⟨by show(-2147483648:Int)≤_;omega,by show _≤(2147483647:Int);omega⟩)];rfl
  | false=>
   rw[zj,zp (by decide)];have hR:S.drop i≠[]:=fun e=>by
    have:=congrArg List.length e
    rw[Kl,KF]at this;omega
   have hlR:(S.drop i).length=S.length-i:=Kl
   have x2:(bs S).extract i (i+2)=bs ((S.drop i).take 2):=by rw[jZ,K4]
   have x1:(bs S).extract i (i+1)=bs ((S.drop i).take 1):=by rw[jZ,K4]
   have t2:lb (ByteArray.mk (List.toArray [61,61,32,33,61,32,60,61,32,62,61,32,38,38,32,124,124,32,46,46,32]))=Z3:=rfl
   have t1:lb qlI=Zg:=rfl
   rw[qzw hR];simp only[x1,x2,t1,t2,jB];rw[za (show(0:Int)≤((i:Nat):Int) by omega),za (show((i:Nat):Int)≤((i+1:Nat):Int) by omega),za (show((i+1:Nat):Int)≤((S.length:Nat):Int) by omega),za (show((i:Nat):Int)≤((i+2:Nat):Int) by omega)];simp only[z7,zf];generalize hRR:S.drop i=R at *
   have l1:(R.take 1).length=1:=by rw[zM];omega
   have n1:R.take 1≠[]:=fun e=>by rw[e]at l1;cases l1
   have one:(bif amL (R.take 1) [] Zg then some (((5:Int),((i:Nat):Int),bs (R.take 1),(0:Int),(0:Int)),((i+1:Nat):Int),(0:Int))else some (((5:Int),((i:Nat):Int),ByteArray.empty,(0:Int),(0:Int)),((i:Nat):Int),(90:Int))) =
    some (if(if amL (R.take 1) [] Zg=true then R.take 1 else[])=[]then((5,((i:Nat):Int),bs [],0,0),((i:Nat):Int),90)else((5,((i:Nat):Int),bs (if amL (R.take 1) [] Zg=true then R.take 1 else[]),0,0),((i+(if amL (R.take 1) [] Zg=true then R.take 1 else[]).length:Nat):Int),0)):=by
    cases amL (R.take 1) [] Zg with
    | true=>
     simp only[WH,zf];rw[zp n1,l1]
    | false=>
     simp only[Bool.false_eq_true,WB,zj,WH];rfl
   by_cases h2:i+2≤S.length
   · rw[bdT (by omega),za (show((i+2:Nat):Int)≤((S.length:Nat):Int) by omega),zf]
     have l2:(R.take 2).length=2:=by rw[zM];omega
     have n2:R.take 2≠[]:=fun e=>by rw[e]at l2;cases l2
     cases ha:amL (R.take 2) [] Z3 with
     | true=>
      rw[zf,zf];have hc2:(2≤R.length∧true=true):=⟨by omega,rfl⟩
      rw[zr hc2];rw[zp n2,l2]
     | false=>
      rw[zj];have hc2 : ¬(2≤R.length∧false=true):=fun h=>by cases h.2
      rw[zp hc2];exact one
   · rw[bdF (by omega)]
     have hc2 : ¬(2≤R.length∧amL (R.take 2) [] Z3=true):=fun h=>by have:=h.1;omega
     rw[zp hc2];exact one
def Zj(p:ByteArray×Int):Option (Tk×Int×Int):=bif(decide (0≤p.2)&&decide (p.2<((lb p.1).length:Int)))&&Nat.ble (lb p.1).length 1000000 then some (jV (lb p.1) p.2.toNat)else none
theorem qzG{S:List UInt8}{i:Nat}(hS:S.length≤1000000)(hi:i<S.length):Zj (bs S,((i:Nat):Int))=some (jV S i):=by
 unfold Zj;show(bif(decide ((0:Int)≤((i:Nat):Int))&&decide (((i:Nat):Int)<((S.length:Nat):Int)))&&Nat.ble S.length 1000000 then _ else _)=_
 rw[za (by omega),za (by omega),zo (by omega)];rfl
theorem qvS(p:ByteArray×Int)(y:Tk×Int×Int)(hg:(dc cS (d1 (cI .i64))).good p)(h:Zj p=some y):∃n,qqU n p.1 p.2=some y:=by
 obtain⟨s,i⟩:=p;clear hg;refine⟨2000000,?_⟩
 revert h;refine onB (P:=fun s=>Zj (s,i)=some y→qqU 2000000 s i=some y) (fun S h=>?_) s
 obtain⟨h1,h2⟩:=qi h;have:=soi h2;subst this
 simp only[zk]at h1;obtain⟨⟨a1,a2⟩,a3⟩:=h1;have a3:S.length≤1000000:=zm a3
 have a1:=zW a1;obtain⟨k,rfl⟩:=zV a1;have a2:((k:Nat):Int)<((S.length:Nat):Int):=zW a2
 exact qqV a3 (by omega)
end
end
end Su
end
