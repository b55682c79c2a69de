/-
  What functions of the program compute, in plain Lean, and that the evaluator finds it.
-/
import Derived.Test.YtldhknmacepeiaaGreatDoorSuXl
import Derived.Test.YtldhknmacepeiaaGreatDoorND03y
import Derived.Test.YtldhknmacepeiaaGreatDoorNX06
set_option linter.unusedVariables false
set_option linter.unusedSimpArgs false
set_option maxRecDepth 10000
section
namespace Su
open Go Fly
noncomputable section
def qdm:Stp (ByteArray×(List Bool)×(List Bool)×Int×Unit):=fun p0=>(bif(decide (p0.2.2.2.1<(ByteArray.size p0.1:Int)))then
 (bif(true&&(true&&(decide (4≤(List.length p0.2.2.1:Int)))))then
 (JO (p0.2.1,(List.take 4 (List.drop 0 p0.2.2.1)))).bind fun x1=>
 (bif(decide (0≤p0.2.2.2.1))then
 ((p0.1)[p0.2.2.2.1.toNat]?).bind fun x2=>
 (bif(true&&(true&&(decide (4≤(((List.length (List.flatten [(wdB (IntKind.wrap .u64 (IntKind.wrap .u8 ((UInt8.toNat x2:Int)-48))))])):Nat):Int)))))then
 (yG (x1,(List.take 4 (List.drop 0 (List.flatten [(wdB (IntKind.wrap .u64 (IntKind.wrap .u8 ((UInt8.toNat x2:Int)-48))))]))))).bind fun x3=>
 (bif(true&&((true&&(decide (0≤(qj (qf x3):Int))))&&(decide ((qj (qf x3):Int)≤(List.length x3:Int)))))then
 some (.inl (p0.1,(List.take (Int.toNat ((qj (qf x3):Int)-0)) (List.drop 0 x3)),p0.2.2.1,(IntKind.wrap .i64 (p0.2.2.2.1+1)),()))
 else none)
 else none)
 else none)
 else none)
 else
  some (.inr (p0.1,p0.2.1,p0.2.2.1,p0.2.2.2.1,())))
def qvx  (fu:Nat)(d:ByteArray):Option (List Bool) :=
 (itP fu (qdm) (d,[],(List.flatten [(wdB 10)]),(0:Int),())).bind fun x4=>
 some x4.2.1
def qdn:Stp (Int×(List Bool)×(List Bool)×Int×Unit):=fun p0=>(bif(decide (p0.2.2.2.1<p0.1))then
 (bif(true&&(true&&(decide (4≤(List.length p0.2.2.1:Int)))))then
 (JO (p0.2.1,(List.take 4 (List.drop 0 p0.2.2.1)))).bind fun x1=>
 (bif(true&&((true&&(decide (0≤(qj (qf x1):Int))))&&(decide ((qj (qf x1):Int)≤(List.length x1:Int)))))then
 some (.inl (p0.1,(List.take (Int.toNat ((qj (qf x1):Int)-0)) (List.drop 0 x1)),p0.2.2.1,(IntKind.wrap .i64 (p0.2.2.2.1+1)),()))
 else none)
 else none)
 else
  some (.inr (p0.1,p0.2.1,p0.2.2.1,p0.2.2.2.1,())))
def qzm  (fu:Nat)(n:Int):Option (List Bool) :=
 (itP fu (qdn) (n,[true],(List.flatten [(wdB 10)]),(0:Int),())).bind fun x2=>
 some x2.2.1
def cN(v:Nat):List Bool:=qY (qj v) v
theorem Zf(v:Nat):(cN v).length=qj v:=j4 _ _
theorem qck(v:Nat):qf (cN v)=v:=by
 unfold cN;rw[Jc,Kf (yI v)]
theorem qqz(l:List Bool)(n:Nat)(h:n≤l.length):qf (l.take n)=qf l % 2^n:=by
 have e:qf l=qf (l.take n)+2^n*qf (l.drop n):=by
  have:=qbq (l.take n) (l.drop n)
  rw[KY,zM,Kz h]at this;exact this
 have hlt:qf (l.take n)<2^n:=by
  have:=ZN (l.take n)
  rwa [zM,Kz h]at this
 rw[e,V8,Kf hlt]
theorem qeG(l:List Bool):qj (qf l)≤l.length:=j9.2 (ZN l)
theorem qvy(l:List Bool):l.take (qj (qf l))=cN (qf l):=by
 have h:=qeG l;have e:=qiR (l.take (qj (qf l)))
 rw[zM,Kz h,qqz l _ h,Kf (yI _)]at e;exact e.symm
theorem qzn(k:Nat):List.take 4 (List.drop 0 (List.flatten [wdB ((k:Nat):Int)]))=qY 4 k:=by
 rw[KR,Wf,List.flatten_nil,KV,qeC,zg];rfl
theorem qiZ(w:Int):List.length (List.flatten [wdB w])=64:=by
 rw[Wf,List.flatten_nil,KV,qeC,j4]
theorem qi0(a b:List Bool):(Zc a b).length≤a.length+b.length:=qbx a b _
theorem qqA(l:List Bool):List.take (Int.toNat ((qj (qf l):Int)-0)) (List.drop 0 l)=cN (qf l):=by
 rw[KR,show Int.toNat ((qj (qf l):Int)-0)=qj (qf l) by omega,qvy]
theorem qkh{a b:List Bool}(h:a.length+b.length+1≤549755813888):JO (a,b)=some (Zc a b):=by
 unfold JO;rw[zo h];rfl
theorem qzo{a b:List Bool}(h:max a.length b.length+1≤549755813888):yG (a,b)=some (Qo a b):=by
 unfold yG;rw[zo h];rfl
theorem c464:(true&&(true&&(decide ((4:Int)≤((64:Nat):Int)))))=true:=rfl
theorem qxl:qf (qY 4 10)=10:=by rw[Jc]
theorem wd10:wdB 10=wdB ((10:Nat):Int):=rfl
theorem qvz{N:Nat}(hN:N≤200000):∀(d i:Nat),i+d=N→je (d+1) qdn ((N:Int),cN (10^i),List.flatten [wdB 10],(i:Int),()) ((N:Int),cN (10^N),List.flatten [wdB 10],(N:Int),()):=fun d=>by
 induction d with
 | zero=>
  intro i hi;obtain rfl:i=N:=by omega
  refine je.stop ?_
  unfold qdn;simp only[];rw[zi (by omega)];rfl
 | succ d ih=>
  intro i hi;refine je.next ?_ (ih (i+1) (by omega))
  have w:IntKind.i64.wrap ((i:Int)+1)=((i+1:Nat):Int):=by rw[w64 (by omega) (by omega)];omega
  have hb:=Qm i;have hv:qf (Zc (cN (10^i)) (qY 4 10))=10^(i+1):=by rw[qby,qck,qxl,zU]
  have hl:=qeG (Zc (cN (10^i)) (qY 4 10))
  unfold qdn;simp only[qiZ,w];rw[bdT (by omega),c464,zf,wd10,qzn];refine obs (qkh (by rw[Zf,j4];omega)) ?_
  rw[qqA,hv];rw[hv]at hl;rw[za (show(0:Int)≤((qj (10^(i+1)):Nat):Int) by omega),za (show((qj (10^(i+1)):Nat):Int)≤(((Zc (cN (10^i)) (qY 4 10)).length:Nat):Int) by omega)];rfl
def qcl(n:Int):Option (List Bool):=bif decide (0≤n)&&decide (n≤200000)then some (cN (10^n.toNat))else none
theorem qqB{n:Nat}(h:n≤200000):qcl (n:Int)=some (cN (10^n)):=by
 unfold qcl;rw[za (by omega),za (by omega),zg];rfl
theorem qvA(n:Int)(y:List Bool)(hg:(d1 (cI .i64)).good n)(h:qcl n=some y):∃k,qzm k n=some y:=by
 obtain⟨h1,h2⟩:=qi h;have:=soi h2;subst this
 simp only[zk,zD]at h1;obtain⟨m,rfl⟩:=zV h1.1;refine⟨2000000,?_⟩
 unfold qzm;have r:=qvz (N:=m) (by omega) m 0 (by omega) 2000000 (by omega)
 exact obs r (by rw[zg])
theorem qvB{S:List UInt8}(hS:S.length≤1000000)(hd:∀c∈S,isD c=true):∀(d i:Nat),i+d=S.length→je (d+1) qdm (bs S,cN (dv (S.take i)),List.flatten [wdB 10],(i:Int),()) (bs S,cN (dv S),List.flatten [wdB 10],((S.length:Nat):Int),()):=fun d=>by
 induction d with
 | zero=>
  intro i hi;obtain rfl:i=S.length:=by omega
  rw[List.take_length];refine je.stop ?_
  unfold qdm;simp only[qe];rw[zi (by omega)];rfl
 | succ d ih=>
  intro i hi;have hi':i<S.length:=by omega
  obtain⟨c,hc⟩:∃c,S[i]?=some c:=⟨_,zl hi'⟩
  have hcd:=jP.1 (hd c (Kp hc))
  have hc8:=c.toNat_lt;refine je.next ?_ (ih (i+1) (by omega))
  have w:IntKind.i64.wrap ((i:Int)+1)=((i+1:Nat):Int):=by rw[w64 (by omega) (by omega)];omega
  have w8:IntKind.u64.wrap (IntKind.u8.wrap (((c.toNat:Nat):Int)-48))=((c.toNat-48:Nat):Int):=by
   rw[show IntKind.u8.wrap (((c.toNat:Nat):Int)-48)=((c.toNat-48:Nat):Int) by
    rw[show(((c.toNat:Nat):Int)-48)=((c.toNat-48:Nat):Int) by omega];exact yB (Y3.2 ⟨by omega,by omega⟩)]
   exact jH (by omega) (by omega)
  have htl:(S.take i).length=i:=by rw[zM];omega
  have htd:∀c∈S.take i,isD c=true:=fun c hc=>hd c (VC hc)
  have hlt:=qfN (S.take i) htd
  rw[htl]at hlt;have hb:=Jb hlt;have hv1:qf (Zc (cN (dv (S.take i))) (qY 4 10))=dv (S.take i)*10:=by rw[qby,qck,qxl]
  have hv2:qf (qY 4 (c.toNat-48))=c.toNat-48:=by rw[Jc];exact Kf (by omega)
  have hl1:=qi0 (cN (dv (S.take i))) (qY 4 10)
  rw[Zf,j4]at hl1;have e1:dv [c]=c.toNat-48:=by unfold dv;simp
  have e2:dv (S.take (i+1))=dv (S.take i)*10+(c.toNat-48):=by
   rw[List.take_add_one,hc];have:=qas (S.take i) [c]
   rw[e1]at this;exact this
  have hv3:qf (Qo (Zc (cN (dv (S.take i))) (qY 4 10)) (qY 4 (c.toNat-48)))=dv (S.take (i+1)):=by rw[qeA,hv1,hv2,e2]
  have hl3:=qeG (Qo (Zc (cN (dv (S.take i))) (qY 4 10)) (qY 4 (c.toNat-48)))
  unfold qdm;simp only[qiZ,w,qe,zg,qW,hc,zd,w8,qzn];rw[bdT (by omega),c464,zf,wd10,qzn];refine obs (qkh (by rw[Zf,j4];omega)) ?_
  rw[bdT (by omega),zf];refine obs (qzo (by rw[j4];omega)) ?_
  rw[qqA,hv3];rw[hv3]at hl3;rw[za (show(0:Int)≤((qj (dv (S.take (i+1))):Nat):Int) by omega),za (show((qj (dv (S.take (i+1))):Nat):Int)≤(((Qo (Zc (cN (dv (S.take i))) (qY 4 10)) (qY 4 (c.toNat-48))).length:Nat):Int) by omega)];rfl
def qcm(s:ByteArray):Option (List Bool):=bif(lb s).all isD&&Nat.ble (lb s).length 1000000 then some (cN (dv (lb s)))else none
theorem qzp{S:List UInt8}(hS:S.length≤1000000)(hd:∀c∈S,isD c=true):qcm (bs S)=some (cN (dv S)):=by
 unfold qcm;rw[jB,zX.2 hd,zo hS];rfl
theorem qvC(s:ByteArray)(y:List Bool)(hg:(d1 cS).good s)(h:qcm s=some y):∃n,qvx n s=some y:=by
 clear hg;refine⟨2000000,?_⟩
 revert h;refine onB (P:=fun s=>qcm s=some y→qvx 2000000 s=some y) (fun S h=>?_) s
 obtain⟨h1,h2⟩:=qi h;have:=soi h2;subst this
 rw[jB]at h1 ⊢;simp only[zk]at h1;have hS:S.length≤1000000:=zm h1.2
 have r:=qvB hS (zX.1 h1.1) S.length 0 (by omega) 2000000 (by omega)
 rw[List.take_zero]at r;unfold qvx;exact obs r rfl
end
end Su
end
section
namespace Su
open Go Fly
noncomputable section
def ZP:Stp (ByteArray×ByteArray×Int×Int×Bool×Int×Int×Unit):=fun p7=>(bif(decide (p7.2.2.2.2.2.2.1<p7.2.2.2.2.2.1))then
 (bif(decide (0≤p7.2.2.2.2.2.2.1))then
 ((p7.1)[p7.2.2.2.2.2.2.1.toNat]?).bind fun x8=>
 some (.inl (p7.1,p7.2.1,p7.2.2.1,(min (IntKind.wrap .i64 ((IntKind.wrap .i64 (p7.2.2.2.1*10))+(IntKind.wrap .i64 (IntKind.wrap .u8 ((UInt8.toNat x8:Int)-48))))) 100000),p7.2.2.2.2.1,p7.2.2.2.2.2.1,(IntKind.wrap .i64 (p7.2.2.2.2.2.2.1+1)),()))
 else none)
 else
  some (.inr (p7.1,p7.2.1,p7.2.2.1,p7.2.2.2.1,p7.2.2.2.2.1,p7.2.2.2.2.2.1,p7.2.2.2.2.2.2.1,())))
def eP(fu:Nat)(s:ByteArray)(D:ByteArray)(bh:Int)(mi:Bool)(k:Int):Option (ByteArray×Int×Int×Bool) :=
 (Ju (s,k)).bind fun x=>(bif(decide (x=k))then some ((ByteArray.mk (List.toArray [])),(0:Int),(0:Int),false)else
 (itP fu (ZP) (s,D,bh,(0:Int),mi,x,k,())).bind fun x9=>
 (bif x9.2.2.2.2.1 then some (x9.2.1,x9.2.2.1,(IntKind.wrap .i64 (0-x9.2.2.2.1)),(decide (x9.2.2.2.2.2.1=(ByteArray.size x9.1:Int))))
  else some (x9.2.1,x9.2.2.1,x9.2.2.2.1,(decide (x9.2.2.2.2.2.1=(ByteArray.size x9.1:Int))))))
def eS(fu:Nat)(s:ByteArray)(D:ByteArray)(bh:Int)(j:Int):Option (ByteArray×Int×Int×Bool) :=
 (bif(decide ((IntKind.wrap .i64 (j+1))<(ByteArray.size s:Int)))then
 (bif(decide (0≤(IntKind.wrap .i64 (j+1))))then
 ((s)[(Int.toNat (IntKind.wrap .i64 (j+1)))]?).bind fun x4=>
 (bif(decide ((UInt8.toNat x4:Int)=43))then
 (bif(decide (0≤(IntKind.wrap .i64 (j+1))))then
 ((s)[(Int.toNat (IntKind.wrap .i64 (j+1)))]?).bind fun x5=>eP fu s D bh (decide ((UInt8.toNat x5:Int)=45)) (IntKind.wrap .i64 ((IntKind.wrap .i64 (j+1))+1))
 else none)else
 (bif(decide (0≤(IntKind.wrap .i64 (j+1))))then
 ((s)[(Int.toNat (IntKind.wrap .i64 (j+1)))]?).bind fun x10=>
 (bif(decide ((UInt8.toNat x10:Int)=45))then
 (bif(decide (0≤(IntKind.wrap .i64 (j+1))))then
 ((s)[(Int.toNat (IntKind.wrap .i64 (j+1)))]?).bind fun x11=>eP fu s D bh (decide ((UInt8.toNat x11:Int)=45)) (IntKind.wrap .i64 ((IntKind.wrap .i64 (j+1))+1))
 else none)else eP fu s D bh false (IntKind.wrap .i64 (j+1)))
 else none))
 else none)else eP fu s D bh false (IntKind.wrap .i64 (j+1)))
def qqC(fu:Nat)(s:ByteArray)(D:ByteArray)(bh:Int)(j:Int):Option (ByteArray×Int×Int×Bool) :=
 (bif(decide (j<(ByteArray.size s:Int)))then
 (bif(decide (0≤j))then
 ((s)[j.toNat]?).bind fun x3=>
 (bif(decide ((UInt8.toNat x3:Int)=101))then eS fu s D bh j else
 (bif(decide (0≤j))then
 ((s)[j.toNat]?).bind fun x24=>
 (bif(decide ((UInt8.toNat x24:Int)=69))then eS fu s D bh j else
 some (D,bh,(0:Int),(decide (j=(ByteArray.size s:Int)))))
 else none))
 else none)else some (D,bh,(0:Int),(decide (j=(ByteArray.size s:Int)))))
def qqD(fu:Nat)(s:ByteArray):Option (ByteArray×Int×Int×Bool) :=
 ((Ju (s,(0:Int))).bind fun x0=>
   (bif(decide (x0=0))then some ((ByteArray.mk (List.toArray [])),(0:Int),(0:Int),false)else
     (bif((true&&(decide (0≤x0)))&&(decide (x0≤(ByteArray.size s:Int))))then
       (bif(decide (x0<(ByteArray.size s:Int)))then
         (bif(decide (0≤x0))then
           (s[x0.toNat]?).bind fun x1=>
             (bif(decide ((UInt8.toNat x1:Int)=46))then
               (Ju (s,(IntKind.wrap .i64 (x0+1)))).bind fun x2=>
                 (bif(decide (x2=(IntKind.wrap .i64 (x0+1))))then some ((ByteArray.mk (List.toArray [])),(0:Int),(0:Int),false)else
                   (bif(((decide (0≤(IntKind.wrap .i64 (x0+1))))&&(decide ((IntKind.wrap .i64 (x0+1))≤x2)))&&(decide (x2≤(ByteArray.size s:Int))))then
                     (bif(Nat.ble ((ByteArray.size (ByteArray.extract s 0 x0.toNat))+(ByteArray.size (ByteArray.extract s (Int.toNat (IntKind.wrap .i64 (x0+1))) x2.toNat))) 549755813888)then
                       qqC fu s ((ByteArray.extract s 0 x0.toNat)++(ByteArray.extract s (Int.toNat (IntKind.wrap .i64 (x0+1))) x2.toNat)) (IntKind.wrap .i64 ((IntKind.wrap .i64 (x2-x0))-1)) x2
                     else none)else none))
             else qqC fu s (ByteArray.extract s 0 x0.toNat) 0 x0)
         else none)
       else qqC fu s (ByteArray.extract s 0 x0.toNat) 0 x0)
     else none)))
abbrev PtS:=ByteArray×(ByteArray×Int×Int×Bool×Int×Int×Unit)
abbrev ptS(S:List UInt8)(D:ByteArray)(bh:Int)(p:Nat)(mi:Bool)(k n:Nat):PtS:=(bs S,D,bh,(p:Int),mi,((k:Nat):Int),(n:Int),())
theorem qzq{S:List UInt8}(hS:S.length≤1000000){i:Nat}(hi:i≤S.length)(D:ByteArray)(bh:Int)(mi:Bool):∀(d:Nat) (A B:List UInt8),A++B=rnL S i→B.length=d →
 je (d+1) ZP (ptS S D bh (exV A) mi (rn S i) (i+A.length)) (ptS S D bh (exV (rnL S i)) mi (rn S i) (rn S i)):=fun d=>by
 have hr:=QO hi;induction d with
 | zero=>
  intro A B h hB;have:B=[]:=KD.1 hB
  subst this;rw[KV]at h;subst h;refine je.stop ?_
  unfold ZP;simp only[ptS];rw[zi (by unfold rn;omega)];rfl
 | succ d ih=>
  intro A B h hB;cases B with
  | nil=>cases hB
  | cons c B=>
   have hl:A.length+(B.length+1)=(rnL S i).length:=by rw[← h];simp
   have hc0:(rnL S i)[A.length]?=some c:=by rw[← h,zO (zw _),Vz];rfl
   have hc:S[i+A.length]?=some c:=by
    obtain⟨T,hT⟩:rnL S i <+: S.drop i:=List.takeWhile_prefix _
    have:(S.drop i)[A.length]?=some c:=by
     rw[← hT,Ki (by omega)];exact hc0
    rwa [KX]at this
   have hcD:=jP.1 (qat S i c (by rw[← h];simp))
   have hx:=qeu A;have ih':=ih (A++[c]) B (by rw[zZ];exact h) (by simpa using hB)
   rw[qet,zJ,Vp]at ih';refine je.next ?_ ih'
   have hn:i+A.length<rn S i:=by unfold rn;omega
   have w:IntKind.i64.wrap (((i+A.length:Nat):Int)+1)=((i+(A.length+1):Nat):Int):=by rw[w64 (by omega) (by omega)];omega
   have w1:IntKind.u8.wrap (((c.toNat:Nat):Int)-48)=((c.toNat-48:Nat):Int):=by
    rw[show(((c.toNat:Nat):Int)-48)=((c.toNat-48:Nat):Int) by omega];exact yB (Y3.2 ⟨by omega,by omega⟩)
   have w2:IntKind.i64.wrap (((exV A:Nat):Int)*10)=((exV A:Nat):Int)*10:=w64 (by omega) (by omega)
   have w3:IntKind.i64.wrap ((c.toNat-48:Nat):Int)=((c.toNat-48:Nat):Int):=w64 (by omega) (by omega)
   have w4:IntKind.i64.wrap (((exV A:Nat):Int)*10+((c.toNat-48:Nat):Int))=((exV A:Nat):Int)*10+((c.toNat-48:Nat):Int):=w64 (by omega) (by omega)
   have em:min (((exV A:Nat):Int)*10+((c.toNat-48:Nat):Int)) 100000=((min (exV A*10+(c.toNat-48)) 100000:Nat):Int):=by omega
   unfold ZP;simp only[ptS,zg,qW,hc,zd,w,w1,w2,w3,w4,em];rw[za (by omega),za (by omega)];rfl
def qtE(S D:List UInt8)(bh:Int)(j:Nat):List UInt8×(Int×Int×Bool) :=
 if S[j]?=some 101∨S[j]?=some 69 then
  if rnL S (exK S j)=[]then([],0,0,false)
  else(D,bh,(if S[j+1]?=some 45 then -((exV (rnL S (exK S j)):Nat):Int)else((exV (rnL S (exK S j)):Nat):Int)),decide (rn S (exK S j)=S.length))
 else(D,bh,0,decide (j=S.length))
def tb4(q:List UInt8×Int×Int×Bool):ByteArray×(Int×Int×Bool):=(bs q.1,q.2)
theorem qlG(a b:Nat):decide (((a:Nat):Int)=(b:Int))=decide (a=b):=Wh.2 ⟨fun h=>by omega,fun h=>by omega⟩
theorem qqE{S:List UInt8}(hS:S.length≤1000000)(D:List UInt8)(bh:Int){j:Nat}(hj:j≤S.length):qqC 2000000 (bs S) (bs D) bh ((j:Nat):Int)=some (tb4 (qtE S D bh j)):=by
 have w1:IntKind.i64.wrap (((j:Nat):Int)+1)=((j+1:Nat):Int):=by rw[w64 (by omega) (by omega)];omega
 have w2:IntKind.i64.wrap (((j+1:Nat):Int)+1)=((j+2:Nat):Int):=by rw[w64 (by omega) (by omega)];omega
 have fin:∀(k:Nat) (mi:Bool),exK S j=k→k≤S.length→(S[j]?=some 101∨S[j]?=some 69)→decide (S[j+1]?=some 45)=mi →
  ((Ju (bs S,((k:Nat):Int))).bind fun x=>(bif(decide (x=((k:Nat):Int)))then some ((ByteArray.mk (List.toArray [])),(0:Int),(0:Int),false)else
    ((itP 2000000 ZP (bs S,bs D,bh,(0:Int),mi,x,((k:Nat):Int),())).bind fun x9=>
      (bif x9.2.2.2.2.1 then some (x9.2.1,x9.2.2.1,(IntKind.wrap .i64 (0-x9.2.2.2.1)),(decide (x9.2.2.2.2.2.1=(ByteArray.size x9.1:Int))))
       else some (x9.2.1,x9.2.2.1,x9.2.2.2.1,(decide (x9.2.2.2.2.2.1=(ByteArray.size x9.1:Int))))))))=some (tb4 (qtE S D bh j)):=fun k mi hk hkl he hm=>by
  refine obs (qkg hS hkl) ?_
  unfold qtE;rw[zr he,hk];have hx:=qeu (rnL S k)
  by_cases h0:rnL S k=[]
  · rw[zr h0]
    refine bdT ?_ _ _
    unfold rn;rw[h0];rfl
  · rw[zp h0]
    have h1:(rnL S k).length≠0:=fun e=>h0 (KA e)
    refine(bdF (by unfold rn;omega) _ _).trans ?_
    have r:=qzq hS hkl (bs D) bh mi (rnL S k).length [] (rnL S k) rfl rfl 2000000 (by have:=QO hkl;unfold rn at this;omega)
    refine obs r ?_
    simp only[ptS,qe,qlG];rw[show IntKind.i64.wrap (0-((exV (rnL S k):Nat):Int)) = -((exV (rnL S k):Nat):Int) by rw[w64 (by omega) (by omega)];omega];subst hm;by_cases h45:S[j+1]?=some 45
    · rw[za h45,zr h45];rfl
    · rw[zi h45,zp h45];rfl
 have no : ¬(S[j]?=some 101∨S[j]?=some 69)→qtE S D bh j=(D,bh,0,decide (j=S.length)):=fun h=>by unfold qtE;rw[zp h]
 have out:∀(h : ¬(S[j]?=some 101∨S[j]?=some 69)),some (bs D,bh,(0:Int),decide (((j:Nat):Int)=((S.length:Nat):Int)))=some (tb4 (qtE S D bh j)):=fun h=>by rw[no h,qlG];rfl
 unfold qqC eS eP;simp only[w1,w2,qe,zg,qW];by_cases hl:j<S.length
 · obtain⟨c,hc⟩:∃c,S[j]?=some c:=⟨_,zl hl⟩
   have body:∀X,(S[j]?=some 101∨S[j]?=some 69) →
    (bif(decide (((j+1:Nat):Int)<((S.length:Nat):Int)))then X else
      ((Ju (bs S,((j+1:Nat):Int))).bind fun x=>(bif(decide (x=((j+1:Nat):Int)))then some ((ByteArray.mk (List.toArray [])),(0:Int),(0:Int),false)else
      ((itP 2000000 ZP (bs S,bs D,bh,(0:Int),false,x,((j+1:Nat):Int),())).bind fun x9=>
        (bif x9.2.2.2.2.1 then some (x9.2.1,x9.2.2.1,(IntKind.wrap .i64 (0-x9.2.2.2.1)),(decide (x9.2.2.2.2.2.1=(ByteArray.size x9.1:Int))))
         else some (x9.2.1,x9.2.2.1,x9.2.2.2.1,(decide (x9.2.2.2.2.2.1=(ByteArray.size x9.1:Int)))))))))=some (tb4 (qtE S D bh j))∨j+1<S.length:=fun X he=>by
    by_cases hl2:j+1<S.length
    · exact .inr hl2
    · refine .inl ((bdF (by omega) _ _).trans (fin (j+1) false ?_ (by omega) he ?_))
      · unfold exK
        rw[zA (show S.length≤j+1 by omega),zp (by rintro(h | h) <;> cases h)]
      · rw[zA (show S.length≤j+1 by omega)];rfl
   rw[bdT (by omega),bdT (by omega),hc,zd];by_cases h101:c=101
   · subst h101
     have he:S[j]?=some 101∨S[j]?=some 69:=.inl hc
     rw[bdT (by rfl)];rcases body _ he with h | hl2
     · exact h
     · obtain⟨d,hd⟩:∃d,S[j+1]?=some d:=⟨_,zl hl2⟩
       rw[bdT (by omega),bdT (by omega),hd,zd];by_cases h43:d=43
       · subst h43
         rw[bdT (by rfl),zd];exact fin (j+2) false (by unfold exK;rw[hd,zr (.inl rfl)]) (by omega) he (by rw[hd];decide)
       · rw[bdF (fun e=>h43 (KJ.1 (show d.toNat=43 by omega))),bdT (by omega),zd]
         by_cases h45:d=45
         · subst h45
           rw[bdT (by rfl),bdT (by omega),zd];exact fin (j+2) true (by unfold exK;rw[hd,zr (.inr rfl)]) (by omega) he (by rw[hd];decide)
         · rw[bdF (fun e=>h45 (KJ.1 (show d.toNat=45 by omega)))]
           refine fin (j+1) false ?_ (by omega) he ?_
           · unfold exK
             rw[hd,zp (by rintro(h | h);exact h43 (Ke h);exact h45 (Ke h))]
           · rw[hd];exact zi fun e=>h45 (Ke e)
   · rw[bdF (fun e=>h101 (KJ.1 (show c.toNat=101 by omega))),bdT (by omega),zd]
     by_cases h69:c=69
     · subst h69
       have he:S[j]?=some 101∨S[j]?=some 69:=.inr hc
       rw[bdT (by rfl)];rcases body _ he with h | hl2
       · exact h
       · obtain⟨d,hd⟩:∃d,S[j+1]?=some d:=⟨_,zl hl2⟩
         rw[bdT (by omega),bdT (by omega),hd,zd];by_cases h43:d=43
         · subst h43
           rw[bdT (by rfl),zd];exact fin (j+2) false (by unfold exK;rw[hd,zr (.inl rfl)]) (by omega) he (by rw[hd];decide)
         · rw[bdF (fun e=>h43 (KJ.1 (show d.toNat=43 by omega))),bdT (by omega),zd]
           by_cases h45:d=45
           · subst h45
             rw[bdT (by rfl),bdT (by omega),zd];exact fin (j+2) true (by unfold exK;rw[hd,zr (.inr rfl)]) (by omega) he (by rw[hd];decide)
           · rw[bdF (fun e=>h45 (KJ.1 (show d.toNat=45 by omega)))]
             refine fin (j+1) false ?_ (by omega) he ?_
             · unfold exK
               rw[hd,zp (by rintro(h | h);exact h43 (Ke h);exact h45 (Ke h))]
             · rw[hd];exact zi fun e=>h45 (Ke e)
     · rw[bdF (fun e=>h69 (KJ.1 (show c.toNat=69 by omega)))]
       exact out (by rw[hc];rintro(h | h);exact h101 (Ke h);exact h69 (Ke h))
 · rw[bdF (by omega)]
   exact out (by rw[zA (show S.length≤j by omega)];rintro(h | h) <;> cases h)
def qtL(S:List UInt8):List UInt8×(Int×Int×Bool) :=
 if rnL S 0=[]then([],0,0,false)else
 if S[rn S 0]?=some 46 then
  if rnL S (rn S 0+1)=[]then([],0,0,false)else qtE S (rnL S 0++rnL S (rn S 0+1)) (((rnL S (rn S 0+1)).length:Nat):Int) (rn S (rn S 0+1))
 else qtE S (rnL S 0) 0 (rn S 0)
theorem qqF{S:List UInt8}(hS:S.length≤1000000):qqD 2000000 (bs S)=some (tb4 (qtL S)):=by
 have j0:=QO (S:=S) (i:=0) (by omega)
 unfold qqD;have r0:Ju (bs S,(0:Int))=some ((rn S 0:Nat):Int):=qkg (i:=0) hS (VX _)
 refine obs r0 ?_
 simp only[qe,zg,qW,qes];unfold qtL;by_cases h0:rnL S 0=[]
 · rw[zr h0]
   exact bdT (by unfold rn;rw[h0];rfl) _ _
 · rw[zp h0]
   have h1:(rnL S 0).length≠0:=fun e=>h0 (KA e)
   rw[bdF (by unfold rn;omega),za (show(0:Int)≤((rn S 0:Nat):Int) by omega),za (show((rn S 0:Nat):Int)≤((S.length:Nat):Int) by omega)];simp only[z7,zf];have tail:=qqE hS (rnL S 0) 0 j0
   by_cases hl:rn S 0<S.length
   · obtain⟨c,hc⟩:∃c,S[rn S 0]?=some c:=⟨_,zl hl⟩
     rw[bdT (by omega),hc,zd];by_cases h46:c=46
     · subst h46
       rw[bdT (by rfl),zr rfl];have j1:=QO (S:=S) (i:=rn S 0+1) (by omega)
       have j2:=qbn S (rn S 0+1)
       have w1:IntKind.i64.wrap (((rn S 0:Nat):Int)+1)=((rn S 0+1:Nat):Int):=by rw[w64 (by omega) (by omega)];omega
       rw[w1];refine obs (qkg hS (by omega)) ?_
       simp only[zg,qes,qe,qpF];by_cases h2:rnL S (rn S 0+1)=[]
       · rw[zr h2]
         exact bdT (by unfold rn at h2 ⊢;rw[h2];rfl) _ _
       · rw[zp h2]
         have h3:(rnL S (rn S 0+1)).length≠0:=fun e=>h2 (KA e)
         have e2:rn S (rn S 0+1)=rn S 0+1+(rnL S (rn S 0+1)).length:=rfl
         have e0:rn S 0=(rnL S 0).length:=by unfold rn;omega
         rw[bdF (by omega),za (show(0:Int)≤((rn S 0+1:Nat):Int) by omega),za (show((rn S 0+1:Nat):Int)≤((rn S (rn S 0+1):Nat):Int) by omega),za (show((rn S (rn S 0+1):Nat):Int)≤((S.length:Nat):Int) by omega)];simp only[z7,zf];rw[bdB (by omega)];have w2:IntKind.i64.wrap (IntKind.i64.wrap (((rn S (rn S 0+1):Nat):Int)-((rn S 0:Nat):Int))-1)=(((rnL S (rn S 0+1)).length:Nat):Int):=by
          rw[w64 (n:=((rn S (rn S 0+1):Nat):Int)-((rn S 0:Nat):Int)) (by omega) (by omega),w64 (by omega) (by omega)];omega
         rw[w2];exact qqE hS _ _ j1
     · rw[bdF (fun e=>h46 (KJ.1 (show c.toNat=46 by omega))),zp (fun e=>h46 (Ke e))]
       exact tail
   · rw[bdF (by omega),zA (show S.length≤rn S 0 by omega),zp (fun e=>by cases e)]
     exact tail
def qcn(s:ByteArray):Option (ByteArray×Int×Int×Bool):=bif Nat.ble (lb s).length 1000000 then some (tb4 (qtL (lb s)))else none
theorem qzr{S:List UInt8}(hS:S.length≤1000000):qcn (bs S)=some (tb4 (qtL S)):=by
 unfold qcn;rw[jB,zo hS];rfl
theorem qvD(s:ByteArray)(y:ByteArray×Int×Int×Bool)(hg:(d1 cS).good s)(h:qcn s=some y):∃n,qqD n s=some y:=by
 clear hg;refine⟨2000000,?_⟩
 revert h;refine onB (P:=fun s=>qcn s=some y→qqD 2000000 s=some y) (fun S h=>?_) s
 obtain⟨h1,h2⟩:=qi h;have:=soi h2;subst this
 rw[jB]at h1 ⊢;exact qqF (zm h1)
theorem qBJ(S:List UInt8):(qtL S).2.2.2=(ptL S).2.2∧((qtL S).2.2.2=true→(qtL S).1=(ptL S).1∧(qtL S).2.2.1-(qtL S).2.1=(ptL S).2.1):=by
 have key:∀(D:List UInt8) (bh:Nat) (ok:Bool) (j:Nat),ok=true→(qtE S D ((bh:Nat):Int) j).2.2.2=(ptB S (D,-((bh:Nat):Int),ok,j)).2.2∧((qtE S D ((bh:Nat):Int) j).2.2.2=true→(qtE S D ((bh:Nat):Int) j).1=(ptB S (D,-((bh:Nat):Int),ok,j)).1∧(qtE S D ((bh:Nat):Int) j).2.2.1-(qtE S D ((bh:Nat):Int) j).2.1=(ptB S (D,-((bh:Nat):Int),ok,j)).2.1):=fun D bh ok j hok=>by
  subst hok;unfold qtE ptB;by_cases he:S[j]?=some 101∨S[j]?=some 69
  · rw[zr he,zr he]
    show _=(true&&(decide (rnL S (exK S j)≠[])&&decide (rn S (exK S j)=S.length)))∧_
    by_cases h0:rnL S (exK S j)=[]
    · rw[zr h0]
      refine⟨?_,fun h=>by cases h⟩
      rw[zi (fun h=>h h0)];rfl
    · rw[zp h0]
      refine⟨?_,fun h=>⟨rfl,?_⟩⟩
      · rw[za h0];rfl
      · show(if S[j+1]?=some 45 then -((exV (rnL S (exK S j)):Nat):Int)else((exV (rnL S (exK S j)):Nat):Int))-((bh:Nat):Int) = -((bh:Nat):Int)+(if S[j+1]?=some 45 then -((exV (rnL S (exK S j)):Nat):Int)else((exV (rnL S (exK S j)):Nat):Int))
        omega
  · rw[zp he,zp he]
    exact⟨by simp,fun h=>⟨rfl,by show(0:Int)-((bh:Nat):Int) = -((bh:Nat):Int);omega⟩⟩
 have bad:∀a:List UInt8×Int×Bool×Nat,a.2.2.1=false→(ptB S a).2.2=false:=fun a h=>by
  unfold ptB;rw[h];split <;> rfl
 unfold qtL ptL ptA;by_cases h0:rnL S 0=[]
 · rw[zr h0]
   refine⟨?_,fun h=>by cases h⟩
   split
   · rw[bad _ (by simp[h0])]
   · rw[bad _ (by simp[h0])]
 · rw[zp h0]
   by_cases h46:S[rn S 0]?=some 46
   · rw[zr h46,zr h46]
     by_cases h2:rnL S (rn S 0+1)=[]
     · rw[zr h2]
       refine⟨?_,fun h=>by cases h⟩
       rw[bad _ (by simp[h2])]
     · rw[zp h2]
       exact key _ _ _ _ (by simp[h0,h2])
   · rw[zp h46,zp h46]
     exact key _ 0 _ _ (by simp[h0])
end
end Su
end
section
namespace Su
open Go Fly
end Su
end
