/-
  What functions of the program compute, in plain Lean, and that the evaluator finds it.
-/
import Derived.Test.YtldhknmacepeiaaGreatDoorSuXl
import Derived.Test.YtldhknmacepeiaaGreatDoorNT14
set_option linter.unusedVariables false
set_option linter.unusedSimpArgs false
set_option maxRecDepth 10000
section
namespace Su
open Go Fly
noncomputable section
def qpY  (s:ByteArray)(i:Int):Option Bool :=
 (bif(decide (i<(ByteArray.size s:Int)))then
 (bif(decide (0≤i))then
 ((s)[i.toNat]?).bind fun x0=>
 (bif(decide (48≤(UInt8.toNat x0:Int)))then
 some (decide ((UInt8.toNat x0:Int)≤57))
 else
  some false)
 else none)
 else
  some false)
def tHP  (s:ByteArray)(p:ByteArray):Option Bool :=
 (bif(decide ((ByteArray.size p:Int)≤(ByteArray.size s:Int)))then
 (bif((true&&(decide (0≤(ByteArray.size p:Int))))&&(decide ((ByteArray.size p:Int)≤(ByteArray.size s:Int))))then
 some (decide ((ByteArray.extract s 0 (Int.toNat (ByteArray.size p:Int)))=p))
 else none)
 else
  some false)
def qdl(s:ByteArray) :=
 bif(true&&(decide (1≤(ByteArray.size s:Int))))then
 (bif(Go.Lib.contains (lb (ByteArray.mk (List.toArray [40,41,91,93,123,125,44,59,58,61,60,62,43,45,42,47,33]))) (lb (ByteArray.extract s 0 1)))then
 (bif(true&&(decide (1≤(ByteArray.size s:Int))))then
 some (ByteArray.extract s 0 1)
 else none)
 else
  some (ByteArray.mk (List.toArray [])))
 else
  none
def quU  (s:ByteArray):Option ByteArray :=
 (bif(decide (1<(ByteArray.size s:Int)))then
 (bif(true&&(decide (2≤(ByteArray.size s:Int))))then
 (bif(Go.Lib.contains (lb (ByteArray.mk (List.toArray [61,61,32,33,61,32,60,61,32,62,61,32,38,38,32,124,124,32,46,46]))) (lb (ByteArray.extract s 0 2)))then
 (bif(true&&(decide (2≤(ByteArray.size s:Int))))then
 (qew ((ByteArray.extract s 0 2),(ByteArray.mk (List.toArray [32])))).bind fun x0=>
 (bif(!x0)then
 (bif(true&&(decide (2≤(ByteArray.size s:Int))))then
 some (ByteArray.extract s 0 2)
 else none)
 else
  (qdl s))
 else none)
 else
  (qdl s))
 else none)
 else
  (qdl s))
def qy1  (c:Int):Option Bool :=
 (bif(decide (97≤(Fly.qB Go.BinOp.or .u8 c 32)))then
 (bif(decide ((Fly.qB Go.BinOp.or .u8 c 32)≤122))then
 some true
 else
  some (decide (c=95)))
 else
  some (decide (c=95)))
abbrev qau:=(ByteArray×Int×Unit)
def J6:qau→Option (qau ⊕ (Lp qau Int)):=fun p0=>(bif(decide (p0.2.1<(ByteArray.size p0.1:Int)))then
 (bif(((decide (0≤p0.2.1))&&(decide (p0.2.1≤(ByteArray.size p0.1:Int))))&&(decide ((ByteArray.size p0.1:Int)≤(ByteArray.size p0.1:Int))))then
 (bif(decide (0≤p0.2.1))then
 ((p0.1)[p0.2.1.toNat]?).bind fun x1=>
 (bif(decide (0≤(yf (UInt8.ofNat (Int.toNat (UInt8.toNat x1:Int))) (lb (ByteArray.mk (List.toArray [32,9,10,13]))))))then
 some (.inl (p0.1,(IntKind.wrap .i64 (p0.2.1+1)),()))
 else
  (bif(decide (((2:Nat):Int)≤(((ByteArray.size (ByteArray.extract p0.1 p0.2.1.toNat (Int.toNat (ByteArray.size p0.1:Int)))):Nat):Int)))then
  (bif(true&&(decide (((2:Nat):Int)≤(((ByteArray.size (ByteArray.extract p0.1 p0.2.1.toNat (Int.toNat (ByteArray.size p0.1:Int)))):Nat):Int))))then
  (bif(decide ((ByteArray.extract (ByteArray.extract p0.1 p0.2.1.toNat (Int.toNat (ByteArray.size p0.1:Int))) 0 2)=(ByteArray.mk (List.toArray [47,47]))))then
  (bif(decide ((yf (UInt8.ofNat (Int.toNat 10)) (lb (ByteArray.extract p0.1 p0.2.1.toNat (Int.toNat (ByteArray.size p0.1:Int)))))<0))then
  some (.inr (.ret (ByteArray.size p0.1:Int)))
 else
  some (.inl (p0.1,(IntKind.wrap .i64 (p0.2.1+(yf (UInt8.ofNat (Int.toNat 10)) (lb (ByteArray.extract p0.1 p0.2.1.toNat (Int.toNat (ByteArray.size p0.1:Int))))))),())))
 else
  some (.inr (.ret p0.2.1)))
 else none)
 else
  some (.inr (.ret p0.2.1))))
 else none)
 else none)
 else
  some (.inr (.exit 0 (p0.1,p0.2.1,()))))
def qlB  (fu:Nat)(s:ByteArray)(i:Int):Option Int :=
 (itP fu (J6) (s,i,())).bind fun x2=>
 (match x2 with
 | .exit i3 p4=>(bif(Nat.beq i3 0)then
  some p4.2.1
 else none)
 | .ret o5=>some o5)
def QP(S:List UInt8)(i:Nat):Bool:=(S[i]?).any isD
def jT(p:ByteArray×Int):Option Bool:=bif decide (0≤p.2)then some (QP (lb p.1) p.2.toNat)else none
theorem quV(p:ByteArray×Int)(y:Bool)(hg:(dc cS (d1 (cI .i64))).good p)(h:jT p=some y):qpY p.1 p.2=some y:=by
 obtain⟨s,i⟩:=p;clear hg;revert h;refine onB (P:=fun s=>jT (s,i)=some y→qpY s i=some y) (fun S h=>?_) s
 obtain⟨h1,h2⟩:=qi h;have:=soi h2;subst this
 have h1:=zW h1;obtain⟨k,rfl⟩:=zV h1;clear h h2;show qpY (bs S) ((k:Nat):Int)=some (QP S k)
 unfold qpY QP;simp only[qe,zg,qW];by_cases hk:k<S.length
 · obtain⟨c,hc⟩:∃c,S[k]?=some c:=⟨_,zl hk⟩
   rw[bdT (by omega),bdT (by omega),hc,zd];show _=some (isD c)
   unfold isD;by_cases h48:48≤c.toNat
   · rw[bdT (by omega),zo h48,z7]
     congr 1
     by_cases h57:c.toNat≤57
     · rw[za (by omega),zo h57]
     · rw[zi (by omega)]
       cases h:Nat.ble c.toNat 57 with
       | false=>rfl
       | true=>exact absurd (zm h) h57
   · rw[bdF (by omega)]
     cases h:Nat.ble 48 c.toNat with
     | false=>rfl
     | true=>exact absurd (zm h) h48
 · rw[bdF (by omega),zA (by omega)];rfl
def qxe(p:ByteArray×ByteArray):Option Bool:=some ((lb p.2).isPrefixOf (lb p.1))
theorem quW(l S:List UInt8):l.isPrefixOf S=decide (l.length≤S.length∧S.take l.length=l):=by
 by_cases h:l <+: S
 · rw[List.isPrefixOf_iff_prefix.2 h,za ⟨h.length_le,(Wl.1 h).symm⟩]
 · rw[zi fun hh=>h (Wl.2 hh.2.symm)]
   cases hb:l.isPrefixOf S with
   | false=>rfl
   | true=>exact absurd (List.isPrefixOf_iff_prefix.1 hb) h
theorem qy2(p:ByteArray×ByteArray)(y:Bool)(hg:(dc cS (d1 cS)).good p)(h:qxe p=some y):tHP p.1 p.2=some y:=by
 have:=soi h;subst this
 obtain⟨s,q⟩:=p;clear hg h;refine onB (P:=fun s=>tHP s q=some ((lb q).isPrefixOf (lb s))) (fun S=>?_) s
 refine onB (P:=fun q=>tHP (bs S) q=some ((lb q).isPrefixOf (lb (bs S)))) (fun l=>?_) q
 unfold tHP;simp only[qe,jB,jZ,zg,KR,We,qg8,z7];rw[quW];by_cases h:l.length≤S.length
 · rw[bdT (by omega),za (show(0:Int)≤((l.length:Nat):Int) by omega),za (show((l.length:Nat):Int)≤((S.length:Nat):Int) by omega)]
   show some (decide (S.take l.length=l))=_
   congr 1
   exact Wh.2 ⟨fun e=>⟨h,e⟩,fun e=>e.2⟩
 · rw[bdF (by omega),zi (fun e=>h e.1)]
def sg2:List UInt8:=[61,61,32,33,61,32,60,61,32,62,61,32,38,38,32,124,124,32,46,46]
def sg1:List UInt8:=[40,41,91,93,123,125,44,59,58,61,60,62,43,45,42,47,33]
def JN(S:List UInt8):List UInt8 :=
 if 1<S.length∧Lib.contains sg2 (S.take 2)=true∧Lib.contains (S.take 2) [32]=false then S.take 2 else if Lib.contains sg1 (S.take 1)=true then S.take 1 else[]
def qav(s:ByteArray):Option ByteArray:=bif Nat.ble 1 (lb s).length then some (bs (JN (lb s)))else none
theorem quX(s:ByteArray)(y:ByteArray)(hg:(d1 cS).good s)(h:qav s=some y):quU s=some y:=by
 clear hg;revert h;refine onB (P:=fun s=>qav s=some y→quU s=some y) (fun S h=>?_) s
 obtain⟨h1,h2⟩:=qi h;have:=soi h2;subst this
 have h1:1≤S.length:=zm h1
 clear h h2;have c2:qew ((bs S).extract 0 2,bs [32])=some (Lib.contains (S.take 2) [32]):=by
  unfold qew;simp only[jZ,jB,qe,KR,We];rw[zo (by rw[zM];omega)];rfl
 have one:(bif(true&&(decide (1≤(((bs S).size:Nat):Int))))then(bif(Lib.contains (lb (ByteArray.mk (List.toArray sg1))) (lb ((bs S).extract 0 1)))then(bif(true&&(decide (1≤(((bs S).size:Nat):Int))))then some ((bs S).extract 0 1)else none)else some (ByteArray.mk (List.toArray [])))else none)=some (bs (if Lib.contains sg1 (S.take 1)=true then S.take 1 else[])):=by
  rw[za (by rw[qe];omega)];simp only[z7,zf,qcO,jB,jZ,KR,We];cases Lib.contains sg1 (S.take 1) <;> rfl
 rw[jB];unfold quU qdl JN;by_cases hl:1<S.length
 · rw[bdT (by rw[qe];omega)]
   have e2:decide ((2:Int)≤(((bs S).size:Nat):Int))=true:=za (by rw[qe];omega)
   rw[e2];simp only[z7,zf];have c1:Lib.contains (lb (ByteArray.mk (List.toArray sg2))) (lb ((bs S).extract 0 2))=Lib.contains sg2 (S.take 2):=by
    rw[qcO,jB,jZ,jB,KR]
   have c1':=c1;unfold sg2 at c1';rw[c1'];cases hc:Lib.contains [61,61,32,33,61,32,60,61,32,62,61,32,38,38,32,124,124,32,46,46] (S.take 2)with
   | false=>
    rw[zp (fun h=>by have:=h.2.1;unfold sg2 at this;rw[hc]at this;cases this)];exact one
   | true=>
    rw[zf];refine obs c2 ?_
    cases hd:Lib.contains (S.take 2) [32]with
    | true=>
     rw[zp (fun h=>by cases h.2.2)];exact one
    | false=>
     rw[zr ⟨hl,by unfold sg2;exact hc,rfl⟩];rw[jZ];rfl
 · rw[bdF (by rw[qe];omega),zp (fun h=>hl h.1)]
   exact one
def yp(c:UInt8):Bool:=(Nat.ble 65 c.toNat&&Nat.ble c.toNat 90)||((Nat.ble 97 c.toNat&&Nat.ble c.toNat 122)||Nat.beq c.toNat 95)
def yS(c:UInt8):Bool:=yp c||isD c
def Yq(c:Int):Option Bool:=bif decide (0≤c)&&decide (c<256)then some (yp (UInt8.ofNat c.toNat))else none
theorem quY:(List.range 256).all (fun k=>qy1 ((k:Nat):Int) == some (yp (UInt8.ofNat k)))=true:=by decide +kernel
theorem quZ(c:Int)(y:Bool)(hg:(d1 (cI .u8)).good c)(h:Yq c=some y):qy1 c=some y:=by
 obtain⟨h1,h2⟩:=qi h;have:=soi h2;subst this
 simp only[zk,zD]at h1;obtain⟨k,rfl⟩:=zV h1.1;have:=zX.1 quY k (Wi.2 (by omega))
 rw[zg];exact eq_of_beq this
def qaw(c:UInt8):Bool:=c == 32||(c == 9||(c == 10||c == 13))
def sk:Bool→List UInt8→Nat
 | _,[]=>0
 | true,c::r=>if c=10 then 1+sk false r else 1+sk true r
 | false,c::r=>if qaw c=true then 1+sk false r else if c=47∧r.head?=some 47 then 1+sk true r else 0
theorem qiN:∀(b:Bool) (l:List UInt8),sk b l≤l.length
 | _,[]=>by unfold sk;exact zw 0
 | true,c::r=>by
  have h1:=qiN true r;have h2:=qiN false r;unfold sk;split <;> simp only[zy] <;> omega
 | false,c::r=>by
  have h1:=qiN true r;have h2:=qiN false r;unfold sk;split
  · simp only[zy];omega
  · split <;> simp only[zy] <;> omega
theorem qpZ:∀(l:List UInt8),sk true l=if yf 10 l<0 then l.length else(yf 10 l).toNat+sk false (l.drop (yf 10 l).toNat)
 | []=>rfl
 | c::r=>by
  by_cases h:c=10
  · subst h
    have e0:yf 10 (10::r)=0:=rfl
    rw[e0,zp (by decide)];show sk true (10::r)=0+sk false (10::r)
    rw[sk,zr rfl,sk,zr (by decide),zF]
  · have e:yf 10 (c::r)=if yf 10 r = -1 then -1 else yf 10 r+1:=by
     have hb:(c == 10)=false:=by simpa using h
     show(bif c == 10 then(0:Int)else bif decide (yf 10 r = -1)then -1 else yf 10 r+1)=_
     rw[hb,zj,qbb]
    have lo:=ZH 10 r
    have ih:=qpZ r;have es:sk true (c::r)=1+sk true r:=by rw[sk,zp h]
    rw[es,ih,e];by_cases h1:yf 10 r = -1
    · rw[zr h1,zr (by omega),zr (by omega),zy];omega
    · rw[zp h1,zp (by omega),zp (by omega)]
      obtain⟨k,hk⟩:=zV (show 0≤yf 10 r by omega)
      rw[hk];show _=(k+1)+sk false ((c::r).drop (k+1))
      rw[List.drop_succ_cons];show 1+(k+sk false (r.drop k))=_
      omega
def JE(p:ByteArray×Int):Option Int:=bif(decide (0≤p.2)&&decide (p.2≤((lb p.1).length:Int)))&&Nat.ble (lb p.1).length 1000000 then some ((p.2.toNat+sk false ((lb p.1).drop p.2.toNat):Nat):Int)else none
theorem qy3(c:UInt8):decide (0≤yf (UInt8.ofNat c.toNat) (lb (ByteArray.mk (List.toArray [32,9,10,13]))))=qaw c:=by
 rw[Vh,qcO,jB];have h:=qev c [32,9,10,13]
 by_cases hm:c∈([32,9,10,13]:List UInt8)
 · rw[za (h.2 hm)]
   unfold qaw;simp only[zN,Ko,or_false]at hm;rcases hm with rfl | rfl | rfl | rfl <;> rfl
 · rw[zi (fun e=>hm (h.1 e))]
   unfold qaw;simp only[zN,Ko,or_false,not_or]at hm;obtain⟨a,b,c',d⟩:=hm;simp[a,b,c',d]
def endV(r:Lp (ByteArray×Int×Unit) Int):Option Int:=match r with
 | .exit i3 p4=>(bif(Nat.beq i3 0)then some p4.2.1 else none)
 | .ret o5=>some o5
theorem qy4{α:Type}(b:Bool)(a:α):(bif b then a else a)=a:=by cases b <;> rfl
theorem qp0(c:UInt8)(r:List UInt8):(c::r).take 2=[47,47]↔c=47∧r.head?=some 47:=by
 cases r with
 | nil=>simp
 | cons d r=>simp
theorem qy5{S:List UInt8}(hS:S.length≤1000000):∀(d i:Nat),i≤S.length→S.length-i≤d→∃r,(∃n,itP n J6 (bs S,(i:Int),())=some r)∧endV r=some ((i+sk false (S.drop i):Nat):Int):=fun d=>by
 induction d using Nat.strongRecOn with
 | ind d ih=>
  intro i hi hd;by_cases hl:i=S.length
  · refine⟨.exit 0 (bs S,(i:Int),()),js ?_,?_⟩
    · unfold J6
      simp only[qe];rw[bdF (by omega)]
    · rw[VW (by omega)];rfl
  · obtain⟨c,hc⟩:∃c,S[i]?=some c:=⟨_,zl (by omega)⟩
    obtain⟨hlt,ec⟩:=zn.1 hc
    have eR:S.drop i=c::S.drop (i+1):=by rw[zG hlt,ec]
    have w:IntKind.i64.wrap ((i:Int)+1)=((i+1:Nat):Int):=by rw[w64 (by omega) (by omega)];omega
    have ext:(bs S).extract i S.length=bs (S.drop i):=by
     rw[jZ,zL (by rw[Kl];omega)]
    have rl:(S.drop i).length=S.length-i:=Kl
    have head:J6 (bs S,(i:Int),())=(bif qaw c then some (.inl (bs S,((i+1:Nat):Int),()))else
     (bif decide ((2:Int)≤(((S.drop i).length:Nat):Int))then(bif decide (((bs (S.drop i)).extract 0 2)=ByteArray.mk (List.toArray [47,47]))then
       (bif decide (yf 10 (S.drop i)<0)then some (.inr (.ret ((S.length:Nat):Int)))else some (.inl (bs S,IntKind.i64.wrap ((i:Int)+yf 10 (S.drop i)),())))else some (.inr (.ret (i:Int))))else some (.inr (.ret (i:Int))))):=by
     unfold J6;simp only[qe,zg,qW,hc,zd,w,qy3,ext,jB];rw[bdT (show(i:Int)<((S.length:Nat):Int) by omega),za (show(0:Int)≤(i:Int) by omega),za (show(i:Int)≤((S.length:Nat):Int) by omega),za (show((S.length:Nat):Int)≤((S.length:Nat):Int) by omega)];simp only[z7,zf];cases qaw c with
     | true=>rfl
     | false=>
      simp only[zj];by_cases h2:(2:Int)≤(((S.drop i).length:Nat):Int)
      · rw[za (show((2:Nat):Int)≤(((S.drop i).length:Nat):Int) from h2),za h2];rfl
      · rw[zi (show¬((2:Nat):Int)≤(((S.drop i).length:Nat):Int) from h2),zi h2];rfl
    cases hb:qaw c with
    | true=>
     obtain⟨r,h1,h2⟩:=ih (d-1) (by omega) (i+1) (by omega) (by omega)
     refine⟨r,jK (head.trans (by rw[hb];rfl)) h1,h2.trans ?_⟩
     rw[eR,sk,zr hb]
     congr 2;omega
    | false=>
     have hb' : ¬qaw c=true:=by rw[hb];decide
     by_cases hr:c=47∧(S.drop (i+1)).head?=some 47
     · have ht:(S.drop i).take 2=[47,47]:=by rw[eR];exact(qp0 _ _).2 hr
       have h2:(2:Int)≤(((S.drop i).length:Nat):Int):=by
        have:=congrArg List.length ht
        rw[zM]at this;simp only[zy,KF]at this;omega
       have es:sk false (S.drop i)=sk true (S.drop i):=by
        rw[eR];have e1:sk false (c::S.drop (i+1))=1+sk true (S.drop (i+1)):=by rw[sk,zp hb',zr hr]
        have e2:sk true (c::S.drop (i+1))=1+sk true (S.drop (i+1)):=by rw[sk,zp (by rw[hr.1];decide)]
        rw[e1,e2]
       have head2:J6 (bs S,(i:Int),())=(bif decide (yf 10 (S.drop i)<0)then some (.inr (.ret ((S.length:Nat):Int)))else some (.inl (bs S,IntKind.i64.wrap ((i:Int)+yf 10 (S.drop i)),()))):=by
        rw[head,hb,zj,bdT h2,bdT (show(bs (S.drop i)).extract 0 2=ByteArray.mk (List.toArray [47,47]) by rw[jZ,KR];exact congrArg bs ht)]
       have lo:=ZH 10 (S.drop i)
       have hk:=qpZ (S.drop i)
       by_cases hn:yf 10 (S.drop i)<0
       · refine⟨.ret ((S.length:Nat):Int),js (head2.trans (by rw[bdT hn])),?_⟩
         rw[zr hn]at hk;show some ((S.length:Nat):Int)=_
         rw[es,hk,rl]
         congr 2;omega
       · rw[zp hn]at hk
         obtain⟨n,en⟩:=zV (show 0≤yf 10 (S.drop i) by omega)
         rw[en]at hk head2 hn lo;have n0:n≠0:=fun e=>by
          subst e;rw[eR]at en;have e47:c=47:=hr.1
          subst e47;have:yf 10 (47::S.drop (i+1))=(bif decide (yf 10 (S.drop (i+1)) = -1)then -1 else yf 10 (S.drop (i+1))+1):=rfl
          rw[this,qbb]at en;have lo2:=ZH 10 (S.drop (i+1))
          split at en <;> omega
         have w2:IntKind.i64.wrap ((i:Int)+(n:Int))=((i+n:Nat):Int):=by rw[w64 (by omega) (by omega)];omega
         obtain⟨r,h1,h2⟩:=ih (d-n) (by omega) (i+n) (by omega) (by omega)
         refine⟨r,jK (head2.trans (by rw[bdF hn,w2])) h1,h2.trans ?_⟩
         rw[es,hk];show some ((i+n+sk false (S.drop (i+n)):Nat):Int)=some ((i+(n+sk false ((S.drop i).drop n)):Nat):Int)
         rw[List.drop_drop]
         congr 2;omega
     · have es:sk false (S.drop i)=0:=by rw[eR,sk,zp hb',zp hr]
       refine⟨.ret (i:Int),js (head.trans ?_),?_⟩
       · rw[hb,zj]
         have : ¬(bs (S.drop i)).extract 0 2=ByteArray.mk (List.toArray [47,47]):=fun e=>by
          rw[jZ,KR]at e;have:=qen.1 (e.trans (qcO [47,47]))
          rw[eR]at this;exact hr ((qp0 _ _).1 this)
         rw[bdF this];exact qy4 _ _
       · rw[es];rfl
theorem qp1(p:ByteArray×Int)(y:Int)(hg:(dc cS (d1 (cI .i64))).good p)(h:JE p=some y):∃n,qlB n p.1 p.2=some y:=by
 obtain⟨s,i⟩:=p;clear hg;revert h;refine onB (P:=fun s=>JE (s,i)=some y→∃n,qlB n s i=some y) (fun S h=>?_) s
 obtain⟨h1,h2⟩:=qi h;have:=soi h2;subst this
 simp only[jB,zk,zD]at h1;obtain⟨⟨a1,a2⟩,a3⟩:=h1;have a3:=zm a3;obtain⟨k,rfl⟩:=zV a1;have a2:((k:Nat):Int)≤((S.length:Nat):Int):=zW a2
 obtain⟨r,⟨n,hn⟩,hr⟩:=qy5 a3 _ k (by omega) (zw _)
 refine⟨n,?_⟩
 simp only[jB,zg];rw[← hr];unfold qlB;exact obs hn rfl
end
end Su
end
section
namespace Su
open Go Fly
noncomputable section
def jp:Stp (ByteArray×Int×Unit):=fun p0=>(bif(decide (p0.2.1<(ByteArray.size p0.1:Int)))then
 (bif(decide (0≤p0.2.1))then
 ((p0.1)[p0.2.1.toNat]?).bind fun x1=>
 (bif(decide (48≤(UInt8.toNat x1:Int)))then
 (bif(decide ((UInt8.toNat x1:Int)≤57))then
 some (.inl (p0.1,(IntKind.wrap .i64 (p0.2.1+1)),()))
 else
  some (.inr (p0.1,p0.2.1,())))
 else
  some (.inr (p0.1,p0.2.1,())))
 else none)
 else
  some (.inr (p0.1,p0.2.1,())))
def qp2  (fu:Nat)(s:ByteArray)(i:Int):Option (Int×Bool) :=
 (itP fu (jp) (s,i,())).bind fun x2=>
 (bif(((decide (0≤x2.2.1))&&(decide (x2.2.1≤(ByteArray.size s:Int))))&&(decide ((ByteArray.size s:Int)≤(ByteArray.size s:Int))))then
 (bif(List.isPrefixOf (lb (ByteArray.mk (List.toArray [46]))) (lb (ByteArray.extract s x2.2.1.toNat (Int.toNat (ByteArray.size s:Int)))))then
 (jT (s,(IntKind.wrap .i64 (x2.2.1+1)))).bind fun x3=>
 (bif x3 then
 (itP fu (jp) (s,(IntKind.wrap .i64 (x2.2.1+1)),())).bind fun x6=>
 (bif(decide (x6.2.1<(ByteArray.size s:Int)))then
 (bif(decide (0≤x6.2.1))then
 ((s)[x6.2.1.toNat]?).bind fun x7=>
 (bif(decide ((Fly.qB Go.BinOp.or .u8 (UInt8.toNat x7:Int) 32)=101))then
 (bif(decide ((IntKind.wrap .i64 (x6.2.1+1))<(ByteArray.size s:Int)))then
 (bif(decide (0≤(IntKind.wrap .i64 (x6.2.1+1))))then
 ((s)[(Int.toNat (IntKind.wrap .i64 (x6.2.1+1)))]?).bind fun x8=>
 (bif(decide ((UInt8.toNat x8:Int)=43))then
 (jT (s,(IntKind.wrap .i64 ((IntKind.wrap .i64 (x6.2.1+1))+1)))).bind fun x9=>
 (bif x9 then
 (itP fu (jp) (s,(IntKind.wrap .i64 ((IntKind.wrap .i64 (x6.2.1+1))+1)),())).bind fun x12=>
 some (x12.2.1,true)
 else
  some (x6.2.1,true))
 else
  (bif(decide (0≤(IntKind.wrap .i64 (x6.2.1+1))))then
  ((s)[(Int.toNat (IntKind.wrap .i64 (x6.2.1+1)))]?).bind fun x13=>
  (bif(decide ((UInt8.toNat x13:Int)=45))then
  (jT (s,(IntKind.wrap .i64 ((IntKind.wrap .i64 (x6.2.1+1))+1)))).bind fun x14=>
  (bif x14 then
  (itP fu (jp) (s,(IntKind.wrap .i64 ((IntKind.wrap .i64 (x6.2.1+1))+1)),())).bind fun x17=>
  some (x17.2.1,true)
 else
  some (x6.2.1,true))
 else
  (jT (s,(IntKind.wrap .i64 (x6.2.1+1)))).bind fun x18=>
  (bif x18 then
  (itP fu (jp) (s,(IntKind.wrap .i64 (x6.2.1+1)),())).bind fun x21=>
  some (x21.2.1,true)
 else
  some (x6.2.1,true)))
 else none))
 else none)
 else
  (jT (s,(IntKind.wrap .i64 (x6.2.1+1)))).bind fun x22=>
  (bif x22 then
  (itP fu (jp) (s,(IntKind.wrap .i64 (x6.2.1+1)),())).bind fun x25=>
  some (x25.2.1,true)
 else
  some (x6.2.1,true)))
 else
  some (x6.2.1,true))
 else none)
 else
  some (x6.2.1,true))
 else
  (bif(decide (x2.2.1<(ByteArray.size s:Int)))then
  (bif(decide (0≤x2.2.1))then
  ((s)[x2.2.1.toNat]?).bind fun x26=>
  (bif(decide ((Fly.qB Go.BinOp.or .u8 (UInt8.toNat x26:Int) 32)=101))then
  (bif(decide ((IntKind.wrap .i64 (x2.2.1+1))<(ByteArray.size s:Int)))then
  (bif(decide (0≤(IntKind.wrap .i64 (x2.2.1+1))))then
  ((s)[(Int.toNat (IntKind.wrap .i64 (x2.2.1+1)))]?).bind fun x27=>
  (bif(decide ((UInt8.toNat x27:Int)=43))then
  (jT (s,(IntKind.wrap .i64 ((IntKind.wrap .i64 (x2.2.1+1))+1)))).bind fun x28=>
  (bif x28 then
  (itP fu (jp) (s,(IntKind.wrap .i64 ((IntKind.wrap .i64 (x2.2.1+1))+1)),())).bind fun x31=>
  some (x31.2.1,true)
 else
  some (x2.2.1,false))
 else
  (bif(decide (0≤(IntKind.wrap .i64 (x2.2.1+1))))then
  ((s)[(Int.toNat (IntKind.wrap .i64 (x2.2.1+1)))]?).bind fun x32=>
  (bif(decide ((UInt8.toNat x32:Int)=45))then
  (jT (s,(IntKind.wrap .i64 ((IntKind.wrap .i64 (x2.2.1+1))+1)))).bind fun x33=>
  (bif x33 then
  (itP fu (jp) (s,(IntKind.wrap .i64 ((IntKind.wrap .i64 (x2.2.1+1))+1)),())).bind fun x36=>
  some (x36.2.1,true)
 else
  some (x2.2.1,false))
 else
  (jT (s,(IntKind.wrap .i64 (x2.2.1+1)))).bind fun x37=>
  (bif x37 then
  (itP fu (jp) (s,(IntKind.wrap .i64 (x2.2.1+1)),())).bind fun x40=>
  some (x40.2.1,true)
 else
  some (x2.2.1,false)))
 else none))
 else none)
 else
  (jT (s,(IntKind.wrap .i64 (x2.2.1+1)))).bind fun x41=>
  (bif x41 then
  (itP fu (jp) (s,(IntKind.wrap .i64 (x2.2.1+1)),())).bind fun x44=>
  some (x44.2.1,true)
 else
  some (x2.2.1,false)))
 else
  some (x2.2.1,false))
 else none)
 else
  some (x2.2.1,false)))
 else
  (bif(decide (x2.2.1<(ByteArray.size s:Int)))then
  (bif(decide (0≤x2.2.1))then
  ((s)[x2.2.1.toNat]?).bind fun x45=>
  (bif(decide ((Fly.qB Go.BinOp.or .u8 (UInt8.toNat x45:Int) 32)=101))then
  (bif(decide ((IntKind.wrap .i64 (x2.2.1+1))<(ByteArray.size s:Int)))then
  (bif(decide (0≤(IntKind.wrap .i64 (x2.2.1+1))))then
  ((s)[(Int.toNat (IntKind.wrap .i64 (x2.2.1+1)))]?).bind fun x46=>
  (bif(decide ((UInt8.toNat x46:Int)=43))then
  (jT (s,(IntKind.wrap .i64 ((IntKind.wrap .i64 (x2.2.1+1))+1)))).bind fun x47=>
  (bif x47 then
  (itP fu (jp) (s,(IntKind.wrap .i64 ((IntKind.wrap .i64 (x2.2.1+1))+1)),())).bind fun x50=>
  some (x50.2.1,true)
 else
  some (x2.2.1,false))
 else
  (bif(decide (0≤(IntKind.wrap .i64 (x2.2.1+1))))then
  ((s)[(Int.toNat (IntKind.wrap .i64 (x2.2.1+1)))]?).bind fun x51=>
  (bif(decide ((UInt8.toNat x51:Int)=45))then
  (jT (s,(IntKind.wrap .i64 ((IntKind.wrap .i64 (x2.2.1+1))+1)))).bind fun x52=>
  (bif x52 then
  (itP fu (jp) (s,(IntKind.wrap .i64 ((IntKind.wrap .i64 (x2.2.1+1))+1)),())).bind fun x55=>
  some (x55.2.1,true)
 else
  some (x2.2.1,false))
 else
  (jT (s,(IntKind.wrap .i64 (x2.2.1+1)))).bind fun x56=>
  (bif x56 then
  (itP fu (jp) (s,(IntKind.wrap .i64 (x2.2.1+1)),())).bind fun x59=>
  some (x59.2.1,true)
 else
  some (x2.2.1,false)))
 else none))
 else none)
 else
  (jT (s,(IntKind.wrap .i64 (x2.2.1+1)))).bind fun x60=>
  (bif x60 then
  (itP fu (jp) (s,(IntKind.wrap .i64 (x2.2.1+1)),())).bind fun x63=>
  some (x63.2.1,true)
 else
  some (x2.2.1,false)))
 else
  some (x2.2.1,false))
 else none)
 else
  some (x2.2.1,false)))
 else none)
theorem qy6{S:List UInt8}(hS:S.length≤1000000):∀(d i:Nat),i+d=S.length→je (d+1) jp (bs S,(i:Int),()) (bs S,((rn S i:Nat):Int),()):=fun d=>by
 induction d with
 | zero=>
  intro i hi;have e:rn S i=i:=by unfold rn;rw[Js fun c h=>by rw[zA (by omega)]at h;cases h];rfl
  rw[e];refine je.stop ?_
  unfold jp;simp only[qe];rw[zi (by omega)];rfl
 | succ d ih=>
  intro i hi;obtain⟨c,hc⟩:∃c,S[i]?=some c:=⟨_,zl (by omega)⟩
  have w:IntKind.i64.wrap ((i:Int)+1)=((i+1:Nat):Int):=by rw[w64 (by omega) (by omega)];omega
  cases hd:isD c with
  | true=>
   have e:rn S i=rn S (i+1):=by unfold rn;rw[J5 hc hd,zy];omega
   have hcc:=jP.1 hd;rw[e];refine je.next ?_ (ih (i+1) (by omega))
   unfold jp;simp only[qe,zg,qW,hc,zd,w];rw[za (by omega),za (by omega),za (by omega),za (by omega)];rfl
  | false=>
   have e:rn S i=i:=by unfold rn;rw[Js fun c' h=>by rw[hc]at h;cases h;exact hd];rfl
   have hcc : ¬(48≤c.toNat∧c.toNat≤57):=fun h=>by rw[jP.2 h]at hd;cases hd
   rw[e];refine(je.stop (K:=d+1) ?_)
   unfold jp;simp only[qe,zg,qW,hc,zd];rw[za (by omega),za (by omega)];by_cases h1:48≤c.toNat
   · rw[za (show(48:Int)≤((c.toNat:Nat):Int) by omega),zi (show¬((c.toNat:Nat):Int)≤57 by omega)];rfl
   · rw[zi (show¬(48:Int)≤((c.toNat:Nat):Int) by omega)];rfl
def exK(S:List UInt8)(j:Nat):Nat:=if S[j+1]?=some 43∨S[j+1]?=some 45 then j+2 else j+1
def numE(S:List UInt8)(j:Nat)(fl:Bool):Nat×Bool :=
 if(S[j]?=some 101∨S[j]?=some 69)∧QP S (exK S j)=true then(rn S (exK S j),true)else(j,fl)
def yq(S:List UInt8)(i:Nat):Nat×Bool :=
 if S[rn S i]?=some 46∧QP S (rn S i+1)=true then numE S (rn S (rn S i+1)) true else numE S (rn S i) false
theorem qy7:(List.range 256).all (fun k=>decide (Fly.qB Go.BinOp.or .u8 ((k:Nat):Int) 32=101) == (Nat.beq k 101||Nat.beq k 69))=true:=by decide +kernel
theorem qxf{a b:Nat}(h:a≠b):Nat.beq a b=false:=by cases hb:Nat.beq a b with | false=>rfl | true=>exact absurd (zh hb) h
theorem or_e(c:UInt8):decide (Fly.qB Go.BinOp.or .u8 ((c.toNat:Nat):Int) 32=101)=decide (c=101∨c=69):=by
 have hlt:=c.toNat_lt;have h:=eq_of_beq (zX.1 qy7 c.toNat (Wi.2 (by omega)))
 rw[h];by_cases h1:c=101
 · subst h1;rfl
 · by_cases h2:c=69
   · subst h2;rfl
   · rw[zi (by rintro(h | h);exact h1 h;exact h2 h),qxf (show c.toNat≠101 from fun e=>h1 (KJ.1 e)),qxf (show c.toNat≠69 from fun e=>h2 (KJ.1 e))];rfl
def qiO(fu:Nat)(s:ByteArray)(j:Int)(fl:Bool):Option (Int×Bool) :=
 (bif(decide (j<(ByteArray.size s:Int)))then
 (bif(decide (0≤j))then
 ((s)[j.toNat]?).bind fun x26=>
 (bif(decide ((Fly.qB Go.BinOp.or .u8 (UInt8.toNat x26:Int) 32)=101))then
 (bif(decide ((IntKind.wrap .i64 (j+1))<(ByteArray.size s:Int)))then
 (bif(decide (0≤(IntKind.wrap .i64 (j+1))))then
 ((s)[(Int.toNat (IntKind.wrap .i64 (j+1)))]?).bind fun x27=>
 (bif(decide ((UInt8.toNat x27:Int)=43))then
 (jT (s,(IntKind.wrap .i64 ((IntKind.wrap .i64 (j+1))+1)))).bind fun x28=>
 (bif x28 then
 (itP fu (jp) (s,(IntKind.wrap .i64 ((IntKind.wrap .i64 (j+1))+1)),())).bind fun x31=>
 some (x31.2.1,true)
 else
  some (j,fl))
 else
  (bif(decide (0≤(IntKind.wrap .i64 (j+1))))then
  ((s)[(Int.toNat (IntKind.wrap .i64 (j+1)))]?).bind fun x32=>
  (bif(decide ((UInt8.toNat x32:Int)=45))then
  (jT (s,(IntKind.wrap .i64 ((IntKind.wrap .i64 (j+1))+1)))).bind fun x33=>
  (bif x33 then
  (itP fu (jp) (s,(IntKind.wrap .i64 ((IntKind.wrap .i64 (j+1))+1)),())).bind fun x36=>
  some (x36.2.1,true)
 else
  some (j,fl))
 else
  (jT (s,(IntKind.wrap .i64 (j+1)))).bind fun x37=>
  (bif x37 then
  (itP fu (jp) (s,(IntKind.wrap .i64 (j+1)),())).bind fun x40=>
  some (x40.2.1,true)
 else
  some (j,fl)))
 else none))
 else none)
 else
  (jT (s,(IntKind.wrap .i64 (j+1)))).bind fun x41=>
  (bif x41 then
  (itP fu (jp) (s,(IntKind.wrap .i64 (j+1)),())).bind fun x44=>
  some (x44.2.1,true)
 else
  some (j,fl)))
 else
  some (j,fl))
 else none)
 else
  some (j,fl))
theorem qxg(S:List UInt8)(k:Nat):jT (bs S,((k:Nat):Int))=some (QP S k):=by
 unfold jT;show(bif decide ((0:Int)≤((k:Nat):Int))then _ else _)=_
 rw[za (by omega)];rfl
theorem JF{S:List UInt8}{k:Nat}(h:QP S k=true):k<S.length:=by
 unfold QP at h;cases hc:S[k]? with
 | none=>rw[hc]at h;cases h
 | some c=>exact qpS hc
theorem qj8{S:List UInt8}(hS:S.length≤1000000){j:Nat}(hj:j≤S.length)(fl:Bool):qiO 2000000 (bs S) (j:Int) fl=some (((numE S j fl).1:Int),(numE S j fl).2):=by
 have w1:IntKind.i64.wrap ((j:Int)+1)=((j+1:Nat):Int):=by rw[w64 (by omega) (by omega)];omega
 have w2:IntKind.i64.wrap (((j+1:Nat):Int)+1)=((j+2:Nat):Int):=by rw[w64 (by omega) (by omega)];omega
 have fin:∀k:Nat,exK S j=k→(S[j]?=some 101∨S[j]?=some 69)→((jT (bs S,((k:Nat):Int))).bind fun x=>(bif x then(itP 2000000 jp (bs S,((k:Nat):Int),())).bind fun y=>some (y.2.1,true)else some ((j:Int),fl)))=some (((numE S j fl).1:Int),(numE S j fl).2):=fun k hk he=>by
  refine obs (qxg S k) ?_
  unfold numE;rw[hk];cases hd:QP S k with
  | false=>rw[zp (fun h=>by cases h.2)];rfl
  | true=>
   rw[zr ⟨he,rfl⟩];have hl:=JF hd;have hr:=qy6 hS (S.length-k) k (by omega)
   exact obs (hr 2000000 (by omega)) rfl
 have no : ¬(S[j]?=some 101∨S[j]?=some 69)→numE S j fl=(j,fl):=fun h=>by unfold numE;rw[zp (fun e=>h e.1)]
 unfold qiO;simp only[w1,w2,qe,zg,qW];by_cases hl:j<S.length
 · obtain⟨c,hc⟩:∃c,S[j]?=some c:=⟨_,zl hl⟩
   rw[bdT (by omega),bdT (by omega),hc,zd,or_e];by_cases he:c=101∨c=69
   · rw[bdT he]
     have he':S[j]?=some 101∨S[j]?=some 69:=by rw[hc];rcases he with rfl | rfl;exact .inl rfl;exact .inr rfl
     by_cases hl2:j+1<S.length
     · obtain⟨d,hd⟩:∃d,S[j+1]?=some d:=⟨_,zl hl2⟩
       rw[bdT (by omega),bdT (by omega),hd,zd];by_cases h43:d=43
       · subst h43
         rw[bdT (by rfl)];exact fin (j+2) (by unfold exK;rw[hd,zr (.inl rfl)]) he'
       · rw[bdF (fun e=>h43 (KJ.1 (show d.toNat=43 by omega))),bdT (by omega),zd]
         by_cases h45:d=45
         · subst h45
           rw[bdT (by rfl)];exact fin (j+2) (by unfold exK;rw[hd,zr (.inr rfl)]) he'
         · rw[bdF (fun e=>h45 (KJ.1 (show d.toNat=45 by omega)))]
           refine fin (j+1) ?_ he'
           unfold exK;rw[hd,zp (by rintro(h | h);exact h43 (Ke h);exact h45 (Ke h))]
     · rw[bdF (by omega)]
       refine fin (j+1) ?_ he'
       unfold exK;rw[zA (show S.length≤j+1 by omega),zp (by rintro(h | h) <;> cases h)]
   · rw[bdF he,no (by rw[hc];rintro(h | h);exact he (.inl (Ke h));exact he (.inr (Ke h)))]
 · rw[bdF (by omega),no (by rw[zA (show S.length≤j by omega)];rintro(h | h) <;> cases h)]
def qce(p:ByteArray×Int):Option (Int×Bool):=bif(decide (0≤p.2)&&decide (p.2≤((lb p.1).length:Int)))&&Nat.ble (lb p.1).length 1000000 then some (((yq (lb p.1) p.2.toNat).1:Int),(yq (lb p.1) p.2.toNat).2)else none
theorem qBE(S:List UInt8)(a:Nat):List.isPrefixOf [46] (S.drop a)=decide (S[a]?=some 46):=by
 by_cases h:a<S.length
 · rw[zG h,zl h]
   show((46:UInt8) == S[a]&&List.isPrefixOf [] (S.drop (a+1)))=_
   by_cases e:S[a]=46
   · rw[e];rfl
   · have hb:((46:UInt8) == S[a])=false:=by simpa using fun e'=>e e'.symm
     rw[hb,zi (fun h=>e (Ke h))];rfl
 · rw[VW (by omega),zA (by omega)];rfl
theorem qu0(p:ByteArray×Int)(y:Int×Bool)(hg:(dc cS (d1 (cI .i64))).good p)(h:qce p=some y):∃n,qp2 n p.1 p.2=some y:=by
 obtain⟨s,i⟩:=p;clear hg;refine⟨2000000,?_⟩
 revert h;refine onB (P:=fun s=>qce (s,i)=some y→qp2 2000000 s i=some y) (fun S h=>?_) s
 obtain⟨h1,h2⟩:=qi h;have:=soi h2;subst this
 simp only[zk]at h1;obtain⟨⟨a1,a2⟩,a3⟩:=h1;have a3:S.length≤1000000:=zm a3
 have a1:=zW a1;obtain⟨k,rfl⟩:=zV a1;have a2:((k:Nat):Int)≤((S.length:Nat):Int):=zW a2
 clear h h2 a1;show qp2 2000000 (bs S) ((k:Nat):Int)=some (((yq S k).1:Int),(yq S k).2)
 have hr:=QO (S:=S) (i:=k) (by omega)
 have ge:=qbn S k;have e:qp2 2000000 (bs S) ((k:Nat):Int)=((itP 2000000 jp (bs S,((k:Nat):Int),())).bind fun x2=>
  (bif(((decide (0≤x2.2.1))&&(decide (x2.2.1≤((bs S).size:Int))))&&(decide (((bs S).size:Int)≤((bs S).size:Int))))then
    (bif(List.isPrefixOf (lb (ByteArray.mk (List.toArray [46]))) (lb ((bs S).extract x2.2.1.toNat (Int.toNat ((bs S).size:Int)))))then
      ((jT (bs S,IntKind.i64.wrap (x2.2.1+1))).bind fun x3=>(bif x3 then(itP 2000000 jp (bs S,IntKind.i64.wrap (x2.2.1+1),())).bind (fun x6=>qiO 2000000 (bs S) x6.2.1 true)else qiO 2000000 (bs S) x2.2.1 false))
      else qiO 2000000 (bs S) x2.2.1 false)else none)):=rfl
 rw[e];refine obs (qy6 a3 (S.length-k) k (by omega) 2000000 (by omega)) ?_
 have w1:IntKind.i64.wrap (((rn S k:Nat):Int)+1)=((rn S k+1:Nat):Int):=by rw[w64 (by omega) (by omega)];omega
 have ext:(bs S).extract (rn S k) S.length=bs (S.drop (rn S k)):=by
  rw[jZ,zL (by rw[Kl];omega)]
 simp only[qe,zg,w1,ext,qcO,jB,qBE];rw[za (show(0:Int)≤((rn S k:Nat):Int) by omega),za (show((rn S k:Nat):Int)≤((S.length:Nat):Int) by omega),za (show((S.length:Nat):Int)≤((S.length:Nat):Int) by omega)];simp only[z7,zf];unfold yq;by_cases h46:S[rn S k]?=some 46
 · rw[bdT h46]
   refine obs (qxg S _) ?_
   cases hd:QP S (rn S k+1)with
   | false=>
    rw[zp (fun h=>by cases h.2)];exact qj8 a3 hr false
   | true=>
    rw[zr ⟨h46,rfl⟩];have hl:=JF hd;have hr2:=QO (S:=S) (i:=rn S k+1) (by omega)
    exact obs (qy6 a3 (S.length-(rn S k+1)) (rn S k+1) (by omega) 2000000 (by omega)) (qj8 a3 hr2 true)
 · rw[bdF h46,zp (fun h=>h46 h.1)]
   exact qj8 a3 hr false
end
end Su
end
section
namespace Su
open Go Fly
noncomputable section
def qu1:Stp (ByteArray×Int×Unit):=fun p2=>(bif(decide (p2.2.1<(ByteArray.size p2.1:Int)))then
 (bif(decide (0≤p2.2.1))then
 ((p2.1)[p2.2.1.toNat]?).bind fun x3=>
 (Yq (UInt8.toNat x3:Int)).bind fun x4=>
 (bif x4 then
 some (.inl (p2.1,(IntKind.wrap .i64 (p2.2.1+1)),()))
 else
  (bif(decide (48≤(UInt8.toNat x3:Int)))then
  (bif(decide ((UInt8.toNat x3:Int)≤57))then
  some (.inl (p2.1,(IntKind.wrap .i64 (p2.2.1+1)),()))
 else
  some (.inr (p2.1,p2.2.1,())))
 else
  some (.inr (p2.1,p2.2.1,()))))
 else none)
 else
  some (.inr (p2.1,p2.2.1,())))
def qhh(s:ByteArray)(i:Int) :=
 bif(((decide (0≤i))&&(decide (i≤(ByteArray.size s:Int))))&&(decide ((ByteArray.size s:Int)≤(ByteArray.size s:Int))))then
 (qav (ByteArray.extract s i.toNat (Int.toNat (ByteArray.size s:Int)))).bind fun x8=>
 (bif(decide (x8=(ByteArray.mk (List.toArray []))))then
 some (((5:Int),i,x8,(0:Int),(0:Int)),i,(90:Int))
 else
  some (((5:Int),i,x8,(0:Int),(0:Int)),(IntKind.wrap .i64 (i+(ByteArray.size x8:Int))),(0:Int)))
 else
  none
def qp3  (fu:Nat)(s:ByteArray)(i:Int):Option ((Int×Int×ByteArray×Int×Int)×Int×Int) :=
 (bif(decide (0≤i))then
 ((s)[i.toNat]?).bind fun x0=>
 (Yq (UInt8.toNat x0:Int)).bind fun x1=>
 (bif x1 then
 (itP fu (qu1) (s,i,())).bind fun x5=>
 none
 else
  (bif(decide (48≤(UInt8.toNat x0:Int)))then
  (bif(decide ((UInt8.toNat x0:Int)≤57))then
  (qce (s,i)).bind fun x6=>
  (bif(((decide (0≤i))&&(decide (i≤x6.1)))&&(decide (x6.1≤(ByteArray.size s:Int))))then
  (qcd (((0:Int),i,(ByteArray.empty),(0:Int),(0:Int)),(ByteArray.extract s i.toNat x6.1.toNat),x6.2)).bind fun x7=>
  some (x7.1,x6.1,x7.2)
 else none)
 else
  (qhh s i))
 else
  (qhh s i)))
 else none)
def qbo:Stp (ByteArray×Int×Unit):=fun p0=>(bif(decide (p0.2.1<(ByteArray.size p0.1:Int)))then
 (bif(decide (0≤p0.2.1))then
 ((p0.1)[p0.2.1.toNat]?).bind fun x1=>
 (Yq (UInt8.toNat x1:Int)).bind fun x2=>
 (bif x2 then
 some (.inl (p0.1,(IntKind.wrap .i64 (p0.2.1+1)),()))
 else
  (bif(decide (48≤(UInt8.toNat x1:Int)))then
  (bif(decide ((UInt8.toNat x1:Int)≤57))then
  some (.inl (p0.1,(IntKind.wrap .i64 (p0.2.1+1)),()))
 else
  some (.inr (p0.1,p0.2.1,())))
 else
  some (.inr (p0.1,p0.2.1,()))))
 else none)
 else
  some (.inr (p0.1,p0.2.1,())))
def qu2  (fu:Nat)(s:ByteArray)(i:Int)(u:Unit):Option Int :=
 (itP fu (qbo) (s,i,())).bind fun x3=>
 some x3.2.1
def spI(S:List UInt8)(i:Nat):Nat:=i+((S.drop i).takeWhile yS).length
theorem qhi{S:List UInt8}{i:Nat}{c:UInt8}(h:S[i]?=some c)(hc:yS c=true):spI S i=spI S (i+1):=by
 obtain⟨hi,e⟩:=zn.1 h
 unfold spI;rw[zG hi,e,VI,hc];simp only[WH,zy];omega
theorem qj9{S:List UInt8}{i:Nat}(h:∀c,S[i]?=some c→yS c=false):spI S i=i:=by
 unfold spI;by_cases hi:i<S.length
 · rw[zG hi,VI,h _ (zl hi)];rfl
 · rw[VW (by omega)];rfl
theorem qax{S:List UInt8}{i:Nat}(h:i≤S.length):spI S i≤S.length:=by
 have:((S.drop i).takeWhile yS).length≤(S.drop i).length:=List.Sublist.length_le (List.takeWhile_sublist _)
 rw[Kl]at this;unfold spI;omega
theorem qlC(c:UInt8):Yq ((c.toNat:Nat):Int)=some (yp c):=by
 have:=c.toNat_lt
 unfold Yq;rw[za (by omega),za (by omega),zg,Vh];rfl
theorem sRun{S:List UInt8}(hS:S.length≤1000000):∀(d i:Nat),i+d=S.length→je (d+1) qbo (bs S,(i:Int),()) (bs S,((spI S i:Nat):Int),()):=fun d=>by
 induction d with
 | zero=>
  intro i hi;rw[qj9 fun c h=>by rw[zA (by omega)]at h;cases h];refine je.stop ?_
  unfold qbo;simp only[qe];rw[zi (by omega)];rfl
 | succ d ih=>
  intro i hi;obtain⟨c,hc⟩:∃c,S[i]?=some c:=⟨_,zl (by omega)⟩
  have w:IntKind.i64.wrap ((i:Int)+1)=((i+1:Nat):Int):=by rw[w64 (by omega) (by omega)];omega
  have head:qbo (bs S,(i:Int),())=bif yS c then some (.inl (bs S,((i+1:Nat):Int),()))else some (.inr (bs S,(i:Int),())):=by
   unfold qbo;simp only[qe,zg,qW,hc,zd,w,qlC];rw[bdT (by omega),bdT (by omega)];unfold yS isD;cases yp c with
   | true=>rfl
   | false=>
    rw[zj,VP];by_cases h1:48≤c.toNat
    · rw[bdT (by omega),zo h1,z7]
      by_cases h2:c.toNat≤57
      · rw[bdT (by omega),zo h2];rfl
      · rw[bdF (by omega)]
        cases h:Nat.ble c.toNat 57 with
        | false=>rfl
        | true=>exact absurd (zm h) h2
    · rw[bdF (by omega)]
      cases h:Nat.ble 48 c.toNat with
      | false=>rfl
      | true=>exact absurd (zm h) h1
  cases hd:yS c with
  | true=>
   rw[qhi hc hd];exact je.next (head.trans (by rw[hd];rfl)) (ih (i+1) (by omega))
  | false=>
   rw[qj9 fun c' h=>by rw[hc]at h;cases h;exact hd];exact je.stop (K:=d+1) (head.trans (by rw[hd];rfl))
def qhj(p:ByteArray×Int×Unit):Option Int:=bif(decide (0≤p.2.1)&&decide (p.2.1≤((lb p.1).length:Int)))&&Nat.ble (lb p.1).length 1000000 then some ((spI (lb p.1) p.2.1.toNat:Nat):Int)else none
theorem qu3(p:ByteArray×Int×Unit)(y:Int)(hg:(dc cS (dc (cI .i64) (d1 (cF 76)))).good p)(h:qhj p=some y):∃n,qu2 n p.1 p.2.1 p.2.2=some y:=by
 obtain⟨s,i,u⟩:=p;clear hg;refine⟨2000000,?_⟩
 revert h;refine onB (P:=fun s=>qhj (s,i,u)=some y→qu2 2000000 s i u=some y) (fun S h=>?_) s
 obtain⟨h1,h2⟩:=qi h;have:=soi h2;subst this
 simp only[zk]at h1;obtain⟨⟨a1,a2⟩,a3⟩:=h1;have a3:S.length≤1000000:=zm a3
 have a1:=zW a1;obtain⟨k,rfl⟩:=zV a1;have a2:((k:Nat):Int)≤((S.length:Nat):Int):=zW a2
 unfold qu2;exact obs (sRun a3 (S.length-k) k (by omega) 2000000 (by omega)) rfl
noncomputable def qka(t:Tk)(l:List UInt8)(fl:Bool):Tk×Int :=
 if 400<l.length then(t,91)else
 if fl=true then(if(Qn l).2=0 then((3,t.2.1,t.2.2.1,t.2.2.2.1,(Qn l).1),0)else(t,93))else
 if 2147483647<dv l then(t,92)else((2,t.2.1,t.2.2.1,((dv l:Nat):Int),t.2.2.2.2),0)
theorem qBF{t:Tk}{l:List UInt8}{fl:Bool}(h:fl=true∨l≠[]∧∀c∈l,isD c=true):qcd (t,bs l,fl)=some (qka t l fl):=by
 unfold qcd qka;simp only[qe,jB];have blt:∀a b:Nat,Nat.blt a b=decide (a<b):=fun a b=>by
  by_cases h:a<b
  · rw[za h,Vk];exact h
  · rw[zi h]
    cases hb:Nat.blt a b with
    | false=>rfl
    | true=>rw[Vk]at hb;exact absurd hb h
 rw[blt,blt,qbb];by_cases h1:400<l.length
 · rw[zr h1,zr h1]
 · rw[zp h1,zp h1]
   cases fl with
   | true=>
    rw[zf,zr rfl];by_cases h2:(Qn l).2=0
    · rw[zr h2];exact bdT h2 _ _
    · rw[zp h2];exact bdF h2 _ _
   | false=>
    obtain⟨n0,hd⟩:=h.resolve_left (by decide)
    have e0:l.isEmpty=false:=by cases l with | nil=>exact absurd rfl n0 | cons c r=>rfl
    rw[zj,e0,zX.2 hd,zp (by decide),qbb];show(if 2147483647<dv l then _ else _)=_
    by_cases h2:2147483647<dv l
    · rw[zr h2,zr h2]
    · rw[zp h2,zp h2]
noncomputable def jV(S:List UInt8)(i:Nat):Tk×(Int×Int) :=
 if(S[i]?).any yp=true then
  ((bif Jt ((S.drop i).take (spI S i-i))then 4 else 1,(i:Int),bs ((S.drop i).take (spI S i-i)),0,0),((spI S i:Nat):Int),if 32<spI S i-i then 91 else 0)
 else if(S[i]?).any isD=true then
  ((qka (0,(i:Int),bs [],0,0) ((S.drop i).take ((yq S i).1-i)) (yq S i).2).1,(((yq S i).1:Nat):Int),(qka (0,(i:Int),bs [],0,0) ((S.drop i).take ((yq S i).1-i)) (yq S i).2).2)
 else if JN (S.drop i)=[]then((5,(i:Int),bs [],0,0),(i:Int),90)
 else((5,(i:Int),bs (JN (S.drop i)),0,0),((i+(JN (S.drop i)).length:Nat):Int),0)
noncomputable def QU(p:ByteArray×Int):Option (Tk×Int×Int):=bif(decide (0≤p.2)&&decide (p.2<((lb p.1).length:Int)))&&Nat.ble (lb p.1).length 1000000 then some (jV (lb p.1) p.2.toNat)else none
noncomputable def qhk(p:ByteArray×Int):Option (Tk×Int×Int):=bif((lb p.1)[p.2.toNat]?).any yp then none else QU p
theorem ZL(S:List UInt8)(j:Nat)(fl:Bool):j≤(numE S j fl).1∧(fl=true→(numE S j fl).2=true)∧((numE S j fl).2=false→(numE S j fl).1=j):=by
 unfold numE;split
 · have:=qbn S (exK S j)
   unfold exK at *
   refine⟨?_,fun _=>rfl,fun h=>by cases h⟩
   show j≤rn S _
   split at this <;> (simp only[*,WH,WB]at *;omega)
 · exact⟨zw _,fun h=>h,fun _=>rfl⟩
theorem qiP{S:List UInt8}{i:Nat}(h:(yq S i).2=false):(yq S i).1=rn S i:=by
 unfold yq at h ⊢
 split
 · rename_i hc
   rw[zr hc]at h;rw[(ZL S _ true).2.1 rfl]at h;cases h
 · rename_i hc
   rw[zp hc]at h;exact(ZL S _ false).2.2 h
theorem qlD{S:List UInt8}{j:Nat}{fl:Bool}(hj:j≤S.length):(numE S j fl).1≤S.length:=by
 unfold numE;split
 · rename_i h
   exact QO (Vm (JF h.2))
 · exact hj
theorem qkb{S:List UInt8}{i:Nat}(hi:i≤S.length):i≤(yq S i).1∧(yq S i).1≤S.length:=by
 have h1:=qbn S i;have h2:=QO hi;unfold yq;split
 · rename_i h
   have h3:=JF h.2;have h4:=qbn S (rn S i+1)
   have h5:=ZL S (rn S (rn S i+1)) true
   exact⟨by omega,qlD (QO (by omega))⟩
 · have h5:=ZL S (rn S i) false
   exact⟨by omega,qlD h2⟩
theorem qlE(S:List UInt8)(i:Nat):(S.drop i).take (rn S i-i)=rnL S i:=by
 unfold rn;rw[K4];have h:rnL S i <+: S.drop i:=List.takeWhile_prefix _
 exact(Wl.1 h).symm
theorem qu4(p:ByteArray×Int)(y:Tk×Int×Int)(hg:(dc cS (d1 (cI .i64))).good p)(h:qhk p=some y):∃n,qp3 n p.1 p.2=some y:=by
 obtain⟨s,i⟩:=p;clear hg;refine⟨2000000,?_⟩
 revert h;refine onB (P:=fun s=>qhk (s,i)=some y→qp3 2000000 s i=some y) (fun S h=>?_) s
 have nl:((S[i.toNat]?).any yp)=false:=by
  cases hb:(S[i.toNat]?).any yp with
  | false=>rfl
  | true=>
   have h:(bif(S[i.toNat]?).any yp then none else QU (bs S,i))=some y:=h
   rw[hb]at h;cases h
 have h:QU (bs S,i)=some y:=by
  have h:(bif(S[i.toNat]?).any yp then none else QU (bs S,i))=some y:=h
  rw[nl]at h;exact h
 obtain⟨h1,h2⟩:=qi h;have:=soi h2;subst this
 simp only[zk]at h1;obtain⟨⟨a1,a2⟩,a3⟩:=h1;have a3:S.length≤1000000:=zm a3
 have a1:=zW a1;obtain⟨k,rfl⟩:=zV a1;have a2:((k:Nat):Int)<((S.length:Nat):Int):=zW a2
 clear h h2 a1;rw[zg]at nl;show qp3 2000000 (bs S) ((k:Nat):Int)=some (jV S k)
 obtain⟨c,hc⟩:∃c,S[k]?=some c:=⟨_,zl (by omega)⟩
 have hcl:yp c=false:=by rw[hc]at nl;exact nl
 have ext:(bs S).extract k S.length=bs (S.drop k):=by
  rw[jZ,zL (by rw[Kl];omega)]
 have sg:∀K:ByteArray→Option (Tk×Int×Int),((qav (bs (S.drop k))).bind K)=K (bs (JN (S.drop k))):=fun K=>by
  refine obs ?_ rfl
  unfold qav;rw[jB,zo (by rw[Kl];omega)];rfl
 have sl:(JN (S.drop k)).length≤2:=by
  unfold JN;split
  · rw[zM];omega
  · split
    · rw[zM];omega
    · simp
 have w:IntKind.i64.wrap (((k:Nat):Int)+(((JN (S.drop k)).length:Nat):Int))=((k+(JN (S.drop k)).length:Nat):Int):=by rw[w64 (by omega) (by omega)];omega
 have sgn:isD c=false→(bif(((decide (0≤((k:Nat):Int)))&&(decide (((k:Nat):Int)≤((S.length:Nat):Int))))&&(decide (((S.length:Nat):Int)≤((S.length:Nat):Int))))then
  ((qav (bs (S.drop k))).bind fun x8=>(bif(decide (x8=(ByteArray.mk (List.toArray []))))then some (((5:Int),((k:Nat):Int),x8,(0:Int),(0:Int)),((k:Nat):Int),(90:Int))else some (((5:Int),((k:Nat):Int),x8,(0:Int),(0:Int)),(IntKind.i64.wrap (((k:Nat):Int)+((x8).size:Int))),(0:Int))))else none)=some (jV S k):=fun hd=>by
  rw[za (by omega),za (by omega),za (Wv _),sg];simp only[z7,zf,qhg,qe,w];unfold jV;rw[zp (by rw[nl];decide),zp (by rw[hc];show¬isD c=true;rw[hd];decide)];by_cases e:JN (S.drop k)=[]
  · rw[zr e,bdT e,e]
  · rw[zp e,bdF e]
 unfold qp3 qhh;simp only[qe,zg,qW,hc,zd,qlC,hcl,ext,zj];rw[bdT (by omega)];by_cases h1:48≤c.toNat
 · rw[bdT (by omega)]
   by_cases h2:c.toNat≤57
   · rw[bdT (by omega)]
     have hd:isD c=true:=jP.2 ⟨h1,h2⟩
     have hn:qce (bs S,((k:Nat):Int))=some (((yq S k).1:Int),(yq S k).2):=by
      unfold qce;show(bif(decide ((0:Int)≤((k:Nat):Int))&&decide (((k:Nat):Int)≤((S.length:Nat):Int)))&&Nat.ble S.length 1000000 then _ else _)=_
      rw[za (by omega),za (by omega),zo a3];rfl
     obtain⟨n1,n2⟩:=qkb (S:=S) (i:=k) (by omega)
     refine obs hn ?_
     rw[za (by omega),za (show((k:Nat):Int)≤(((yq S k).1:Nat):Int) by omega),za (show(((yq S k).1:Nat):Int)≤((S.length:Nat):Int) by omega)];simp only[z7,zf,zg,jZ];have hv:(yq S k).2=true∨(S.drop k).take ((yq S k).1-k)≠[]∧∀c∈(S.drop k).take ((yq S k).1-k),isD c=true:=by
      cases hb:(yq S k).2 with
      | true=>exact .inl rfl
      | false=>
       rw[qiP hb,qlE];refine .inr ⟨?_,qat S k⟩
       rw[J5 hc hd];simp
     refine obs (qBF hv) ?_
     unfold jV;rw[zp (by rw[nl];decide),zr (by rw[hc];exact hd)];rfl
   · rw[bdF (by omega)]
     exact sgn (by cases hd:isD c with | false=>rfl | true=>exact absurd (jP.1 hd).2 h2)
 · rw[bdF (by omega)]
   exact sgn (by cases hd:isD c with | false=>rfl | true=>exact absurd (jP.1 hd).1 h1)
end
end Su
end
section
namespace Su
open Go Fly
noncomputable section
end
end Su
end
