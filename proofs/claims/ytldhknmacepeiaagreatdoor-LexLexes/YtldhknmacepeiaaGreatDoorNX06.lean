/-
  What functions of the program compute, in plain Lean, and that the evaluator finds it.
-/
import Derived.Test.YtldhknmacepeiaaGreatDoorSuXl
import Derived.Test.YtldhknmacepeiaaGreatDoorNX02
import Derived.Test.YtldhknmacepeiaaGreatDoorNB10
set_option linter.unusedVariables false
set_option linter.unusedSimpArgs false
set_option maxRecDepth 10000
section
namespace Su
open Go Fly
noncomputable section
def ZM:(ByteArray×Nat×Int×(List T)×Unit)→Option ((ByteArray×Nat×Int×(List T)×Unit) ⊕ (Lp (ByteArray×Nat×Int×(List T)×Unit) ((List (Int×Int×ByteArray×Int×Int))×Int×Int))):=fun p1=>(bif(decide (p1.2.2.1<(ByteArray.size p1.1:Int)))then
 (QU (p1.1,p1.2.2.1)).bind fun x2=>
 (bif(!(decide (x2.2.2=0)))then
 some (.inr (.ret ([],x2.2.2,p1.2.2.1)))
 else
  (bif((true&&(Nat.beq p1.2.1 p1.2.2.2.1.length))&&(Nat.ble (p1.2.2.2.1.length+(List.length [(T.agg [(T.s (.int .u8 x2.1.1)),(T.s (.int .i64 x2.1.2.1)),(T.s (.string x2.1.2.2.1)),(T.s (.int .i32 x2.1.2.2.2.1)),(T.s (.int .u64 x2.1.2.2.2.2))])])) 549755813888))then
  (JE (p1.1,x2.2.1)).bind fun x3=>
  some (.inl (p1.1,(List.length (p1.2.2.2.1++[(T.agg [(T.s (.int .u8 x2.1.1)),(T.s (.int .i64 x2.1.2.1)),(T.s (.string x2.1.2.2.1)),(T.s (.int .i32 x2.1.2.2.2.1)),(T.s (.int .u64 x2.1.2.2.2.2))])])),x3,(p1.2.2.2.1++[(T.agg [(T.s (.int .u8 x2.1.1)),(T.s (.int .i64 x2.1.2.1)),(T.s (.string x2.1.2.2.1)),(T.s (.int .i32 x2.1.2.2.2.1)),(T.s (.int .u64 x2.1.2.2.2.2))])]),()))
 else none))
 else
  some (.inr (.exit 0 (p1.1,p1.2.1,p1.2.2.1,p1.2.2.2.1,()))))
def qp4  (fu:Nat)(s:ByteArray):Option ((List (Int×Int×ByteArray×Int×Int))×Int×Int) :=
 (bif(decide (16384<(ByteArray.size s:Int)))then
 some ([],(91:Int),(0:Int))
 else
  (JE (s,(0:Int))).bind fun x0=>
  (itP fu (ZM) (s,0,x0,[],())).bind fun x4=>
  (match x4 with
 | .exit i5 p6=>(bif(Nat.beq i5 0)then
  (bif((true&&(Nat.beq p6.2.1 p6.2.2.2.1.length))&&(Nat.ble (p6.2.2.2.1.length+(List.length [(T.agg [(T.s (.int .u8 0)),(T.s (.int .i64 (ByteArray.size p6.1:Int))),(T.s (.string (ByteArray.empty))),(T.s (.int .i32 0)),(T.s (.int .u64 0))])])) 549755813888))then
  (Su.sub (p6.2.2.2.1++[(T.agg [(T.s (.int .u8 0)),(T.s (.int .i64 (ByteArray.size p6.1:Int))),(T.s (.string (ByteArray.empty))),(T.s (.int .i32 0)),(T.s (.int .u64 0))])]) 0 (List.length (p6.2.2.2.1++[(T.agg [(T.s (.int .u8 0)),(T.s (.int .i64 (ByteArray.size p6.1:Int))),(T.s (.string (ByteArray.empty))),(T.s (.int .i32 0)),(T.s (.int .u64 0))])]))).bind fun x7=>
  (unR (rTk) x7).bind fun x8=>
  some (x8,(0:Int),(0:Int))
 else none)
 else none)
 | .ret o9=>some o9))
noncomputable section
def vTk(t:Tk):T:=T.agg [T.s (.int .u8 t.1),T.s (.int .i64 t.2.1),T.s (.string t.2.2.1),T.s (.int .i32 t.2.2.2.1),T.s (.int .u64 t.2.2.2.2)]
theorem qp5(l:List Tk):unR rTk (l.map vTk)=some l:=qlA rTk l
theorem qxh(l:List T):sub l 0 l.length=some l:=JD l
def skE(S:List UInt8)(i:Nat):Nat:=i+sk false (S.drop i)
def qu5(S:List UInt8):Tk:=(0,((S.length:Nat):Int),bs [],0,0)
def yW(S:List UInt8):Nat→Nat→List Tk×(Int×Int)
 | 0,_=>([qu5 S],0,0)
 | f+1,i=>if i<S.length then
  (if(jV S i).2.2=0 then(if(yW S f (skE S (jV S i).2.1.toNat)).2.1=0 then((jV S i).1::(yW S f (skE S (jV S i).2.1.toNat)).1,0,0)else([],(yW S f (skE S (jV S i).2.1.toNat)).2))else([],(jV S i).2.2,(i:Int)))else([qu5 S],0,0)
def qbp(S:List UInt8):List Tk×(Int×Int):=if 16384<S.length then([],91,0)else yW S (S.length+1) (sk false S)
theorem qp6{S:List UInt8}{i:Nat}(h:i≤S.length):i≤skE S i∧skE S i≤S.length:=by
 have:=qiN false (S.drop i)
 rw[Kl]at this;unfold skE;omega
theorem qiQ{S:List UInt8}{i:Nat}(hi:i<S.length)(h:(jV S i).2.2=0):∃k:Nat,(jV S i).2.1=(k:Int)∧i<k∧k≤S.length:=by
 obtain⟨c,hc⟩:∃c,S[i]?=some c:=⟨_,zl hi⟩
 unfold jV at h ⊢
 by_cases h1:(S[i]?).any yp=true
 · rw[zr h1]
   have h2:yS c=true:=by rw[hc]at h1;unfold yS;rw[show yp c=true from h1];rfl
   refine⟨_,rfl,?_,qax (by omega)⟩
   rw[qhi hc h2];unfold spI;omega
 · rw[zp h1]at h ⊢
   by_cases h2:(S[i]?).any isD=true
   · rw[zr h2]
     refine⟨_,rfl,?_,(qkb (by omega)).2⟩
     have h3:isD c=true:=by rw[hc]at h2;exact h2
     have e:rn S i=rn S (i+1):=by unfold rn;rw[J5 hc h3,zy];omega
     have g1:=qbn S (i+1)
     show i<(yq S i).1
     unfold yq;split
     · have:=(ZL S (rn S (rn S i+1)) true).1
       have:=qbn S (rn S i+1)
       omega
     · have:=(ZL S (rn S i) false).1
       omega
   · rw[zp h2]at h ⊢
     by_cases h3:JN (S.drop i)=[]
     · rw[zr h3]at h
       have h:(90:Int)=0:=h
       omega
     · rw[zp h3]
       refine⟨_,rfl,?_,?_⟩
       · have:(JN (S.drop i)).length≠0:=fun e=>h3 (KA e)
         omega
       · have:(JN (S.drop i)).length≤(S.drop i).length:=by
          unfold JN;split
          · rw[zM];omega
          · split
            · rw[zM];omega
            · simp
         rw[Kl]at this;omega
def qp7(r:Lp (ByteArray×Nat×Int×(List T)×Unit) ((List (Int×Int×ByteArray×Int×Int))×Int×Int)):Option (List Tk×Int×Int):=match r with
 | .exit i5 p6=>(bif(Nat.beq i5 0)then
  (bif((true&&(Nat.beq p6.2.1 p6.2.2.2.1.length))&&(Nat.ble (p6.2.2.2.1.length+(List.length [(T.agg [(T.s (.int .u8 0)),(T.s (.int .i64 (ByteArray.size p6.1:Int))),(T.s (.string (ByteArray.empty))),(T.s (.int .i32 0)),(T.s (.int .u64 0))])])) 549755813888))then
  (Su.sub (p6.2.2.2.1++[(T.agg [(T.s (.int .u8 0)),(T.s (.int .i64 (ByteArray.size p6.1:Int))),(T.s (.string (ByteArray.empty))),(T.s (.int .i32 0)),(T.s (.int .u64 0))])]) 0 (List.length (p6.2.2.2.1++[(T.agg [(T.s (.int .u8 0)),(T.s (.int .i64 (ByteArray.size p6.1:Int))),(T.s (.string (ByteArray.empty))),(T.s (.int .i32 0)),(T.s (.int .u64 0))])]))).bind fun x7=>
  (unR (rTk) x7).bind fun x8=>
  some (x8,(0:Int),(0:Int))
 else none)
 else none)
 | .ret o9=>some o9
theorem qBG{S:List UInt8}(hS:S.length≤16384){i:Nat}(hi:i<S.length):QU (bs S,(i:Int))=some (jV S i):=by
 unfold QU;show(bif(decide ((0:Int)≤(i:Int))&&decide ((i:Int)<((S.length:Nat):Int)))&&Nat.ble S.length 1000000 then _ else _)=_
 rw[za (by omega),za (by omega),zo (by omega)];rfl
theorem qp8{S:List UInt8}(hS:S.length≤16384){i:Nat}(hi:i≤S.length):JE (bs S,(i:Int))=some ((skE S i:Nat):Int):=by
 unfold JE;show(bif(decide ((0:Int)≤(i:Int))&&decide ((i:Int)≤((S.length:Nat):Int)))&&Nat.ble S.length 1000000 then _ else _)=_
 rw[za (by omega),za (by omega),zo (by omega)];rfl
def qcf(acc:List Tk)(q:List Tk×Int×Int):List Tk×(Int×Int):=if q.2.1=0 then(acc++q.1,0,0)else([],q.2)
theorem qp9{S:List UInt8}:∀(f i:Nat),(yW S f i).2.1=0→(yW S f i).2=(0,0)
 | 0,_,_=>rfl
 | f+1,i,h=>by
  unfold yW at h ⊢
  split
  · rename_i h1
    rw[zr h1]at h;split
    · rename_i h2
      rw[zr h2]at h;split
      · rfl
      · rename_i h3
        rw[zp h3]at h;exact absurd h h3
    · rename_i h2
      rw[zp h2]at h;exact absurd h h2
  · rfl
theorem qu6{S:List UInt8}(hS:S.length≤16384):∀(f i:Nat) (acc:List Tk),i≤S.length→S.length<f+i→acc.length≤i →
 ∃r,(∃n,itP n ZM (bs S,(acc.map vTk).length,(i:Int),acc.map vTk,())=some r)∧qp7 r=some (qcf acc (yW S f i)):=fun f=>by
 induction f with
 | zero=>intro i acc h1 h2;omega
 | succ f ih=>
  intro i acc h1 h2 h3;by_cases hi:i<S.length
  · have head:ZM (bs S,(acc.map vTk).length,(i:Int),acc.map vTk,())=(bif !(decide ((jV S i).2.2=0))then some (.inr (.ret ([],(jV S i).2.2,(i:Int))))else((JE (bs S,(jV S i).2.1)).bind fun x3=>some (.inl (bs S,((acc++[(jV S i).1]).map vTk).length,x3,(acc++[(jV S i).1]).map vTk,())))):=by
     unfold ZM;simp only[qe];rw[bdT (by omega)];refine obs (qBG hS hi) ?_
     rw[show Nat.beq (acc.map vTk).length (acc.map vTk).length=true from KK _,zo (by rw[zx];simp only[zy,KF];omega),Kg];rfl
    by_cases he:(jV S i).2.2=0
    · obtain⟨k,e1,e2,e3⟩:=qiQ hi he
      obtain⟨g1,g2⟩:=qp6 (S:=S) (i:=k) e3
      have head2:ZM (bs S,(acc.map vTk).length,(i:Int),acc.map vTk,())=some (.inl (bs S,((acc++[(jV S i).1]).map vTk).length,((skE S k:Nat):Int),(acc++[(jV S i).1]).map vTk,())):=by
       rw[head,bdN,bdT he,e1,qp8 hS e3];rfl
      obtain⟨r,hr1,hr2⟩:=ih (skE S k) (acc++[(jV S i).1]) g2 (by omega) (by rw[zJ,Vp];omega)
      refine⟨r,jK head2 hr1,hr2.trans ?_⟩
      congr 1
      rw[yW,zr hi,zr he,e1,zg];unfold qcf;by_cases hq:(yW S f (skE S k)).2.1=0
      · rw[zr hq,zr hq,zr rfl]
        rw[zZ];rfl
      · rw[zp hq,zp hq,zp hq]
    · refine⟨.ret ([],(jV S i).2.2,(i:Int)),js (head.trans (by rw[bdN,bdF he])),?_⟩
      rw[yW,zr hi,zp he];unfold qcf;rw[zp he];rfl
  · refine⟨.exit 0 (bs S,(acc.map vTk).length,(i:Int),acc.map vTk,()),js ?_,?_⟩
    · unfold ZM
      simp only[qe];rw[bdF (by omega)]
    · rw[yW,zp hi]
      unfold qcf;rw[zr rfl];have et:[(T.agg [(T.s (.int .u8 0)),(T.s (.int .i64 (ByteArray.size (bs S):Int))),(T.s (.string (ByteArray.empty))),(T.s (.int .i32 0)),(T.s (.int .u64 0))])]=[qu5 S].map vTk:=by rw[qe];rfl
      unfold qp7;simp only[et];rw[show Nat.beq 0 0=true from rfl,zf,show Nat.beq (acc.map vTk).length (acc.map vTk).length=true from KK _,zo (by rw[zx];simp only[zx,zy,KF];omega),← Kg,qxh];refine obs (qp5 _) rfl
def qay(s:ByteArray):Option (List Tk×Int×Int):=bif okS []then some (qbp (lb s))else none
theorem qqa(s:ByteArray):qay s=some (qbp (lb s)):=by unfold qay;rw[ZK];rfl
theorem qu7(s:ByteArray)(y:List Tk×Int×Int)(hg:(d1 cS).good s)(h:qay s=some y):∃n,qp4 n s=some y:=by
 clear hg;rw[qqa]at h;revert h;refine onB (P:=fun s=>some (qbp (lb s))=some y→∃n,qp4 n s=some y) (fun S h=>?_) s
 have:=soi h;subst this
 rw[jB];unfold qbp;by_cases hS:16384<S.length
 · refine⟨0,?_⟩
   unfold qp4;rw[zr hS,bdT (by rw[qe];omega)]
 · have hS':S.length≤16384:=by omega
   rw[zp hS];have g:=qp6 (S:=S) (i:=0) (by omega)
   have e0:skE S 0=sk false S:=by unfold skE;rw[KR,zF]
   obtain⟨r,⟨n,hn⟩,hr⟩:=qu6 hS' (S.length+1) (skE S 0) [] g.2 (by omega) (by simp)
   refine⟨n,?_⟩
   have hz:qcf [] (yW S (S.length+1) (skE S 0))=yW S (S.length+1) (skE S 0):=by
    unfold qcf;by_cases hq:(yW S (S.length+1) (skE S 0)).2.1=0
    · rw[zr hq,zK,← qp9 _ _ hq]
    · rw[zp hq]
      have:∀f i,(yW S f i).2.1≠0→(yW S f i).1=[]:=by
       intro f;induction f with
       | zero=>intro i h;exact absurd rfl h
       | succ f ih=>
        intro i h;unfold yW at h ⊢
        split
        · rename_i h1
          rw[zr h1]at h;split
          · rename_i h2
            rw[zr h2]at h;split
            · rename_i h3
              rw[zr h3]at h;exact absurd rfl h
            · rfl
          · rfl
        · rename_i h1
          rw[zp h1]at h;exact absurd rfl h
      exact Prod.ext (this _ _ hq).symm rfl
   rw[← e0,← hz,← hr];unfold qp4;rw[bdF (by rw[qe];omega)];refine obs (qp8 hS' (i:=0) (by omega)) ?_
   exact obs hn rfl
end
end
end Su
end
section
namespace Su
open Go Fly
noncomputable section
def qy8  (c:Int):Option Bool :=
 (Yq c).bind fun x0=>
 (bif x0 then
 some true
 else
  (bif(decide (48≤c))then
  some (decide (c≤57))
 else
  some false))
def qhl(c:Int):Option Bool:=bif decide (0≤c)&&decide (c<256)then some (yS (UInt8.ofNat c.toNat))else none
theorem qu8(c:Int)(y:Bool)(hg:(d1 (cI .u8)).good c)(h:qhl c=some y):qy8 c=some y:=by
 obtain⟨h1,h2⟩:=qi h;have:=soi h2;subst this
 simp only[zk,zD]at h1;obtain⟨k,rfl⟩:=zV h1.1;have hk:(UInt8.ofNat k).toNat=k:=by rw[UInt8.toNat_ofNat'];omega
 have hl:Yq (k:Int)=some (yp (UInt8.ofNat k)):=by have:=qlC (UInt8.ofNat k);rwa [hk]at this
 rw[zg];unfold qy8;refine obs hl ?_
 unfold yS isD;rw[hk];cases yp (UInt8.ofNat k)with
 | true=>rfl
 | false=>
  simp only[zj,VP];by_cases h1:48≤k
  · rw[bdT (by omega),zo h1,z7]
    by_cases h2:k≤57
    · rw[za (by omega),zo h2]
    · rw[zi (by omega)]
      cases h:Nat.ble k 57 with
      | false=>rfl
      | true=>exact absurd (zm h) h2
  · rw[bdF (by omega)]
    cases h:Nat.ble 48 k with
    | false=>rfl
    | true=>exact absurd (zm h) h1
theorem qBH(c:UInt8):qhl ((c.toNat:Nat):Int)=some (yS c):=by
 have:=c.toNat_lt
 unfold qhl;rw[za (by omega),za (by omega),zg,Vh];rfl
end
end Su
end
section
namespace Su
open Go Fly
noncomputable section
end
end Su
end
section
namespace Su
open Go Fly
end Su
end
section
namespace Su
open Go Fly
def qf:List Bool→Nat
 | []=>0
 | b::l=>b.toNat+2*qf l
theorem qbq:∀(a b:List Bool),qf (a++b)=qf a+2^a.length*qf b
 | [],b=>by simp[qf]
 | x::a,b=>by
  simp only[Ve,qf,qbq a b,zy,zU,Kx];rw[← zt,zB 2 (2^a.length)];omega
theorem ZN:∀(a:List Bool),qf a<2^a.length
 | []=>by simp[qf]
 | x::a=>by
  have:=ZN a
  simp only[qf,zy,zU];have hx:x.toNat≤1:=by cases x <;> decide
  omega
theorem qqb(n:Nat):qf (List.replicate n false)=0:=by
 induction n with
 | zero=>rfl
 | succ n ih=>simp[VH,qf,ih]
theorem qm0{a:List Bool}{n:Nat}(h:n<a.length):qf (a.take (n+1))=qf (a.take n)+2^n*a[n].toNat:=by
 rw[VE h,qbq,zM,Kz (Vm h)];simp[qf]
abbrev eB(b:Bool):T:=T.s (.bool b)
theorem qcg(l:List Bool):jJ 4 (l.map eB)=some l:=Y2 (u:=4) (by decide) l
def qY:Nat→Nat→List Bool
 | 0,_=>[]
 | k+1,n=>(n % 2 == 1)::qY k (n / 2)
theorem j4:∀(k n:Nat),(qY k n).length=k
 | 0,_=>rfl
 | k+1,n=>by simp[qY,j4 k]
theorem Jc:∀(k n:Nat),qf (qY k n)=n % 2^k
 | 0,n=>by simp[qY,qf,Ww]
 | k+1,n=>by
  simp only[qY,qf,Jc k];have h1:(n % 2 == 1).toNat=n % 2:=by rcases V5 n with h | h <;> rw[h] <;> rfl
  rw[h1,Nat.pow_succ',Nat.mod_mul]
theorem qiR:∀(l:List Bool),qY l.length (qf l)=l
 | []=>rfl
 | x::l=>by
  simp only[zy,qY,qf];have hx:x.toNat≤1:=by cases x <;> decide
  have h1:(x.toNat+2*qf l) / 2=qf l:=by omega
  have h2:((x.toNat+2*qf l) % 2 == 1)=x:=by
   have:(x.toNat+2*qf l) % 2=x.toNat:=by omega
   rw[this];cases x <;> rfl
  rw[h1,h2,qiR l]
end Su
end
section
namespace Su
open Go Fly
noncomputable section
def qy9  (a:(List Bool))(i:Int):Option Bool :=
 (bif(decide (0≤i))then
 (bif(decide (i<(List.length a:Int)))then
 (idx a i).bind fun x0=>
 some x0
 else
  some false)
 else
  some false)
def qbr:Stp ((List Bool)×Int×Unit):=fun p0=>(bif(decide (0<p0.2.1))then
 (idx p0.1 (IntKind.wrap .i64 (p0.2.1-1))).bind fun x1=>
 (bif(!x1)then
 some (.inl (p0.1,(IntKind.wrap .i64 (p0.2.1-1)),()))
 else
  some (.inr (p0.1,p0.2.1,())))
 else
  some (.inr (p0.1,p0.2.1,())))
def qza  (fu:Nat)(a:(List Bool)):Option Int :=
 (itP fu (qbr) (a,(List.length a:Int),())).bind fun x2=>
 some x2.2.1
def ZO:Stp ((List Bool)×Int×Nat×Int×(List T)×Unit):=fun p0=>(bif(decide (p0.2.2.2.1<p0.2.1))then
 (bif((true&&(Nat.beq p0.2.2.1 p0.2.2.2.2.1.length))&&(Nat.ble (p0.2.2.2.2.1.length+1) 549755813888))then
 some (.inl (p0.1,p0.2.1,(List.length (p0.2.2.2.2.1++[(T.s (.bool false))])),(IntKind.wrap .i64 (p0.2.2.2.1+1)),(p0.2.2.2.2.1++[(T.s (.bool false))]),()))
 else none)
 else
  some (.inr (p0.1,p0.2.1,p0.2.2.1,p0.2.2.2.1,p0.2.2.2.2.1,())))
def qzb  (fu:Nat)(a:(List Bool))(n:Int):Option (List Bool) :=
 (itP fu (ZO) (a,n,0,(0:Int),[],())).bind fun x1=>
 (bif((true&&(Nat.beq x1.2.2.1 x1.2.2.2.2.1.length))&&(Nat.ble (x1.2.2.2.2.1.length+(List.length (List.map (fun z2=>(T.s (.bool z2))) x1.1))) 549755813888))then
 (Su.sub (x1.2.2.2.2.1++(List.map (fun z3=>(T.s (.bool z3))) x1.1)) 0 (List.length (x1.2.2.2.2.1++(List.map (fun z4=>(T.s (.bool z4))) x1.1)))).bind fun x5=>
 (jJ 4 x5)
 else none)
def Q3(a:List Bool)(i:Int):Bool:=bif decide (0≤i)then(a[i.toNat]?).getD false else false
def qqc(p:List Bool×Int):Option Bool:=some (Q3 p.1 p.2)
theorem qu9(p:List Bool×Int)(y:Bool)(hg:(dc (cQ 4 1) (d1 (cI .i64))).good p)(h:qqc p=some y):qy9 p.1 p.2=some y:=by
 obtain⟨a,i⟩:=p;have:=soi h;subst this
 unfold qy9 Q3;simp only[];by_cases h0:0≤i
 · obtain⟨n,rfl⟩:∃n:Nat,i=(n:Int):=⟨i.toNat,by omega⟩
   rw[za h0,zf,zf,yH,zg];by_cases h1:n<a.length
   · rw[za (by omega),zf,zl h1];rfl
   · rw[zi (by omega),zj,zA (by omega)];rfl
 · rw[zi h0,zj,zj]
theorem qex(l:List Bool):sub (l.map eB) 0 (l.map eB).length=some (l.map eB):=by
 unfold sub;rw[show Nat.ble (0+(l.map eB).length) (l.map eB).length=true by rw[K9];omega];rw[zf,KR,zL (zw _)]
def qqd(a:List Bool):Option Int:=some (qj (qf a):Int)
theorem qey(a:List Bool)(hl:a.length≤9223372036854775807):∀n:Nat,n≤a.length→∃f,itP f qbr (a,(n:Int),())=some (a,((qj (qf (a.take n)):Nat):Int),())
 | 0,_=>js (by simp[qbr,qf,qj])
 | n+1,h=>by
  have e1:IntKind.i64.wrap (((n+1:Nat):Int)-1)=(n:Int):=by rw[w64 (by omega) (by omega)];omega
  have hn:n<a.length:=by omega
  have hi:idx a (n:Int)=some a[n]:=by rw[yH,zl hn]
  have hlt:qf (a.take n)<2^n:=by
   have:=ZN (a.take n)
   rwa [zM,Kz (by omega)]at this
  rw[qm0 hn];cases hb:a[n]with
  | false=>
   obtain⟨f,hf⟩:=qey a hl n (by omega)
   refine jK (s':=(a,(n:Int),())) ?_ ⟨f,by rw[hf];simp⟩
   simp only[qbr];rw[za (by omega),zf,e1,hi,zd,hb];rfl
  | true=>
   have:qj (qf (a.take n)+2^n*true.toNat)=n+1:=qgV (by simp) (by rw[zU];simp;omega)
   rw[this];refine js ?_
   simp only[qbr];rw[za (by omega),zf,e1,hi,zd,hb];rfl
theorem qva(a:List Bool)(y:Int)(hg:(d1 (cQ 4 1)).good a)(h:qqd a=some y):∃n,qza n a=some y:=by
 have:=soi h;subst this
 have hl:=hg.2;rw[jU]at hl;obtain⟨f,hf⟩:=qey a hl a.length (zw _)
 rw[List.take_length]at hf;exact⟨f,by unfold qza;rw[hf];rfl⟩
def QC(p:List Bool×Int):Option (List Bool):=bif Nat.ble (p.2.toNat+p.1.length) 549755813888 then some (List.replicate p.2.toNat false++p.1)else none
theorem qfP(a:List Bool)(N:Nat)(hN:N≤549755813888):∀k i:Nat,i+k=N→∃f,itP f ZO (a,(N:Int),i,(i:Int),(List.replicate i false).map eB,())=some (a,(N:Int),N,(N:Int),(List.replicate N false).map eB,())
 | 0,i,hk=>by
  have:i=N:=by omega
  subst this;refine js ?_
  simp only[ZO];rw[zi (by omega),zj]
 | k+1,i,hk=>by
  obtain⟨f,hf⟩:=qfP a N hN k (i+1) (by omega)
  refine jK ?_ ⟨f,hf⟩
  simp only[ZO];have h1:Nat.beq i ((List.replicate i false).map eB).length=true:=by rw[zx,Vc];exact KK _
  have h2:Nat.ble (((List.replicate i false).map eB).length+1) 549755813888=true:=by rw[K9,zx,Vc];omega
  have h3:(List.replicate i false).map eB++[T.s (.bool false)]=(List.replicate (i+1) false).map eB:=by rw[List.replicate_succ',Kg];rfl
  rw[za (by omega),zf,h1,h2,h3,w64 (by omega) (by omega)];simp only[Kq,zf,zx,Vc];rfl
theorem qvb(p:List Bool×Int)(y:List Bool)(hg:(dc (cQ 4 1) (d1 (cI .i64))).good p)(h:QC p=some y):∃n,qzb n p.1 p.2=some y:=by
 obtain⟨a,n⟩:=p;obtain⟨hle,h⟩:=qi h;have:=soi h;subst this
 have hle:=zm hle;simp only[]at hle ⊢;have main:∃f,itP f ZO (a,n,0,(0:Int),([]:List T),())=some (a,n,n.toNat,(n.toNat:Int),(List.replicate n.toNat false).map eB,()):=by
  by_cases h0:n<0
  · have:n.toNat=0:=by omega
    rw[this];refine js ?_
    simp only[ZO];rw[zi (by omega),zj];rfl
  · obtain⟨N,rfl⟩:∃N:Nat,n=(N:Int):=⟨n.toNat,by omega⟩
    rw[zg]at hle ⊢;exact qfP a N (by omega) N 0 (by omega)
 obtain⟨f,hf⟩:=main;refine⟨f,?_⟩
 unfold qzb;rw[hf,zd];simp only[];have h1:Nat.beq n.toNat ((List.replicate n.toNat false).map eB).length=true:=by rw[zx,Vc];exact KK _
 have e:List.map (fun z=>T.s (.bool z)) a=a.map eB:=rfl
 rw[h1,e];have h2:Nat.ble (((List.replicate n.toNat false).map eB).length+(a.map eB).length) 549755813888=true:=by rw[K9];simp;omega
 rw[h2,← Kg];have h3:=qex (List.replicate n.toNat false++a)
 rw[h3];simp only[Kq,zf];exact qcg _
end
end Su
end
section
namespace Su
open Go Fly
theorem qez:∀(k n:Nat),qY (k+1) n=qY k n++[n / 2^k % 2 == 1]
 | 0,n=>by simp[qY]
 | k+1,n=>by
  show(n % 2 == 1)::qY (k+1) (n / 2)=((n % 2 == 1)::qY k (n / 2))++_
  rw[qez k (n / 2),zS,← Nat.pow_succ'];rfl
theorem qzc:∀(a:List Bool) (i:Nat),(a[i]?).getD false=(qf a / 2^i % 2 == 1)
 | [],i=>by simp[qf]
 | x::a,0=>by
  have h:(x.toNat+2*qf a) / 2^0 % 2=x.toNat:=by
   have hx:x.toNat≤1:=by cases x <;> decide
   rw[KS,Wm];omega
  simp only[VS,Option.getD_some,qf,h];cases x <;> rfl
 | x::a,i+1=>by
  have h:(x.toNat+2*qf a) / 2^(i+1)=qf a / 2^i:=by
   have hx:x.toNat≤1:=by cases x <;> decide
   rw[Nat.pow_succ',← zS];congr 1;omega
  simp only[Vq,qf,h];exact qzc a i
def tb2(A i:Nat):Bool:=A / 2^i % 2 == 1
def cy(A B i:Nat):Nat:=(A % 2^i+B % 2^i) / 2^i
theorem qxi(A B i:Nat):cy A B i≤1:=by
 unfold cy;have hp:=zH i;have h1:=Vf A hp;have h2:=Vf B hp;have:(A % 2^i+B % 2^i) / 2^i<2:=by rw[Kw hp];omega
 omega
theorem qvc(A B:Nat):cy A B 0=0:=by simp[cy,Ww]
theorem qvd(A B i:Nat):cy A B (i+1)=(A / 2^i % 2+B / 2^i % 2+cy A B i) / 2:=by
 unfold cy;have hp:=zH i;rw[Nat.mod_pow_succ (x:=A) (b:=2) (k:=i),Nat.mod_pow_succ (x:=B) (b:=2) (k:=i),zU,← zS];generalize A % 2^i=r
 generalize B % 2^i=s
 generalize A / 2^i % 2=x
 generalize B / 2^i % 2=y
 generalize 2^i=P at *
 have:r+P*x+(s+P*y)=r+s+P*(x+y):=by rw[Kx];omega
 rw[this,Vs _ _ hp]
 congr 1;omega
theorem qve(A B i:Nat):(A+B) / 2^i % 2=(A / 2^i % 2+B / 2^i % 2+cy A B i) % 2:=by
 unfold cy;have hp:=zH i;have h1:=KG A (2^i)
 have h2:=KG B (2^i)
 generalize A % 2^i=r at *
 generalize B % 2^i=s at *
 generalize A / 2^i=x at *
 generalize B / 2^i=y at *
 generalize 2^i=P at *
 have:A+B=r+s+P*(x+y):=by rw[Kx];omega
 rw[this,Vs _ _ hp];omega
def cyB(A B i:Nat):Bool:=cy A B i == 1
theorem qbs(n:Nat):n % 2=(n % 2 == 1).toNat:=by rcases V5 n with h | h <;> rw[h] <;> rfl
theorem qbt(A B i:Nat):cy A B i=(cyB A B i).toNat:=by
 unfold cyB;have:=qxi A B i
 have:cy A B i=0∨cy A B i=1:=by omega
 rcases this with h | h <;> rw[h] <;> rfl
theorem qqe(A B i:Nat):cyB A B (i+1)=(tb2 A i&&tb2 B i||tb2 A i&&cyB A B i||tb2 B i&&cyB A B i):=by
 have h:=qvd A B i;rw[qbs (A / 2^i),qbs (B / 2^i),qbt A B i]at h;rw[show cyB A B (i+1)=(cy A B (i+1) == 1) from rfl,h];unfold tb2;cases(A / 2^i % 2 == 1) <;> cases(B / 2^i % 2 == 1) <;> cases cyB A B i <;> rfl
theorem qqf(A B i:Nat):tb2 (A+B) i=((tb2 A i != tb2 B i) != cyB A B i):=by
 have h:=qve A B i;rw[qbs (A / 2^i),qbs (B / 2^i),qbt A B i]at h;rw[show tb2 (A+B) i=((A+B) / 2^i % 2 == 1) from rfl,h];unfold tb2;cases(A / 2^i % 2 == 1) <;> cases(B / 2^i % 2 == 1) <;> cases cyB A B i <;> rfl
theorem qqg{A B n:Nat}(hA:A<2^n)(hB:B<2^n):A+B<2^(n+cy A B n):=by
 unfold cy;rw[Kf hA,Kf hB];by_cases h:A+B<2^n
 · rw[KN h];exact h
 · have:(A+B) / 2^n=1:=by
    have hp:=zH n;have h1:(A+B) / 2^n<2:=by rw[Kw hp];omega
    have h2:1≤(A+B) / 2^n:=by rw[V7 hp];omega
    omega
   rw[this,zU];omega
theorem qvf{A B n i:Nat}(hS:A+B<2^n)(h:n≤i):cyB A B i=false:=by
 unfold cyB cy;have h1:=Kk hS (Ka (n:=2) (by omega) h)
 rw[Kf (by omega:A<2^i),Kf (by omega:B<2^i),KN h1];rfl
theorem J7{a:List Bool}{n:Nat}(h:a.length≤n):qf a<2^n:=Kk (ZN a) (Ka (by omega) h)
def Qo(a b:List Bool):List Bool:=qY (max a.length b.length+cy (qf a) (qf b) (max a.length b.length)) (qf a+qf b)
theorem qeA(a b:List Bool):qf (Qo a b)=qf a+qf b:=by
 unfold Qo;rw[Jc];exact Kf (qqg (J7 (Nat.le_max_left ..)) (J7 (Nat.le_max_right ..)))
theorem qbu(a b:List Bool):(Qo a b).length≤max a.length b.length+1:=by
 unfold Qo;rw[j4];have:=qxi (qf a) (qf b) (max a.length b.length)
 omega
theorem qqh(a:List Bool)(i:Nat):(bif decide (0≤(i:Int))then(a[(i:Int).toNat]?).getD false else false)=tb2 (qf a) i:=by
 rw[za (by omega),zf,zg];exact qzc a i
theorem qvg{A B i:Nat}(h:A / 2^(i+1)=B / 2^(i+1))(hx:tb2 A i≠tb2 B i):jy A B=bif tb2 A i then 1 else -1:=by
 have hp:=zH i;rw[zU,← zS,← zS]at h;have h1:=KG A (2^i)
 have h2:=KG B (2^i)
 have h3:=Vf A hp;have h4:=Vf B hp;have hA:=qbs (A / 2^i)
 have hB:=qbs (B / 2^i)
 unfold tb2 at *
 unfold jy;generalize A % 2^i=r at *
 generalize B % 2^i=s at *
 generalize A / 2^i=x at *
 generalize B / 2^i=y at *
 generalize 2^i=P at *
 cases hx1:(x % 2 == 1)with
 | true=>
  cases hy1:(y % 2 == 1)with
  | true=>exact absurd (hx1.trans hy1.symm) hx
  | false=>
   rw[hx1]at hA;rw[hy1]at hB;simp only[Bool.toNat_true,Bool.toNat_false]at hA hB;have hxy:x=y+1:=by omega
   have:P*x=P*y+P:=by rw[hxy,Nat.mul_succ]
   rw[zp (by omega),zp (by omega)];rfl
 | false=>
  cases hy1:(y % 2 == 1)with
  | false=>exact absurd (hx1.trans hy1.symm) hx
  | true=>
   rw[hx1]at hA;rw[hy1]at hB;simp only[Bool.toNat_true,Bool.toNat_false]at hA hB;have hxy:y=x+1:=by omega
   have:P*y=P*x+P:=by rw[hxy,Nat.mul_succ]
   rw[zr (by omega)];rfl
theorem qvh{A B i:Nat}(h:A / 2^(i+1)=B / 2^(i+1))(hx:tb2 A i=tb2 B i):A / 2^i=B / 2^i:=by
 rw[zU,← zS,← zS]at h;have hA:=qbs (A / 2^i)
 have hB:=qbs (B / 2^i)
 unfold tb2 at hx;rw[hx]at hA;omega
theorem qm1(A:Nat):jy A A=0:=by unfold jy;rw[zp (by omega),zr rfl]
end Su
end
section
namespace Su
open Go Fly
noncomputable section
def qch:Stp ((List Int)×Nat×Int×Int×(List T)×Unit):=fun p1=>(bif(decide (p1.2.2.2.1<64))then
 (idx p1.1 p1.2.2.1).bind fun x2=>
 (bif(decide (0≤(IntKind.wrap .u64 p1.2.2.2.1)))then
 (bif((true&&(Nat.beq p1.2.1 p1.2.2.2.2.1.length))&&(Nat.ble (p1.2.2.2.2.1.length+(List.length [(T.s (.bool (decide ((Fly.qB Go.BinOp.and .u64 (Int.fdiv x2 (2^(min (Int.toNat (IntKind.wrap .u64 p1.2.2.2.1)) 64))) 1)=1))))])) 549755813888))then
 some (.inl (p1.1,(List.length (p1.2.2.2.2.1++[(T.s (.bool (decide ((Fly.qB Go.BinOp.and .u64 (Int.fdiv x2 (2^(min (Int.toNat (IntKind.wrap .u64 p1.2.2.2.1)) 64))) 1)=1))))])),p1.2.2.1,(IntKind.wrap .i64 (p1.2.2.2.1+1)),(p1.2.2.2.2.1++[(T.s (.bool (decide ((Fly.qB Go.BinOp.and .u64 (Int.fdiv x2 (2^(min (Int.toNat (IntKind.wrap .u64 p1.2.2.2.1)) 64))) 1)=1))))]),()))
 else none)
 else none)
 else
  some (.inr (p1.1,p1.2.1,p1.2.2.1,p1.2.2.2.1,p1.2.2.2.2.1,())))
def qci(fu:Nat):Stp ((List Int)×Nat×Int×(List T)×Unit):=fun p0=>(bif(decide (p0.2.2.1<(List.length p0.1:Int)))then
 (itP fu (qch) (p0.1,p0.2.1,p0.2.2.1,(0:Int),p0.2.2.2.1,())).bind fun x3=>
 some (.inl (x3.1,x3.2.1,(IntKind.wrap .i64 (x3.2.2.1+1)),x3.2.2.2.2.1,()))
 else
  some (.inr (p0.1,p0.2.1,p0.2.2.1,p0.2.2.2.1,())))
def bOf  (fu:Nat)(l:(List Int)):Option (List Bool) :=
 (itP fu (qci fu) (l,0,(0:Int),[],())).bind fun x4=>
 (Su.sub x4.2.2.2.1 0 x4.2.1).bind fun x5=>
 (jJ 4 x5)
def JG:((List Bool)×(List Bool)×Int×Unit)→Option (((List Bool)×(List Bool)×Int×Unit) ⊕ (Lp ((List Bool)×(List Bool)×Int×Unit) Int)):=fun p0=>(bif(decide (0≤p0.2.2.1))then
 (bif(!(decide ((Q3 p0.1 p0.2.2.1)=(Q3 p0.2.1 p0.2.2.1))))then
 (bif(Q3 p0.1 p0.2.2.1)then
 some (.inr (.ret 1))
 else
  some (.inr (.ret (-1))))
 else
  some (.inl (p0.1,p0.2.1,(IntKind.wrap .i64 (p0.2.2.1-1)),())))
 else
  some (.inr (.exit 0 (p0.1,p0.2.1,p0.2.2.1,()))))
def qzd  (fu:Nat)(a:(List Bool))(b:(List Bool)):Option Int :=
 (itP fu (JG) (a,b,(IntKind.wrap .i64 ((max (List.length a:Int) (List.length b:Int))-1)),())).bind fun x1=>
 (match x1 with
 | .exit i2 p3=>(bif(Nat.beq i2 0)then
  some 0
 else none)
 | .ret o4=>some o4)
def aLf(p0:(List Bool)×(List Bool)×Nat×Bool×Int×(List T)×Unit)(c:Bool):Option (((List Bool)×(List Bool)×Nat×Bool×Int×(List T)×Unit) ⊕ ((List Bool)×(List Bool)×Nat×Bool×Int×(List T)×Unit)) :=
 some (.inl (p0.1,p0.2.1,(List.length (p0.2.2.2.2.2.1++[(T.s (.bool (!(decide ((!(decide ((Q3 p0.1 p0.2.2.2.2.1)=(Q3 p0.2.1 p0.2.2.2.2.1))))=p0.2.2.2.1)))))])),c,(IntKind.wrap .i64 (p0.2.2.2.2.1+1)),(p0.2.2.2.2.2.1++[(T.s (.bool (!(decide ((!(decide ((Q3 p0.1 p0.2.2.2.2.1)=(Q3 p0.2.1 p0.2.2.2.2.1))))=p0.2.2.2.1)))))]),()))
def aY(p0:(List Bool)×(List Bool)×Nat×Bool×Int×(List T)×Unit):=(bif(Q3 p0.2.1 p0.2.2.2.2.1)then aLf p0 p0.2.2.2.1 else aLf p0 false)
def aX(p0:(List Bool)×(List Bool)×Nat×Bool×Int×(List T)×Unit):=(bif(Q3 p0.1 p0.2.2.2.2.1)then(bif p0.2.2.2.1 then aLf p0 true else aY p0)else aY p0)
def aT(p0:(List Bool)×(List Bool)×Nat×Bool×Int×(List T)×Unit) :=
 (bif((true&&(Nat.beq p0.2.2.1 p0.2.2.2.2.2.1.length))&&(Nat.ble (p0.2.2.2.2.2.1.length+(List.length [(T.s (.bool (!(decide ((!(decide ((Q3 p0.1 p0.2.2.2.2.1)=(Q3 p0.2.1 p0.2.2.2.2.1))))=p0.2.2.2.1)))))])) 549755813888))then
 (bif(Q3 p0.1 p0.2.2.2.2.1)then(bif(Q3 p0.2.1 p0.2.2.2.2.1)then aLf p0 true else aX p0)else aX p0)else none)
def Yr:Stp ((List Bool)×(List Bool)×Nat×Bool×Int×(List T)×Unit):=fun p0=>
 (bif(decide (p0.2.2.2.2.1<(List.length p0.1:Int)))then aT p0 else
 (bif(decide (p0.2.2.2.2.1<(List.length p0.2.1:Int)))then aT p0 else
 (bif p0.2.2.2.1 then aT p0 else some (.inr (p0.1,p0.2.1,p0.2.2.1,p0.2.2.2.1,p0.2.2.2.2.1,p0.2.2.2.2.2.1,())))))
def qze  (fu:Nat)(a:(List Bool))(b:(List Bool)):Option (List Bool) :=
 (itP fu (Yr) (a,b,0,false,(0:Int),[],())).bind fun x1=>
 (Su.sub x1.2.2.2.2.2.1 0 x1.2.2.1).bind fun x2=>
 (jJ 4 x2)
theorem qcj(a:List Bool)(i:Nat):Q3 a (i:Int)=tb2 (qf a) i:=qqh a i
theorem qiS(k n:Nat):(qY k n).map eB++[T.s (.bool (tb2 n k))]=(qY (k+1) n).map eB:=by rw[qez,Kg];rfl
theorem qeB(k n:Nat):((qY k n).map eB).length=k:=by rw[zx,j4]
theorem qfQ(a b:List Bool)(m:Nat)(c:Bool)(i:Int)(out:List T):Yr (a,b,m,c,i,out,()) =
 bif decide (i<((a.length:Nat):Int))||(decide (i<((b.length:Nat):Int))||c)then
  (bif Nat.beq m out.length&&Nat.ble (out.length+1) 549755813888 then
    some (.inl (a,b,out.length+1,(Q3 a i&&Q3 b i||Q3 a i&&c||Q3 b i&&c),IntKind.i64.wrap (i+1),out++[T.s (.bool ((Q3 a i != Q3 b i) != c))],()))
  else none)
 else some (.inr (a,b,m,c,i,out,())):=by
 simp only[Yr,aT,aX,aY,aLf,zJ,Vp,z7];generalize Q3 a i=x
 generalize Q3 b i=y
 generalize decide (i<((a.length:Nat):Int))=p
 generalize decide (i<((b.length:Nat):Int))=q
 generalize (Nat.beq m out.length&&Nat.ble (out.length+1) 549755813888)=g
 cases p <;> cases q <;> cases x <;> cases y <;> cases c <;> cases g <;> rfl
def yG(p:List Bool×List Bool):Option (List Bool):=bif Nat.ble (max p.1.length p.2.length+1) 549755813888 then some (Qo p.1 p.2)else none
theorem qiT{a b:List Bool}{i:Nat}(h:i<a.length∨i<b.length∨cyB (qf a) (qf b) i=true)(hi:i+1≤549755813888) :
 Yr (a,b,i,cyB (qf a) (qf b) i,(i:Int),(qY i (qf a+qf b)).map eB,())=some (.inl (a,b,i+1,cyB (qf a) (qf b) (i+1),((i+1:Nat):Int),(qY (i+1) (qf a+qf b)).map eB,())):=by
 rw[qfQ,qeB,qcj,qcj,← qqf,← qqe,qiS,w64 (by omega) (by omega)];have h1:Nat.beq i i=true:=KK _
 have h2:Nat.ble (i+1) 549755813888=true:=by rw[K9];exact hi
 rw[h1,h2];have h3:(decide ((i:Int)<((a.length:Nat):Int))||(decide ((i:Int)<((b.length:Nat):Int))||cyB (qf a) (qf b) i))=true:=by
  rcases h with h | h | h
  · rw[za (by omega)];rfl
  · rw[za (by omega:(i:Int)<((b.length:Nat):Int))];simp
  · rw[h];simp
 rw[h3];rfl
theorem qiU{a b:List Bool}{i:Nat}(h1:a.length≤i)(h2:b.length≤i)(h3:cyB (qf a) (qf b) i=false) :
 Yr (a,b,i,cyB (qf a) (qf b) i,(i:Int),(qY i (qf a+qf b)).map eB,())=some (.inr (a,b,i,cyB (qf a) (qf b) i,(i:Int),(qY i (qf a+qf b)).map eB,())):=by
 rw[qfQ,zi (by omega),zi (by omega),h3];rfl
theorem qfR{a b:List Bool}(hN:max a.length b.length+1≤549755813888):∀k i:Nat,i+k=max a.length b.length →
 ∃f,itP f Yr (a,b,i,cyB (qf a) (qf b) i,(i:Int),(qY i (qf a+qf b)).map eB,())=some (a,b,(Qo a b).length,false,((Qo a b).length:Int),(Qo a b).map eB,())
 | 0,i,hk=>by
  have ha:a.length≤i:=by omega
  have hb:b.length≤i:=by omega
  have hi:max a.length b.length=i:=by omega
  have hL:(Qo a b).length=i+cy (qf a) (qf b) i:=by unfold Qo;rw[j4,hi]
  have hv:Qo a b=qY (i+cy (qf a) (qf b) i) (qf a+qf b):=by unfold Qo;rw[hi]
  rw[hL,hv];cases hc:cyB (qf a) (qf b) i with
  | false=>
   rw[qbt,hc,← hc];have:=qiU ha hb hc
   rw[hc]at this ⊢;exact js this
  | true=>
   rw[qbt,hc];have h1:=qiT (a:=a) (b:=b) (i:=i) (.inr (.inr hc)) (by omega)
   have hS:=qqg (J7 ha) (J7 hb)
   rw[qbt,hc]at hS;have h2:cyB (qf a) (qf b) (i+1)=false:=qvf hS (zw _)
   have h3:=qiU (a:=a) (b:=b) (i:=i+1) (by omega) (by omega) h2
   rw[hc,h2]at h1;rw[h2]at h3;exact jK h1 (js h3)
 | k+1,i,hk=>by
  have h:=qiT (a:=a) (b:=b) (i:=i) (by omega) (by omega)
  exact jK h (qfR hN k (i+1) (by omega))
theorem qvi(p:List Bool×List Bool)(y:List Bool)(hg:(dc (cQ 4 1) (d1 (cQ 4 1))).good p)(h:yG p=some y):∃n,qze n p.1 p.2=some y:=by
 obtain⟨a,b⟩:=p;obtain⟨hle,h⟩:=qi h;have:=soi h;subst this
 have hle:=zm hle;simp only[]at hle ⊢;obtain⟨f,hf⟩:=qfR hle (max a.length b.length) 0 (by omega)
 have e:cyB (qf a) (qf b) 0=false:=by unfold cyB;rw[qvc];rfl
 rw[e]at hf;refine⟨f,?_⟩
 unfold qze;have hf':itP f Yr (a,b,0,false,(0:Int),([]:List T),())=_:=hf
 rw[hf',zd];simp only[];have:=qex (Qo a b)
 rw[zx]at this;rw[this];exact qcg _
def qqi(p:List Bool×List Bool):Option Int:=some (jy (qf p.1) (qf p.2))
theorem qfS(a b:List Bool)(hl:max a.length b.length≤9223372036854775807):∀n:Nat,n≤max a.length b.length→qf a / 2^n=qf b / 2^n →
 ∃f,(itP f JG (a,b,(n:Int)-1,())).bind (fun x1=>(match x1 with
  | .exit i2 p3=>(bif(Nat.beq i2 0)then some 0 else none)
  | .ret o4=>some o4))=some (jy (qf a) (qf b))
 | 0,_,h=>by
  rw[KS,Wm,Wm]at h;rw[h,qm1];obtain⟨f,hf⟩:=js (F:=JG) (s:=(a,b,((0:Nat):Int)-1,())) (r:=Lp.exit 0 (a,b,((0:Nat):Int)-1,())) (by simp only[JG];rw[zi (by omega)];rfl)
  exact⟨f,by rw[hf];rfl⟩
 | n+1,hn,h=>by
  have e0:((n+1:Nat):Int)-1=(n:Int):=by omega
  rw[e0];by_cases hx:tb2 (qf a) n=tb2 (qf b) n
  · obtain⟨f,hf⟩:=qfS a b hl n (by omega) (qvh h hx)
    have hs:JG (a,b,(n:Int),())=some (.inl (a,b,(n:Int)-1,())):=by
     simp only[JG];rw[za (by omega),zf,qcj,qcj,za hx,w64 (by omega) (by omega)];rfl
    exact⟨f+1,by rw[jD,hs];exact hf⟩
  · rw[qvg h hx]
    have hs:JG (a,b,(n:Int),())=some (.inr (.ret (bif tb2 (qf a) n then 1 else -1))):=by
     simp only[JG];rw[za (by omega),zf,qcj,qcj,zi hx];cases tb2 (qf a) n <;> rfl
    obtain⟨f,hf⟩:=js hs;exact⟨f,by rw[hf];rfl⟩
theorem qvj(p:List Bool×List Bool)(y:Int)(hg:(dc (cQ 4 1) (d1 (cQ 4 1))).good p)(h:qqi p=some y):∃n,qzd n p.1 p.2=some y:=by
 obtain⟨a,b⟩:=p;have:=soi h;subst this
 have h1:a.length≤9223372036854775807:=by rw[← jU];exact hg.1.2
 have h2:b.length≤9223372036854775807:=by rw[← jU];exact hg.2.2
 obtain⟨f,hf⟩:=qfS a b (by omega) (max a.length b.length) (zw _) (by rw[KN (J7 (Nat.le_max_left ..)),KN (J7 (Nat.le_max_right ..))])
 refine⟨f,?_⟩
 unfold qzd;simp only[];have e:IntKind.i64.wrap (max ((a.length:Nat):Int) ((b.length:Nat):Int)-1)=((max a.length b.length:Nat):Int)-1:=by
  rw[w64 (by omega) (by omega)];omega
 rw[e];exact hf
noncomputable def wdL:{f:Nat→List Bool // ∀n,f n=qY 64 n}:=Classical.choice ⟨⟨_,fun _=>rfl⟩⟩
noncomputable def wdB(w:Int):List Bool:=wdL.1 w.toNat
theorem qeC(w:Int):wdB w=qY 64 w.toNat:=wdL.2 _
noncomputable def qxj(l:List Int):Option (List Bool):=bif Nat.ble (64*l.length) 549755813888 then some (l.map wdB).flatten else none
theorem qqj{w k:Nat}(hw:w<18446744073709551616)(hk:k<64):decide (Fly.qB BinOp.and .u64 (Int.fdiv (w:Int) (2^(min (Int.toNat (IntKind.u64.wrap (k:Int))) 64))) 1=1)=tb2 w k:=by
 rw[jH (by omega) (by omega),zg,Kz (by omega),qao];have h1:w / 2^k<18446744073709551616:=KW (VA _ _) hw
 have:=qgX (w / 2^k) 1 1 (by decide) h1 (by decide)
 rw[show((1:Nat):Int)=1 from rfl,Nat.pow_one]at this;rw[this];unfold tb2;rcases V5 (w / 2^k)with h | h <;> rw[h] <;> rfl
theorem qqk(l:List Int)(i w:Nat)(hi:l[i]?=some (w:Int))(hw:w<18446744073709551616)(out:List T)(hb:out.length+64≤549755813888):∀(f j k:Nat),k+j=64→j<f →
 itP f qch (l,out.length+k,(i:Int),(k:Int),out++(qY k w).map eB,())=some (l,out.length+64,(i:Int),(64:Int),out++(qY 64 w).map eB,())
 | 0,_,_,_,h=>absurd h (by omega)
 | f+1,0,k,h,_=>by
  have:k=64:=by omega
  subst this;rw[jD];simp only[qch];rw[zi (by omega)];rfl
 | f+1,j+1,k,h,hf=>by
  have ih:=qqk l i w hi hw out hb f j (k+1) (by omega) (by omega)
  rw[jD];have hs:qch (l,out.length+k,(i:Int),(k:Int),out++(qY k w).map eB,())=some (.inl (l,out.length+(k+1),(i:Int),((k+1:Nat):Int),out++(qY (k+1) w).map eB,())):=by
   simp only[qch];rw[za (by omega:(k:Int)<64),zf,yH,hi,zd,qqj hw (by omega),jH (by omega) (by omega),za (by omega),zf,zZ,qiS,w64 (by omega) (by omega)];have e1:(out++(qY k w).map eB).length=out.length+k:=by rw[zJ,qeB]
   have e2:(out++(qY (k+1) w).map eB).length=out.length+(k+1):=by rw[zJ,qeB]
   have h1:Nat.beq (out.length+k) (out.length+k)=true:=KK _
   have h2:Nat.ble (out.length+k+[T.s (.bool (tb2 w k))].length) 549755813888=true:=by rw[K9,Vp];omega
   rw[e1,e2,h1,h2];rfl
  rw[hs];exact ih
def y5(l:List Int)(i:Nat):List Bool:=((l.take i).map fun w=>qY 64 w.toNat).flatten
theorem qcQ(l:List Int)(i:Nat)(h:i<l.length):y5 l (i+1)=y5 l i++qY 64 l[i].toNat:=by
 unfold y5;rw[VE h,Kg,List.flatten_append];simp
theorem qeD(l:List Int)(i:Nat)(h:i≤l.length):(y5 l i).length=64*i:=by
 induction i with
 | zero=>rfl
 | succ i ih=>rw[qcQ l i (by omega),zJ,ih (by omega),j4];omega
theorem qiV(l:List Int)(hl:64*l.length≤549755813888)(hg:∀x∈l,inR .u64 x=true):∀(f j i:Nat),i+j=l.length→j<f →
 itP f (qci (l.length+65)) (l,64*i,(i:Int),(y5 l i).map eB,())=some (l,64*l.length,(l.length:Int),(y5 l l.length).map eB,())
 | 0,_,_,_,h=>absurd h (by omega)
 | f+1,0,i,h,_=>by
  have:i=l.length:=by omega
  subst this;rw[jD];simp only[qci];rw[zi (by omega)];rfl
 | f+1,j+1,i,h,hf=>by
  have ih:=qiV l hl hg f j (i+1) (by omega) (by omega)
  have hi:i<l.length:=by omega
  obtain⟨w,hw,hw2⟩:=YA (hg _ (List.getElem_mem hi))
  have hlen:((y5 l i).map eB).length=64*i:=by rw[zx,qeD l i (by omega)]
  have hin:=qqk l i w (by rw[zl hi,hw]) hw2 ((y5 l i).map eB) (by omega) (l.length+65) 64 0 (by omega) (by omega)
  rw[hlen,Ks]at hin;have hin':itP (l.length+65) qch (l,64*i,(i:Int),(0:Int),(y5 l i).map eB,())=some (l,64*i+64,(i:Int),(64:Int),(y5 l i).map eB++(qY 64 w).map eB,()):=by
   rw[← hin];simp[qY]
  rw[jD];have hs:qci (l.length+65) (l,64*i,(i:Int),(y5 l i).map eB,())=some (.inl (l,64*(i+1),((i+1:Nat):Int),(y5 l (i+1)).map eB,())):=by
   simp only[qci];rw[za (by omega:(i:Int)<((l.length:Nat):Int)),zf,hin',zd];simp only[];rw[w64 (by omega) (by omega),qcQ l i hi,Kg,hw,zg];rfl
  rw[hs];exact ih
theorem qzf(l:List Int)(y:List Bool)(hg:(d1 (cQ 2 1)).good l)(h:qxj l=some y):∃n,bOf n l=some y:=by
 obtain⟨hle,h⟩:=qi h;have:=soi h;subst this
 have hle:64*l.length≤549755813888:=zm hle
 refine⟨l.length+65,?_⟩
 unfold bOf;have:=qiV l hle hg.1 (l.length+65) l.length 0 (by omega) (by omega)
 have h':itP (l.length+65) (qci (l.length+65)) (l,0,(0:Int),([]:List T),())=_:=this
 rw[h',zd];simp only[];have hw:y5 l l.length=(l.map wdB).flatten:=by unfold y5;rw[List.take_length,show wdB=(fun w:Int=>qY 64 w.toNat) from funext qeC]
 have h3:=qex (y5 l l.length)
 rw[zx,qeD l _ (zw _)]at h3;rw[h3,← hw];exact qcg _
end
end Su
end
