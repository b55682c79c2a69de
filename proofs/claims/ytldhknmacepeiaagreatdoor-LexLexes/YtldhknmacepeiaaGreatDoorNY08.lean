/-
  What functions of the program compute, in plain Lean, and that the evaluator finds it.
-/
import Derived.Test.YtldhknmacepeiaaGreatDoorSuXl
import Derived.Test.YtldhknmacepeiaaGreatDoorNY05
import Derived.Test.YtldhknmacepeiaaGreatDoorFlyM
set_option linter.unusedVariables false
set_option linter.unusedSimpArgs false
set_option maxRecDepth 10000
section
namespace Su
open Go Fly
noncomputable section
def qbC:Stp (ByteArray×Nat×Int×(List T)×Unit):=fun p7=>(bif(decide (p7.2.2.1<(ByteArray.size p7.1:Int)))then
 (bif(decide (0≤p7.2.2.1))then
 ((p7.1)[p7.2.2.1.toNat]?).bind fun x8=>
 (bif(!(decide ((UInt8.toNat x8:Int)=10)))then
 some (.inl (p7.1,p7.2.1,(IntKind.wrap .i64 (p7.2.2.1+1)),p7.2.2.2.1,()))
 else
  some (.inr (p7.1,p7.2.1,p7.2.2.1,p7.2.2.2.1,())))
 else none)
 else
  some (.inr (p7.1,p7.2.1,p7.2.2.1,p7.2.2.2.1,())))
abbrev qcr:=(ByteArray×Nat×Int×(List T)×Unit)
def QH(fu:Nat):qcr→Option (qcr ⊕ (Lp qcr ((List (Int×Int×ByteArray×Int×Int))×Int×Int))):=fun p0=>(bif(decide (p0.2.2.1<(ByteArray.size p0.1:Int)))then
 (bif(decide (0≤p0.2.2.1))then
 ((p0.1)[p0.2.2.1.toNat]?).bind fun x1=>
 (bif(decide ((UInt8.toNat x1:Int)=32))then
 some (.inl (p0.1,p0.2.1,(IntKind.wrap .i64 (p0.2.2.1+1)),p0.2.2.2.1,()))
 else
  (bif(decide (0≤p0.2.2.1))then
  ((p0.1)[p0.2.2.1.toNat]?).bind fun x2=>
  (bif(decide ((UInt8.toNat x2:Int)=9))then
  some (.inl (p0.1,p0.2.1,(IntKind.wrap .i64 (p0.2.2.1+1)),p0.2.2.2.1,()))
 else
  (bif(decide (0≤p0.2.2.1))then
  ((p0.1)[p0.2.2.1.toNat]?).bind fun x3=>
  (bif(decide ((UInt8.toNat x3:Int)=10))then
  some (.inl (p0.1,p0.2.1,(IntKind.wrap .i64 (p0.2.2.1+1)),p0.2.2.2.1,()))
 else
  (bif(decide (0≤p0.2.2.1))then
  ((p0.1)[p0.2.2.1.toNat]?).bind fun x4=>
  (bif(decide ((UInt8.toNat x4:Int)=13))then
  some (.inl (p0.1,p0.2.1,(IntKind.wrap .i64 (p0.2.2.1+1)),p0.2.2.2.1,()))
 else
  (bif(decide (0≤p0.2.2.1))then
  ((p0.1)[p0.2.2.1.toNat]?).bind fun x5=>
  (bif(decide ((UInt8.toNat x5:Int)=47))then
  (yP (p0.1,(IntKind.wrap .i64 (p0.2.2.1+1)))).bind fun x6=>
  (bif(decide (x6=47))then
  (itP fu (qbC) (p0.1,p0.2.1,p0.2.2.1,p0.2.2.2.1,())).bind fun x9=>
  some (.inl (x9.1,x9.2.1,x9.2.2.1,x9.2.2.2.1,()))
 else
  (Zj (p0.1,p0.2.2.1)).bind fun x10=>
  (bif(!(decide (x10.2.2=0)))then
  some (.inr (.ret ([],x10.2.2,p0.2.2.1)))
 else
  (bif((true&&(Nat.beq p0.2.1 p0.2.2.2.1.length))&&(Nat.ble (p0.2.2.2.1.length+(List.length [(T.agg [(T.s (.int .u8 x10.1.1)),(T.s (.int .i64 x10.1.2.1)),(T.s (.string x10.1.2.2.1)),(T.s (.int .i32 x10.1.2.2.2.1)),(T.s (.int .u64 x10.1.2.2.2.2))])])) 549755813888))then
  some (.inl (p0.1,(List.length (p0.2.2.2.1++[(T.agg [(T.s (.int .u8 x10.1.1)),(T.s (.int .i64 x10.1.2.1)),(T.s (.string x10.1.2.2.1)),(T.s (.int .i32 x10.1.2.2.2.1)),(T.s (.int .u64 x10.1.2.2.2.2))])])),x10.2.1,(p0.2.2.2.1++[(T.agg [(T.s (.int .u8 x10.1.1)),(T.s (.int .i64 x10.1.2.1)),(T.s (.string x10.1.2.2.1)),(T.s (.int .i32 x10.1.2.2.2.1)),(T.s (.int .u64 x10.1.2.2.2.2))])]),()))
 else none)))
 else
  (Zj (p0.1,p0.2.2.1)).bind fun x11=>
  (bif(!(decide (x11.2.2=0)))then
  some (.inr (.ret ([],x11.2.2,p0.2.2.1)))
 else
  (bif((true&&(Nat.beq p0.2.1 p0.2.2.2.1.length))&&(Nat.ble (p0.2.2.2.1.length+(List.length [(T.agg [(T.s (.int .u8 x11.1.1)),(T.s (.int .i64 x11.1.2.1)),(T.s (.string x11.1.2.2.1)),(T.s (.int .i32 x11.1.2.2.2.1)),(T.s (.int .u64 x11.1.2.2.2.2))])])) 549755813888))then
  some (.inl (p0.1,(List.length (p0.2.2.2.1++[(T.agg [(T.s (.int .u8 x11.1.1)),(T.s (.int .i64 x11.1.2.1)),(T.s (.string x11.1.2.2.1)),(T.s (.int .i32 x11.1.2.2.2.1)),(T.s (.int .u64 x11.1.2.2.2.2))])])),x11.2.1,(p0.2.2.2.1++[(T.agg [(T.s (.int .u8 x11.1.1)),(T.s (.int .i64 x11.1.2.1)),(T.s (.string x11.1.2.2.1)),(T.s (.int .i32 x11.1.2.2.2.1)),(T.s (.int .u64 x11.1.2.2.2.2))])]),()))
 else none)))
 else none))
 else none))
 else none))
 else none))
 else none)
 else
  some (.inr (.exit 0 (p0.1,p0.2.1,p0.2.2.1,p0.2.2.2.1,()))))
def qvT  (fu:Nat)(s:ByteArray):Option ((List (Int×Int×ByteArray×Int×Int))×Int×Int) :=
 (bif(decide (16384<(ByteArray.size s:Int)))then
 some ([],(91:Int),(0:Int))
 else
  (itP fu (QH fu) (s,0,(0:Int),[],())).bind fun x12=>
  (match x12 with
 | .exit i13 p14=>(bif(Nat.beq i13 0)then
  (bif((true&&(Nat.beq p14.2.1 p14.2.2.2.1.length))&&(Nat.ble (p14.2.2.2.1.length+(List.length [(T.agg [(T.s (.int .u8 0)),(T.s (.int .i64 (ByteArray.size p14.1:Int))),(T.s (.string (ByteArray.empty))),(T.s (.int .i32 0)),(T.s (.int .u64 0))])])) 549755813888))then
  (Su.sub (p14.2.2.2.1++[(T.agg [(T.s (.int .u8 0)),(T.s (.int .i64 (ByteArray.size p14.1:Int))),(T.s (.string (ByteArray.empty))),(T.s (.int .i32 0)),(T.s (.int .u64 0))])]) 0 (List.length (p14.2.2.2.1++[(T.agg [(T.s (.int .u8 0)),(T.s (.int .i64 (ByteArray.size p14.1:Int))),(T.s (.string (ByteArray.empty))),(T.s (.int .i32 0)),(T.s (.int .u64 0))])]))).bind fun x15=>
  (unR (rTk) x15).bind fun x16=>
  some (x16,(0:Int),(0:Int))
 else none)
 else none)
 | .ret o17=>some o17))
noncomputable section
def qe2(c:UInt8):Bool:=!(c == 10)
def nlE(S:List UInt8)(i:Nat):Nat:=i+((S.drop i).takeWhile qe2).length
theorem qqW{S:List UInt8}{i:Nat}{c:UInt8}(h:S[i]?=some c)(hc:qe2 c=true):nlE S i=nlE S (i+1):=by
 obtain⟨hi,e⟩:=zn.1 h
 unfold nlE;rw[zG hi,e,VI,hc];simp only[WH,zy];omega
theorem qxo{S:List UInt8}{i:Nat}(h:∀c,S[i]?=some c→qe2 c=false):nlE S i=i:=by
 unfold nlE;by_cases hi:i<S.length
 · rw[zG hi,VI,h _ (zl hi)];rfl
 · rw[VW (by omega)];rfl
theorem qBP{S:List UInt8}{i:Nat}(h:i≤S.length):nlE S i≤S.length:=by
 have:((S.drop i).takeWhile qe2).length≤(S.drop i).length:=List.Sublist.length_le (List.takeWhile_sublist _)
 rw[Kl]at this;unfold nlE;omega
theorem qlJ:∀l:List UInt8,sk true l=(l.takeWhile qe2).length+sk false (l.drop (l.takeWhile qe2).length)
 | []=>rfl
 | c::r=>by
  by_cases h:c=10
  · subst h
    have e:(10::r:List UInt8).takeWhile qe2=[]:=rfl
    rw[e,KF,KR,zF,sk,zr rfl,sk,zr (by rfl)]
  · have hn:qe2 c=true:=by unfold qe2;simpa using h
    rw[VI,hn,sk,zp h,qlJ r];simp only[WH,zy,List.drop_succ_cons];omega
theorem qzH{S:List UInt8}{i:Nat}(h1:S[i]?=some 47)(h2:S[i+1]?=some 47):skE S i=skE S (nlE S i):=by
 obtain⟨g1,e1⟩:=zn.1 h1
 obtain⟨g2,e2⟩:=zn.1 h2
 have e:S.drop i=47::47::S.drop (i+2):=by
  rw[zG g1,e1,zG g2,e2]
 have f1:sk false (S.drop i)=sk true (S.drop i):=by
  rw[e,sk_c,sk_t (by decide),sk_t (by decide)];omega
 unfold skE nlE;rw[f1,qlJ,← List.drop_drop];omega
theorem qvU{S:List UInt8}{i:Nat}{c:UInt8}(h:S[i]?=some c)(hc:qaw c=true):skE S i=skE S (i+1):=by
 obtain⟨hi,e⟩:=zn.1 h
 unfold skE;rw[zG hi,e,sk,zr hc];omega
theorem qqX{S:List UInt8}{i:Nat}{c:UInt8}(h:S[i]?=some c)(hc:qaw c=false)(h2 : ¬(c=47∧S[i+1]?=some 47)):skE S i=i:=by
 obtain⟨hi,e⟩:=zn.1 h
 unfold skE;rw[zG hi,e,sk,zp (by rw[hc];decide),zp]
 · omega
 · rintro⟨a,b⟩
   rw[List.head?_drop]at b;exact h2 ⟨a,b⟩
theorem qzI{S:List UInt8}(hS:S.length≤1000000)(a:Nat)(L:List T):∀(d i:Nat),i+d=S.length→je (d+1) qbC (bs S,a,((i:Nat):Int),L,()) (bs S,a,((nlE S i:Nat):Int),L,()):=fun d=>by
 induction d with
 | zero=>
  intro i hi;rw[qxo fun c h=>by rw[zA (by omega)]at h;cases h];refine je.stop ?_
  unfold qbC;simp only[qe];rw[zi (by omega)];rfl
 | succ d ih=>
  intro i hi;obtain⟨c,hc⟩:∃c,S[i]?=some c:=⟨_,zl (by omega)⟩
  have w:IntKind.i64.wrap (((i:Nat):Int)+1)=((i+1:Nat):Int):=by rw[w64 (by omega) (by omega)];omega
  by_cases h10:c=10
  · rw[qxo fun c' h=>by rw[hc]at h;cases h;rw[h10];rfl]
    refine je.stop (K:=d+1) ?_
    unfold qbC;simp only[qe,zg,qW,hc,zd];rw[bdT (by omega),bdT (by omega),h10];rfl
  · rw[qqW hc (by unfold qe2;simpa using h10)]
    refine je.next ?_ (ih (i+1) (by omega))
    unfold qbC;simp only[qe,zg,qW,hc,zd,w];rw[bdT (by omega),bdT (by omega),bdN,bdF (fun e=>h10 (KJ.1 (show c.toNat=10 by omega)))]
abbrev lxS(S:List UInt8)(acc:List Tk)(i:Nat):ByteArray×(Nat×Int×(List T)×Unit):=(bs S,(acc.map vTk).length,((i:Nat):Int),acc.map vTk,())
theorem qqY{S:List UInt8}(hS:S.length≤16384):∀(d i:Nat) (acc:List Tk) (f:Nat),i≤S.length→S.length-i≤d→S.length<f+i→acc.length≤i →
 ∃r,je (d+1) (QH 2000000) (lxS S acc i) r∧qp7 r=some (qcf acc (yW S f (skE S i))):=fun d=>by
 have fin:∀(i:Nat) (acc:List Tk) (f K:Nat),i=S.length→S.length<f+i→acc.length≤i→∃r,je (K+1) (QH 2000000) (lxS S acc i) r∧qp7 r=some (qcf acc (yW S f (skE S i))):=fun i acc f K hi hf ha=>by
  refine⟨.exit 0 (lxS S acc i),je.stop ?_,?_⟩
  · unfold QH
    simp only[lxS,qe];rw[bdF (by omega)]
  · have hs:skE S i=i:=by have:=qp6 (S:=S) (i:=i) (by omega);omega
    obtain⟨g,rfl⟩:∃g,f=g+1:=⟨f-1,by omega⟩
    rw[hs,yW,zp (by omega)];unfold qcf;rw[zr rfl];have et:[(T.agg [(T.s (.int .u8 0)),(T.s (.int .i64 (ByteArray.size (bs S):Int))),(T.s (.string (ByteArray.empty))),(T.s (.int .i32 0)),(T.s (.int .u64 0))])]=[qu5 S].map vTk:=by rw[qe];rfl
    unfold qp7;simp only[lxS,et];rw[show Nat.beq 0 0=true from rfl,zf,show Nat.beq (acc.map vTk).length (acc.map vTk).length=true from KK _,zo (by rw[zx];simp only[zx,zy,KF];omega),← Kg,qxh];exact obs (qp5 _) rfl
 induction d with
 | zero=>
  intro i acc f h1 h2 h3 h4;exact fin i acc f 0 (by omega) h3 h4
 | succ d ih=>
  intro i acc f h1 h2 h3 h4;by_cases hi:i<S.length
  · obtain⟨c,hc⟩:∃c,S[i]?=some c:=⟨_,zl hi⟩
    have w:IntKind.i64.wrap (((i:Nat):Int)+1)=((i+1:Nat):Int):=by rw[w64 (by omega) (by omega)];omega
    have ne:∀(n:Nat) (m:Int),m=((n:Nat):Int)→n<256→c≠UInt8.ofNat n→¬(((c.toNat:Nat):Int)=m):=fun n m hm hn h e=>h (by rw[show n=c.toNat by omega,Vh])
    by_cases hb:qaw c=true
    · have head:QH 2000000 (lxS S acc i)=some (.inl (lxS S acc (i+1))):=by
       unfold QH;simp only[lxS,qe,zg,qW,hc,zd,w];rw[bdT (by omega),bdT (by omega)];by_cases b1:c=32
       · subst b1;exact bdT (by rfl) _ _
       rw[bdF (ne 32 32 rfl (by omega) b1),bdT (by omega)];by_cases b2:c=9
       · subst b2;exact bdT (by rfl) _ _
       rw[bdF (ne 9 9 rfl (by omega) b2),bdT (by omega)];by_cases b3:c=10
       · subst b3;exact bdT (by rfl) _ _
       rw[bdF (ne 10 10 rfl (by omega) b3),bdT (by omega)];by_cases b4:c=13
       · subst b4;exact bdT (by rfl) _ _
       · exfalso
         unfold qaw at hb;simp[b1,b2,b3,b4]at hb
      obtain⟨r,hr1,hr2⟩:=ih (i+1) acc f (by omega) (by omega) (by omega) (by omega)
      exact⟨r,je.next head hr1,by rw[qvU hc hb];exact hr2⟩
    · have hb:qaw c=false:=by cases h:qaw c with | true=>exact absurd h hb | false=>rfl
      have hb':=hb;unfold qaw at hb';simp only[Bool.or_eq_false_iff,beq_eq_false_iff_ne,ne_eq]at hb';obtain⟨b1,b2,b3,b4⟩:=hb';by_cases hcm:c=47∧S[i+1]?=some 47
      · obtain⟨rfl,hc2⟩:=hcm
        have hj:=qBP (S:=S) (i:=i) (by omega)
        have hj1:i+1≤nlE S i:=by
         rw[qqW hc (by rfl)];unfold nlE;omega
        have head:QH 2000000 (lxS S acc i)=some (.inl (lxS S acc (nlE S i))):=by
         unfold QH;simp only[lxS,qe,zg,qW,hc,zd,w];rw[bdT (by omega),bdT (by omega),bdF (ne 32 32 rfl (by omega) b1),bdT (by omega),bdF (ne 9 9 rfl (by omega) b2),bdT (by omega),bdF (ne 10 10 rfl (by omega) b3),bdT (by omega),bdF (ne 13 13 rfl (by omega) b4),bdT (by omega),bdT (by rfl)];refine obs (J9 S (i+1)) ?_
         have ed:=qhq S (i+1) 47 (by decide)
         rw[show decide ((((atV S (i+1)).toNat:Nat):Int)=47)=true from ed.trans (za hc2),zf];exact obs (qzI (by omega) _ _ (S.length-i) i (by omega) 2000000 (by omega)) rfl
        obtain⟨r,hr1,hr2⟩:=ih (nlE S i) acc f hj (by omega) (by omega) (by omega)
        exact⟨r,je.next head hr1,by rw[qzH hc hc2];exact hr2⟩
      · have hs:=qqX hc hb hcm
        have tok:((Zj (bs S,((i:Nat):Int))).bind fun x10=>(bif(!(decide (x10.2.2=0)))then
         (some (.inr (.ret ([],x10.2.2,((i:Nat):Int)))):Option ((ByteArray×Nat×Int×(List T)×Unit) ⊕ (Lp (ByteArray×Nat×Int×(List T)×Unit) ((List (Int×Int×ByteArray×Int×Int))×Int×Int))))
         else
          (bif((true&&(Nat.beq (acc.map vTk).length (List.length (acc.map vTk))))&&(Nat.ble ((List.length (acc.map vTk))+(List.length [(T.agg [(T.s (.int .u8 x10.1.1)),(T.s (.int .i64 x10.1.2.1)),(T.s (.string x10.1.2.2.1)),(T.s (.int .i32 x10.1.2.2.2.1)),(T.s (.int .u64 x10.1.2.2.2.2))])])) 549755813888))then
          some (.inl (bs S,(List.length ((acc.map vTk)++[(T.agg [(T.s (.int .u8 x10.1.1)),(T.s (.int .i64 x10.1.2.1)),(T.s (.string x10.1.2.2.1)),(T.s (.int .i32 x10.1.2.2.2.1)),(T.s (.int .u64 x10.1.2.2.2.2))])])),x10.2.1,((acc.map vTk)++[(T.agg [(T.s (.int .u8 x10.1.1)),(T.s (.int .i64 x10.1.2.1)),(T.s (.string x10.1.2.2.1)),(T.s (.int .i32 x10.1.2.2.2.1)),(T.s (.int .u64 x10.1.2.2.2.2))])]),()))
         else none)))=bif !(decide ((jV S i).2.2=0))then some (.inr (.ret ([],(jV S i).2.2,((i:Nat):Int))))else some (.inl (bs S,((acc++[(jV S i).1]).map vTk).length,(jV S i).2.1,(acc++[(jV S i).1]).map vTk,())):=by
         refine obs (qzG (by omega) hi) ?_
         rw[show Nat.beq (acc.map vTk).length (acc.map vTk).length=true from KK _,zo (by rw[zx];simp only[zy,KF];omega),Kg];rfl
        have head:QH 2000000 (lxS S acc i)=bif !(decide ((jV S i).2.2=0))then some (.inr (.ret ([],(jV S i).2.2,((i:Nat):Int))))else some (.inl (bs S,((acc++[(jV S i).1]).map vTk).length,(jV S i).2.1,(acc++[(jV S i).1]).map vTk,())):=by
         unfold QH;simp only[lxS,qe,zg,qW,hc,zd,w];rw[bdT (by omega),bdT (by omega),bdF (ne 32 32 rfl (by omega) b1),bdT (by omega),bdF (ne 9 9 rfl (by omega) b2),bdT (by omega),bdF (ne 10 10 rfl (by omega) b3),bdT (by omega),bdF (ne 13 13 rfl (by omega) b4),bdT (by omega)];by_cases h47:c=47
         · rw[bdT (by rw[h47];rfl)]
           refine obs (J9 S (i+1)) ?_
           have ed:=qhq S (i+1) 47 (by decide)
           rw[show decide ((((atV S (i+1)).toNat:Nat):Int)=47)=false from ed.trans (zi fun h=>hcm ⟨h47,h⟩),zj];exact tok
         · rw[bdF (ne 47 47 rfl (by omega) h47)]
           exact tok
        obtain⟨g,rfl⟩:∃g,f=g+1:=⟨f-1,by omega⟩
        by_cases he:(jV S i).2.2=0
        · obtain⟨k,e1,e2,e3⟩:=qiQ hi he
          obtain⟨r,hr1,hr2⟩:=ih k (acc++[(jV S i).1]) g e3 (by omega) (by omega) (by rw[zJ,Vp];omega)
          refine⟨r,je.next (head.trans ?_) hr1,hr2.trans ?_⟩
          · rw[bdN,bdT he,e1]
          · congr 1
            rw[hs,yW,zr hi,zr he,e1,zg];unfold qcf;by_cases hq:(yW S g (skE S k)).2.1=0
            · rw[zr hq,zr hq,zr rfl]
              rw[zZ];rfl
            · rw[zp hq,zp hq,zp hq]
        · refine⟨.ret ([],(jV S i).2.2,((i:Nat):Int)),je.stop (K:=d+1) (head.trans (by rw[bdN,bdF he])),?_⟩
          rw[hs,yW,zr hi,zp he];unfold qcf;rw[zp he];rfl
  · exact fin i acc f (d+1) (by omega) h3 h4
theorem qvV(S:List UInt8)(f i:Nat):qcf [] (yW S f i)=yW S f i:=by
 unfold qcf;by_cases hq:(yW S f i).2.1=0
 · rw[zr hq,zK,← qp9 _ _ hq]
 · rw[zp hq]
   have:∀f i,(yW S f i).2.1≠0→(yW S f i).1=[]:=by
    intro f;induction f with
    | zero=>intro i h;exact absurd rfl h
    | succ f ih=>
     intro i h;unfold yW at h ⊢
     split
     · rename_i h1
       rw[zr h1]at h;split
       · rename_i h2
         rw[zr h2]at h;split
         · rename_i h3
           rw[zr h3]at h;exact absurd rfl h
         · rfl
       · rfl
     · rename_i h1
       rw[zp h1]at h;exact absurd rfl h
   exact Prod.ext (this _ _ hq).symm rfl
def qcs(s:ByteArray):Option (List Tk×Int×Int):=bif okS []then some (qbp (lb s))else none
theorem qqZ(s:ByteArray):qcs s=some (qbp (lb s)):=by unfold qcs;rw[ZK];rfl
theorem qvW(s:ByteArray)(y:List Tk×Int×Int)(hg:(d1 cS).good s)(h:qcs s=some y):∃n,qvT n s=some y:=by
 clear hg;rw[qqZ]at h;refine⟨2000000,?_⟩
 revert h;refine onB (P:=fun s=>some (qbp (lb s))=some y→qvT 2000000 s=some y) (fun S h=>?_) s
 have:=soi h;subst this
 rw[jB];unfold qbp qvT;by_cases hS:16384<S.length
 · rw[zr hS,bdT (by rw[qe];omega)]
 · rw[zp hS,bdF (by rw[qe];omega)]
   have e0:skE S 0=sk false S:=by unfold skE;rw[KR,zF]
   obtain⟨r,hr1,hr2⟩:=qqY (S:=S) (by omega) S.length 0 [] (S.length+1) (by omega) (by omega) (by omega) (by simp)
   rw[qvV,e0]at hr2;refine obs (hr1 2000000 (by omega)) ?_
   rw[← hr2];cases r <;> rfl
end
end
end Su
end
section
namespace Su
open Go Fly
noncomputable section
def qbD:(ByteArray×Int×Int×Unit)→Option ((ByteArray×Int×Int×Unit) ⊕ (Lp (ByteArray×Int×Int×Unit) Bool)):=fun p0=>(bif(decide (p0.2.2.1<(ByteArray.size p0.1:Int)))then
 (bif(decide (0≤p0.2.2.1))then
 ((p0.1)[p0.2.2.1.toNat]?).bind fun x1=>
 (bif(decide (48≤(UInt8.toNat x1:Int)))then
 (bif(decide (0≤p0.2.2.1))then
 ((p0.1)[p0.2.2.1.toNat]?).bind fun x2=>
 (bif(decide ((UInt8.toNat x2:Int)≤57))then
 (bif(decide (45<(IntKind.wrap .i64 (p0.2.1+1))))then
 some (.inr (.ret true))
 else
  some (.inl (p0.1,(IntKind.wrap .i64 (p0.2.1+1)),(IntKind.wrap .i64 (p0.2.2.1+1)),())))
 else
  (bif(decide (0≤p0.2.2.1))then
  ((p0.1)[p0.2.2.1.toNat]?).bind fun x3=>
  (bif(decide ((UInt8.toNat x3:Int)=46))then
  (bif(decide (45<(IntKind.wrap .i64 (p0.2.1+1))))then
  some (.inr (.ret true))
 else
  some (.inl (p0.1,(IntKind.wrap .i64 (p0.2.1+1)),(IntKind.wrap .i64 (p0.2.2.1+1)),())))
 else
  (bif(decide (0≤p0.2.2.1))then
  ((p0.1)[p0.2.2.1.toNat]?).bind fun x4=>
  (bif(decide ((UInt8.toNat x4:Int)=101))then
  (bif(decide (45<(IntKind.wrap .i64 (p0.2.1+1))))then
  some (.inr (.ret true))
 else
  some (.inl (p0.1,(IntKind.wrap .i64 (p0.2.1+1)),(IntKind.wrap .i64 (p0.2.2.1+1)),())))
 else
  (bif(decide (0≤p0.2.2.1))then
  ((p0.1)[p0.2.2.1.toNat]?).bind fun x5=>
  (bif(decide ((UInt8.toNat x5:Int)=69))then
  (bif(decide (45<(IntKind.wrap .i64 (p0.2.1+1))))then
  some (.inr (.ret true))
 else
  some (.inl (p0.1,(IntKind.wrap .i64 (p0.2.1+1)),(IntKind.wrap .i64 (p0.2.2.1+1)),())))
 else
  (bif(decide (0≤p0.2.2.1))then
  ((p0.1)[p0.2.2.1.toNat]?).bind fun x6=>
  (bif(decide ((UInt8.toNat x6:Int)=45))then
  (bif(decide (45<(IntKind.wrap .i64 (p0.2.1+1))))then
  some (.inr (.ret true))
 else
  some (.inl (p0.1,(IntKind.wrap .i64 (p0.2.1+1)),(IntKind.wrap .i64 (p0.2.2.1+1)),())))
 else
  (bif(decide (0≤p0.2.2.1))then
  ((p0.1)[p0.2.2.1.toNat]?).bind fun x7=>
  (bif(decide ((UInt8.toNat x7:Int)=43))then
  (bif(decide (45<(IntKind.wrap .i64 (p0.2.1+1))))then
  some (.inr (.ret true))
 else
  some (.inl (p0.1,(IntKind.wrap .i64 (p0.2.1+1)),(IntKind.wrap .i64 (p0.2.2.1+1)),())))
 else
  some (.inl (p0.1,(0:Int),(IntKind.wrap .i64 (p0.2.2.1+1)),())))
 else none))
 else none))
 else none))
 else none))
 else none))
 else none)
 else
  (bif(decide (0≤p0.2.2.1))then
  ((p0.1)[p0.2.2.1.toNat]?).bind fun x8=>
  (bif(decide ((UInt8.toNat x8:Int)=46))then
  (bif(decide (45<(IntKind.wrap .i64 (p0.2.1+1))))then
  some (.inr (.ret true))
 else
  some (.inl (p0.1,(IntKind.wrap .i64 (p0.2.1+1)),(IntKind.wrap .i64 (p0.2.2.1+1)),())))
 else
  (bif(decide (0≤p0.2.2.1))then
  ((p0.1)[p0.2.2.1.toNat]?).bind fun x9=>
  (bif(decide ((UInt8.toNat x9:Int)=101))then
  (bif(decide (45<(IntKind.wrap .i64 (p0.2.1+1))))then
  some (.inr (.ret true))
 else
  some (.inl (p0.1,(IntKind.wrap .i64 (p0.2.1+1)),(IntKind.wrap .i64 (p0.2.2.1+1)),())))
 else
  (bif(decide (0≤p0.2.2.1))then
  ((p0.1)[p0.2.2.1.toNat]?).bind fun x10=>
  (bif(decide ((UInt8.toNat x10:Int)=69))then
  (bif(decide (45<(IntKind.wrap .i64 (p0.2.1+1))))then
  some (.inr (.ret true))
 else
  some (.inl (p0.1,(IntKind.wrap .i64 (p0.2.1+1)),(IntKind.wrap .i64 (p0.2.2.1+1)),())))
 else
  (bif(decide (0≤p0.2.2.1))then
  ((p0.1)[p0.2.2.1.toNat]?).bind fun x11=>
  (bif(decide ((UInt8.toNat x11:Int)=45))then
  (bif(decide (45<(IntKind.wrap .i64 (p0.2.1+1))))then
  some (.inr (.ret true))
 else
  some (.inl (p0.1,(IntKind.wrap .i64 (p0.2.1+1)),(IntKind.wrap .i64 (p0.2.2.1+1)),())))
 else
  (bif(decide (0≤p0.2.2.1))then
  ((p0.1)[p0.2.2.1.toNat]?).bind fun x12=>
  (bif(decide ((UInt8.toNat x12:Int)=43))then
  (bif(decide (45<(IntKind.wrap .i64 (p0.2.1+1))))then
  some (.inr (.ret true))
 else
  some (.inl (p0.1,(IntKind.wrap .i64 (p0.2.1+1)),(IntKind.wrap .i64 (p0.2.2.1+1)),())))
 else
  some (.inl (p0.1,(0:Int),(IntKind.wrap .i64 (p0.2.2.1+1)),())))
 else none))
 else none))
 else none))
 else none))
 else none))
 else none)
 else
  some (.inr (.exit 0 (p0.1,p0.2.1,p0.2.2.1,()))))
def qvX  (fu:Nat)(s:ByteArray):Option Bool :=
 (itP fu (qbD) (s,(0:Int),(0:Int),())).bind fun x13=>
 (match x13 with
 | .exit i14 p15=>(bif(Nat.beq i14 0)then
  some false
 else none)
 | .ret o16=>some o16)
def ZS:(ByteArray×Int×Unit)→Option ((ByteArray×Int×Unit) ⊕ (Lp (ByteArray×Int×Unit) Bool)):=fun p0=>(bif(decide ((IntKind.wrap .i64 (p0.2.1+4))<(ByteArray.size p0.1:Int)))then
 (bif(decide (0≤p0.2.1))then
 ((p0.1)[p0.2.1.toNat]?).bind fun x1=>
 (bif(decide ((UInt8.toNat x1:Int)=101))then
 (bif(decide (0≤(IntKind.wrap .i64 (p0.2.1+2))))then
 ((p0.1)[(Int.toNat (IntKind.wrap .i64 (p0.2.1+2)))]?).bind fun x2=>
 (bif(decide (48≤(UInt8.toNat x2:Int)))then
 (bif(decide (0≤(IntKind.wrap .i64 (p0.2.1+2))))then
 ((p0.1)[(Int.toNat (IntKind.wrap .i64 (p0.2.1+2)))]?).bind fun x3=>
 (bif(decide ((UInt8.toNat x3:Int)≤57))then
 (bif(decide (0≤(IntKind.wrap .i64 (p0.2.1+3))))then
 ((p0.1)[(Int.toNat (IntKind.wrap .i64 (p0.2.1+3)))]?).bind fun x4=>
 (bif(decide (48≤(UInt8.toNat x4:Int)))then
 (bif(decide (0≤(IntKind.wrap .i64 (p0.2.1+3))))then
 ((p0.1)[(Int.toNat (IntKind.wrap .i64 (p0.2.1+3)))]?).bind fun x5=>
 (bif(decide ((UInt8.toNat x5:Int)≤57))then
 (bif(decide (0≤(IntKind.wrap .i64 (p0.2.1+4))))then
 ((p0.1)[(Int.toNat (IntKind.wrap .i64 (p0.2.1+4)))]?).bind fun x6=>
 (bif(decide (48≤(UInt8.toNat x6:Int)))then
 (bif(decide (0≤(IntKind.wrap .i64 (p0.2.1+4))))then
 ((p0.1)[(Int.toNat (IntKind.wrap .i64 (p0.2.1+4)))]?).bind fun x7=>
 (bif(decide ((UInt8.toNat x7:Int)≤57))then
 some (.inr (.ret true))
 else
  some (.inl (p0.1,(IntKind.wrap .i64 (p0.2.1+1)),())))
 else none)
 else
  some (.inl (p0.1,(IntKind.wrap .i64 (p0.2.1+1)),())))
 else none)
 else
  some (.inl (p0.1,(IntKind.wrap .i64 (p0.2.1+1)),())))
 else none)
 else
  some (.inl (p0.1,(IntKind.wrap .i64 (p0.2.1+1)),())))
 else none)
 else
  some (.inl (p0.1,(IntKind.wrap .i64 (p0.2.1+1)),())))
 else none)
 else
  some (.inl (p0.1,(IntKind.wrap .i64 (p0.2.1+1)),())))
 else none)
 else
  (bif(decide (0≤p0.2.1))then
  ((p0.1)[p0.2.1.toNat]?).bind fun x8=>
  (bif(decide ((UInt8.toNat x8:Int)=69))then
  (bif(decide (0≤(IntKind.wrap .i64 (p0.2.1+2))))then
  ((p0.1)[(Int.toNat (IntKind.wrap .i64 (p0.2.1+2)))]?).bind fun x9=>
  (bif(decide (48≤(UInt8.toNat x9:Int)))then
  (bif(decide (0≤(IntKind.wrap .i64 (p0.2.1+2))))then
  ((p0.1)[(Int.toNat (IntKind.wrap .i64 (p0.2.1+2)))]?).bind fun x10=>
  (bif(decide ((UInt8.toNat x10:Int)≤57))then
  (bif(decide (0≤(IntKind.wrap .i64 (p0.2.1+3))))then
  ((p0.1)[(Int.toNat (IntKind.wrap .i64 (p0.2.1+3)))]?).bind fun x11=>
  (bif(decide (48≤(UInt8.toNat x11:Int)))then
  (bif(decide (0≤(IntKind.wrap .i64 (p0.2.1+3))))then
  ((p0.1)[(Int.toNat (IntKind.wrap .i64 (p0.2.1+3)))]?).bind fun x12=>
  (bif(decide ((UInt8.toNat x12:Int)≤57))then
  (bif(decide (0≤(IntKind.wrap .i64 (p0.2.1+4))))then
  ((p0.1)[(Int.toNat (IntKind.wrap .i64 (p0.2.1+4)))]?).bind fun x13=>
  (bif(decide (48≤(UInt8.toNat x13:Int)))then
  (bif(decide (0≤(IntKind.wrap .i64 (p0.2.1+4))))then
  ((p0.1)[(Int.toNat (IntKind.wrap .i64 (p0.2.1+4)))]?).bind fun x14=>
  (bif(decide ((UInt8.toNat x14:Int)≤57))then
  some (.inr (.ret true))
 else
  some (.inl (p0.1,(IntKind.wrap .i64 (p0.2.1+1)),())))
 else none)
 else
  some (.inl (p0.1,(IntKind.wrap .i64 (p0.2.1+1)),())))
 else none)
 else
  some (.inl (p0.1,(IntKind.wrap .i64 (p0.2.1+1)),())))
 else none)
 else
  some (.inl (p0.1,(IntKind.wrap .i64 (p0.2.1+1)),())))
 else none)
 else
  some (.inl (p0.1,(IntKind.wrap .i64 (p0.2.1+1)),())))
 else none)
 else
  some (.inl (p0.1,(IntKind.wrap .i64 (p0.2.1+1)),())))
 else none)
 else
  some (.inl (p0.1,(IntKind.wrap .i64 (p0.2.1+1)),())))
 else none))
 else none)
 else
  some (.inr (.exit 0 (p0.1,p0.2.1,()))))
def qvY  (fu:Nat)(s:ByteArray):Option Bool :=
 (itP fu (ZS) (s,(0:Int),())).bind fun x15=>
 (match x15 with
 | .exit i16 p17=>(bif(Nat.beq i16 0)then
  some false
 else none)
 | .ret o18=>some o18)
def qdp:((List (Int×Int×ByteArray×Int×Int))×(List (Int×Int×ByteArray×Int×Int))×Int×Unit)→Option (((List (Int×Int×ByteArray×Int×Int))×(List (Int×Int×ByteArray×Int×Int))×Int×Unit) ⊕ (Lp ((List (Int×Int×ByteArray×Int×Int))×(List (Int×Int×ByteArray×Int×Int))×Int×Unit) Bool)):=fun p0=>(bif(decide (p0.2.2.1<(List.length p0.1:Int)))then
 (idx p0.1 p0.2.2.1).bind fun x1=>
 (idx p0.2.1 p0.2.2.1).bind fun x2=>
 (bif(!((decide (x1.1=x2.1))&&((decide (x1.2.1=x2.2.1))&&((decide (x1.2.2.1=x2.2.2.1))&&((decide (x1.2.2.2.1=x2.2.2.2.1))&&((decide (x1.2.2.2.2=x2.2.2.2.2))&&true))))))then
 some (.inr (.ret false))
 else
  some (.inl (p0.1,p0.2.1,(IntKind.wrap .i64 (p0.2.2.1+1)),())))
 else
  some (.inr (.exit 0 (p0.1,p0.2.1,p0.2.2.1,()))))
def qvZ  (fu:Nat)(a:(List (Int×Int×ByteArray×Int×Int)))(b:(List (Int×Int×ByteArray×Int×Int))):Option Bool :=
 (bif(!(decide ((List.length a:Int)=(List.length b:Int))))then
 some false
 else
  (itP fu (qdp) (a,b,(0:Int),())).bind fun x3=>
  (match x3 with
 | .exit i4 p5=>(bif(Nat.beq i4 0)then
  some true
 else none)
 | .ret o6=>some o6))
noncomputable section
theorem pcB{α:Type}{P:α→Prop}{c:Bool}{a b:α}(ha:P a)(hb:P b):P (bif c then a else b):=by cases c <;> assumption
abbrev FaR:=(ByteArray×Int×Int×Unit) ⊕ (Lp (ByteArray×Int×Int×Unit) Bool)
def qv0(S:List UInt8)(i:Nat)(x:Option FaR):Prop:=x=some (.inr (.ret true))∨∃n:Nat,n≤i+1∧x=some (.inl (bs S,((n:Nat):Int),((i+1:Nat):Int),()))
theorem qq0{S:List UInt8}(hS:S.length≤1000000){i n:Nat}(hi:i<S.length)(hn:n≤i):qv0 S i (qbD (bs S,((n:Nat):Int),((i:Nat):Int),())):=by
 obtain⟨c,hc⟩:∃c,S[i]?=some c:=⟨_,zl hi⟩
 have w:IntKind.i64.wrap (((i:Nat):Int)+1)=((i+1:Nat):Int):=by rw[w64 (by omega) (by omega)];omega
 have w1:IntKind.i64.wrap (((n:Nat):Int)+1)=((n+1:Nat):Int):=by rw[w64 (by omega) (by omega)];omega
 have z:decide ((0:Int)≤((i:Nat):Int))=true:=za (by omega)
 have z0:decide (((i:Nat):Int)<((S.length:Nat):Int))=true:=za (by omega)
 unfold qbD;simp only[qe,zg,qW,hc,zd,w,w1,z,z0,zf];have o1:qv0 S i (some (.inr (.ret true))):=.inl rfl
 have o2:qv0 S i (some (.inl (bs S,((n+1:Nat):Int),((i+1:Nat):Int),()))):=.inr ⟨n+1,by omega,rfl⟩
 have o3:qv0 S i (some (.inl (bs S,(0:Int),((i+1:Nat):Int),()))):=.inr ⟨0,by omega,rfl⟩
 repeat' first | exact o1 | exact o2 | exact o3 | apply pcB
theorem qv1{S:List UInt8}(hS:S.length≤1000000):∀(d i n:Nat),i+d=S.length→n≤i→∃r,je (d+1) qbD (bs S,((n:Nat):Int),((i:Nat):Int),()) r∧∃b,qqN r=some b:=fun d=>by
 induction d with
 | zero=>
  intro i n hi hn;refine⟨.exit 0 (bs S,((n:Nat):Int),((i:Nat):Int),()),je.stop ?_,false,rfl⟩
  unfold qbD;simp only[qe];rw[bdF (by omega)]
 | succ d ih=>
  intro i n hi hn;rcases qq0 hS (show i<S.length by omega) hn with h | ⟨n',hn',h⟩
  · exact⟨_,je.stop (K:=d+1) h,true,rfl⟩
  · obtain⟨r,hr,hb⟩:=ih (i+1) n' (by omega) hn'
    exact⟨r,je.next h hr,hb⟩
def qq1:{f:ByteArray→Option Bool // ∀s,f s=qvX 2000000 s}:=Classical.choice ⟨⟨_,fun _=>rfl⟩⟩
def qht(s:ByteArray):Option Bool:=qq1.1 s
theorem qv2(s:ByteArray)(y:Bool)(hg:(d1 cS).good s)(h:qht s=some y):∃n,qvX n s=some y:=⟨2000000,by rw[← qq1.2];exact h⟩
theorem qzJ{S:List UInt8}(hS:S.length≤1000000):∃b,qht (bs S)=some b:=by
 obtain⟨r,hr,b,hb⟩:=qv1 hS S.length 0 0 (by omega) (by omega)
 refine⟨b,(qq1.2 _).trans ?_⟩
 unfold qvX;exact obs (hr 2000000 (by omega)) (by cases r <;> exact hb)
def qzK(S:List UInt8)(i:Nat)(x:Option ((ByteArray×Int×Unit) ⊕ (Lp (ByteArray×Int×Unit) Bool))):Prop:=x=some (.inr (.ret true))∨x=some (.inl (bs S,((i+1:Nat):Int),()))
theorem qq2{S:List UInt8}(hS:S.length≤1000000){i:Nat}(hi:i+4<S.length):qzK S i (ZS (bs S,((i:Nat):Int),())):=by
 obtain⟨c,hc⟩:∃c,S[i]?=some c:=⟨_,zl (by omega)⟩
 obtain⟨c2,hc2⟩:∃c,S[i+2]?=some c:=⟨_,zl (by omega)⟩
 obtain⟨c3,hc3⟩:∃c,S[i+3]?=some c:=⟨_,zl (by omega)⟩
 obtain⟨c4,hc4⟩:∃c,S[i+4]?=some c:=⟨_,zl (by omega)⟩
 have w:IntKind.i64.wrap (((i:Nat):Int)+1)=((i+1:Nat):Int):=by rw[w64 (by omega) (by omega)];omega
 have w2:IntKind.i64.wrap (((i:Nat):Int)+2)=((i+2:Nat):Int):=by rw[w64 (by omega) (by omega)];omega
 have w3:IntKind.i64.wrap (((i:Nat):Int)+3)=((i+3:Nat):Int):=by rw[w64 (by omega) (by omega)];omega
 have w4:IntKind.i64.wrap (((i:Nat):Int)+4)=((i+4:Nat):Int):=by rw[w64 (by omega) (by omega)];omega
 have z:∀k:Nat,decide ((0:Int)≤((k:Nat):Int))=true:=fun k=>za (by omega)
 have z0:decide (((i+4:Nat):Int)<((S.length:Nat):Int))=true:=za (by omega)
 unfold ZS;simp only[qe,w,w2,w3,w4,zg,qW,hc,hc2,hc3,hc4,zd,z,z0,zf];have o1:qzK S i (some (.inr (.ret true))):=.inl rfl
 have o2:qzK S i (some (.inl (bs S,((i+1:Nat):Int),()))):=.inr rfl
 repeat' first | exact o1 | exact o2 | apply pcB
theorem qq3{S:List UInt8}(hS:S.length≤1000000):∀(d i:Nat),S.length≤i+d→i≤S.length→∃r,je (d+1) ZS (bs S,((i:Nat):Int),()) r∧∃b,qqN r=some b:=fun d=>by
 have fin:∀(i K:Nat),¬i+4<S.length→i≤S.length→∃r,je (K+1) ZS (bs S,((i:Nat):Int),()) r∧∃b,qqN r=some b:=fun i K h1 h2=>by
  refine⟨.exit 0 (bs S,((i:Nat):Int),()),je.stop ?_,false,rfl⟩
  have w4:IntKind.i64.wrap (((i:Nat):Int)+4)=((i+4:Nat):Int):=by rw[w64 (by omega) (by omega)];omega
  unfold ZS;simp only[qe,w4];rw[bdF (by omega)]
 induction d with
 | zero=>
  intro i h1 h2;exact fin i 0 (by omega) h2
 | succ d ih=>
  intro i h1 h2;by_cases hi:i+4<S.length
  · rcases qq2 hS hi with h | h
    · exact⟨_,je.stop (K:=d+1) h,true,rfl⟩
    · obtain⟨r,hr,hb⟩:=ih (i+1) (by omega) (by omega)
      exact⟨r,je.next h hr,hb⟩
  · exact fin i (d+1) hi h2
def qq4:{f:ByteArray→Option Bool // ∀s,f s=qvY 2000000 s}:=Classical.choice ⟨⟨_,fun _=>rfl⟩⟩
def qhu(s:ByteArray):Option Bool:=qq4.1 s
theorem qv3(s:ByteArray)(y:Bool)(hg:(d1 cS).good s)(h:qhu s=some y):∃n,qvY n s=some y:=⟨2000000,by rw[← qq4.2];exact h⟩
theorem qzL{S:List UInt8}(hS:S.length≤1000000):∃b,qhu (bs S)=some b:=by
 obtain⟨r,hr,b,hb⟩:=qq3 hS S.length 0 (by omega) (by omega)
 refine⟨b,(qq4.2 _).trans ?_⟩
 unfold qvY;exact obs (hr 2000000 (by omega)) (by cases r <;> exact hb)
theorem qv4{l:List Tk}(hl:l.length≤1000000):∀(d i:Nat),i+d=l.length→∃r,je (d+1) qdp (l,l,((i:Nat):Int),()) r∧r = .exit 0 (l,l,((l.length:Nat):Int),()):=fun d=>by
 induction d with
 | zero=>
  intro i hi;obtain rfl:i=l.length:=by omega
  refine⟨_,je.stop ?_,rfl⟩
  unfold qdp;simp only[];rw[bdF (by omega)]
 | succ d ih=>
  intro i hi;have w:IntKind.i64.wrap (((i:Nat):Int)+1)=((i+1:Nat):Int):=by rw[w64 (by omega) (by omega)];omega
  obtain⟨t,ht⟩:∃t,l[i]?=some t:=⟨_,zl (by omega)⟩
  obtain⟨r,hr,he⟩:=ih (i+1) (by omega)
  refine⟨r,je.next ?_ hr,he⟩
  unfold qdp;simp only[yH,ht,zd,w,Wy,Bool.and_true,Wr,zj];rw[bdT (by omega)]
open Classical in
def qq5:{f:List Tk×List Tk→Option Bool // ∀p,f p=if p.1=p.2∧p.1.length≤1000000 then some true else none}:=Classical.choice ⟨⟨_,fun _=>rfl⟩⟩
def qhv(p:List Tk×List Tk):Option Bool:=qq5.1 p
theorem qzM{l:List Tk}(h:l.length≤1000000):qhv (l,l)=some true:=(qq5.2 _).trans (zr ⟨rfl,h⟩)
theorem qv5(p:List Tk×List Tk)(y:Bool)(hg:(dc (cL rTk) (d1 (cL rTk))).good p)(h:qhv p=some y):∃n,qvZ n p.1 p.2=some y:=by
 obtain⟨a,b⟩:=p;have hq:(if a=b∧a.length≤1000000 then some true else none)=some y:=(qq5.2 _).symm.trans h
 by_cases hc:a=b∧a.length≤1000000
 · rw[zr hc]at hq
   obtain⟨rfl,hl⟩:=hc;have hq:=soi hq;subst hq;obtain⟨r,hr,rfl⟩:=qv4 hl a.length 0 (by omega)
   refine⟨2000000,?_⟩
   show qvZ 2000000 a a=_
   unfold qvZ;rw[za rfl];exact obs (hr 2000000 (by omega)) rfl
 · rw[zp hc]at hq;cases hq
end
end
end Su
end
section
namespace Fly
open Go
section
variable {P:Program} {n:Nat} {X:Cx} {L:Lo} {V:qb} {G:Own} {Q:Value→qb→Own→Prop}
variable {ty:TypeId} {pos:String} {af:Array Edge} {gd:Option (Nat×Bool)} {ds:Option Tmp}
theorem QI{t:TypeId}{x:Operand}{s:ByteArray}{ts:Array TypeId}(hx:ev L x=some (.string s))(ht:ts[0]?=some t)(hu:P.underlying t=some .string)(k':Q (.int .i64 (s.size:Int)) V G) :
 Opr P n X L V G ⟨ds,.call { callee:=.builtin .len,args:=#[x],argTypes:=ts },ty,pos,af,gd⟩ Q:=by
 refine qC (fun a w ha=>?_) k'
 simp[execOp,resolve,invoke,builtin,Builtin.len_,ht,ha.ev hx,run_underlying hu,goInt]
theorem qm9{t:TypeId}{x lo hi:Operand}{s:ByteArray}{i k:Int}(hx:ev L x=some (.string s))(hl:ev L lo=some (.int .i64 i))(hh:ev L hi=some (.int .i64 k))(hu:P.underlying t=some .string)(h0:0≤i)(h1:i≤k)(h2:k≤(s.size:Int))
 (k':Q (.string (s.extract i.toNat k.toNat)) V G):Opr P n X L V G ⟨ds,.slice t x (some lo) (some hi) none,ty,pos,af,gd⟩ Q:=by
 refine qC (fun ac w ha=>?_) k'
 have h3:0≤k:=by omega
 simp[execOp,ha.ev hx,ha.ev hl,ha.ev hh,Instr.sliceAt,Instr.slice,run_underlying hu,Instr.sliceBounds,Instr.sliceBound,asIntOf,h0,h2,h3];intro h;exact absurd h (by omega)
theorem qq6{w:World}{r p:Nat}{s:ByteArray}(hb:w.heap[r]?=some (.stringIter s p)):(getObj r).run P w = .ok (.stringIter s p) w:=by simp[getObj,Sem.run,hb]
theorem qzN{w:World}{r p:Nat}{s:ByteArray}(o:Obj)(hb:w.heap[r]?=some (.stringIter s p)):(setObj r o).run P w = .ok () { w with heap:=w.heap.setIfInBounds r o }:=by simp[setObj,Sem.run,hb]
theorem qna{t:TypeId}{x:Operand}{s:ByteArray}(hx:ev L x=some (.string s))(hu:P.underlying t=some .string)(k:∀b,Q (.pointer (some ⟨b,0,none⟩)) V ((b,.stringIter s 0)::G)):Opr P n X L V G ⟨ds,.range t x,ty,pos,af,gd⟩ Q:=fun a ha w hw=>
 .inl ⟨_,_,V,_,.inl (by simp[execOp,ha.ev hx,Instr.range,run_underlying hu,newObj];rfl),k w.heap.size,hw.alloc _⟩
theorem qeJ{x:Operand}{s:ByteArray}{b p wd c:Nat}{G':Own}(hx:ev L x=some (.pointer (some ⟨b,0,none⟩)))(hU:Upd G b (.stringIter s p) (.stringIter s (p+wd)) G')(hp:p<s.size)(hd:Utf8.decode s p=(c,wd))
 (k:Q (.tuple #[.bool true,.int .i64 (p:Int),.int .i32 (c:Int)]) V G'):Opr P n X L V G ⟨ds,.next x true,ty,pos,af,gd⟩ Q:=fun a ha w hw=>by
 have hg:w.heap[b]?=some (.stringIter s p):=hw.own _ hU.has.mem
 refine .inl ⟨_,_,V,G',.inl ?_,k,hw.upd hU⟩
 simp[execOp,ha.ev hx,Instr.next,qq6 hg,hp,hd,qzN _ hg,goInt]
theorem Zk{x:Operand}{s:ByteArray}{b p:Nat}(hx:ev L x=some (.pointer (some ⟨b,0,none⟩)))(hH:Has G b (.stringIter s p))(hp : ¬p<s.size)
 (k:Q (.tuple #[.bool false]) V G):Opr P n X L V G ⟨ds,.next x true,ty,pos,af,gd⟩ Q:=fun a ha w hw=>by
 have hg:w.heap[b]?=some (.stringIter s p):=hw.own _ hH.mem
 refine .inl ⟨_,_,V,G,.inl ?_,k,hw⟩
 simp[execOp,ha.ev hx,Instr.next,qq6 hg,hp]
theorem Q5{t u:TypeId}{x y:Operand}{κ:IntKind}{p q:Int}(hx:ev L x=some (.int κ p))(hy:ev L y=some (.int κ q))(h:q<p)(k:Q (.bool true) V G):Opr P n X L V G ⟨ds,.binOp .gtr t x y u,ty,pos,af,gd⟩ Q :=
 Yd hx hy (by rw[za h];exact k)
theorem Q6{t u:TypeId}{x y:Operand}{κ:IntKind}{p q:Int}(hx:ev L x=some (.int κ p))(hy:ev L y=some (.int κ q))(h : ¬q<p)(k:Q (.bool false) V G):Opr P n X L V G ⟨ds,.binOp .gtr t x y u,ty,pos,af,gd⟩ Q :=
 Yd hx hy (by rw[zi h];exact k)
theorem qv6{t u:TypeId}{x y:Operand}{κ:IntKind}{p q:Int}(hx:ev L x=some (.int κ p))(hy:ev L y=some (.int κ q))(h:p≠q)(k:Q (.bool true) V G):Opr P n X L V G ⟨ds,.binOp .neq t x y u,ty,pos,af,gd⟩ Q :=
 YI hx hy (by rw[zi h];exact k)
theorem qq7{t u:TypeId}{x y:Operand}{κ:IntKind}{p q:Int}(hx:ev L x=some (.int κ p))(hy:ev L y=some (.int κ q))(h:p=q)(k:Q (.bool false) V G):Opr P n X L V G ⟨ds,.binOp .neq t x y u,ty,pos,af,gd⟩ Q :=
 YI hx hy (by rw[za h];exact k)
theorem qv7{t u:TypeId}{x:Operand}{te:TypeId}{v:Value}{ms}(hx:ev L x=some (.iface te v))(hu:P.underlying t=some (.interface ms))(k:Q (.bool true) V G):Opr P n X L V G ⟨ds,.binOp .neq t x (.const .nilIface) u,ty,pos,af,gd⟩ Q :=
 qc0 (b:=false) hx rfl rfl (fun w=>by simp[eqGuard]) (fun w=>by
  show(Op.equalIn (9999+1) t (.iface te v) .nilIface).run P w=_
  unfold Op.equalIn;rw[Sem.run_bind,run_underlying hu];rfl) k
theorem qlK{t u:TypeId}{x:Operand}{ms}(hx:ev L x=some .nilIface)(hu:P.underlying t=some (.interface ms))(k:Q (.bool false) V G):Opr P n X L V G ⟨ds,.binOp .neq t x (.const .nilIface) u,ty,pos,af,gd⟩ Q :=
 qc0 (b:=true) hx rfl rfl (fun w=>by simp[eqGuard]) (fun w=>by
  show(Op.equalIn (9999+1) t .nilIface .nilIface).run P w=_
  unfold Op.equalIn;rw[Sem.run_bind,run_underlying hu];rfl) k
theorem qki{t:TypeId}(k:∀b,Q (.map (some b)) V ((b,.map #[] 0)::G)):Opr P n X L V G ⟨ds,.makeMap t none,ty,pos,af,gd⟩ Q:=fun a ha w hw=>
 .inl ⟨_,_,V,_,.inl (by simp[execOp,Instr.makeMap,newObj];rfl),k w.heap.size,hw.alloc _⟩
theorem qkj{w:World}{r c:Nat}{es:Array MapEntry}(hb:w.heap[r]?=some (.map es c)):(getObj r).run P w = .ok (.map es c) w:=by simp[getObj,Sem.run,hb]
theorem qzO{w:World}{r c:Nat}{es:Array MapEntry}(o:Obj)(hb:w.heap[r]?=some (.map es c)):(setObj r o).run P w = .ok () { w with heap:=w.heap.setIfInBounds r o }:=by simp[setObj,Sem.run,hb]
theorem Yu{kt:TypeId}(hs:P.underlying kt=some .string)(e:Bool)(s:ByteArray)(w:World):(Instr.checkKey e 10000 kt (.string s)).run P w = .ok () w:=by
 show(Instr.checkKey e (9999+1) kt (.string s)).run P w=_
 unfold Instr.checkKey;simp[run_underlying hs]
theorem Zl{kt:TypeId}(hs:P.underlying kt=some .string){s:ByteArray}{es:List MapEntry}{r:Option (Nat×Value)}(h:Instr.findNow .string (.string s) es 0=some r)(w:World):(Instr.findKey kt (.string s) es).run P w = .ok r w:=by
 unfold Instr.findKey;simp[run_underlying hs,h]
theorem qnb{t kt et:TypeId}{m k x:Operand}{b c:Nat}{es:Array MapEntry}{kb:ByteArray}{v:Value}{G':Own}(hm:ev L m=some (.map (some b)))(hk:ev L k=some (.string kb))(hv:ev L x=some v)
 (hu:P.underlying t=some (.map kt et)) (hs:P.underlying kt=some .string) (hn:Instr.findNow .string (.string kb) es.toList 0=some none)
 (hU:Upd G b (.map es c) (.map (es.push { key:=.string kb,val:=v,born:=c }) (c+1)) G') (k':Q undef V G'):Opr P n X L V G ⟨ds,.insert t m k x,ty,pos,af,gd⟩ Q:=fun a ha w hw=>by
 have hg:w.heap[b]?=some (.map es c):=hw.own _ hU.has.mem
 refine .inl ⟨undef,_,V,G',.inr ⟨?_,rfl⟩,k',hw.upd hU⟩
 simp[execOp,ha.ev hm,ha.ev hk,ha.ev hv,Instr.mapUpdate,run_underlying hu,qkj hg,Yu hs,Zl hs hn,qzO _ hg]
theorem qv8{t kt et:TypeId}{m k x:Operand}{b c:Nat}{es:Array MapEntry}{kb:ByteArray}{v:Value}{G':Own}(hm:ev L m=some (.map (some b)))(hk:ev L k=some (.string kb))(hv:ev L x=some v)
 (hU:Upd G b (.map es c) (.map (es.push { key:=.string kb,val:=v,born:=c }) (c+1)) G')
 (hu:P.underlying t=some (.map kt et)) (hs:P.underlying kt=some .string) (hn:Instr.findNow .string (.string kb) es.toList 0=some none) (k':Q undef V G'):Opr P n X L V G ⟨ds,.insert t m k x,ty,pos,af,gd⟩ Q:=qnb hm hk hv hu hs hn hU k'
theorem qnc{t kt et:TypeId}{m k:Operand}{b c:Nat}{es:Array MapEntry}{kb:ByteArray}{z:Value}{r:Option (Nat×Value)}(hm:ev L m=some (.map (some b)))(hk:ev L k=some (.string kb))
 (hu:P.underlying t=some (.map kt et)) (hs:P.underlying kt=some .string) (hn:Instr.findNow .string (.string kb) es.toList 0=some r)
 (hz:∀w,(zeroValue et).run P w = .ok z w) (hU:Has G b (.map es c)) (k':Q ((r.map (·.2)).getD z) V G):Opr P n X L V G ⟨ds,.lookup t m k false,ty,pos,af,gd⟩ Q:=fun a ha w hw=>by
 have hg:w.heap[b]?=some (.map es c):=hw.own _ hU.mem
 refine .inl ⟨_,_,V,G,.inl ?_,k',hw⟩
 cases r with
 | none=>simp[execOp,ha.ev hm,ha.ev hk,Instr.lookup,run_underlying hu,qkj hg,Yu hs,Zl hs hn,hz]
 | some p=>simp[execOp,ha.ev hm,ha.ev hk,Instr.lookup,run_underlying hu,qkj hg,Yu hs,Zl hs hn]
end
end Fly
end
