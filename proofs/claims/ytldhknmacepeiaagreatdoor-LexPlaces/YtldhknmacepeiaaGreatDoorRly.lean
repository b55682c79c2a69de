/-
  Bits and rounding, in plain Lean. No condition.
-/
import Derived.Test.YtldhknmacepeiaaGreatDoorNX03
set_option linter.unusedVariables false
set_option linter.unusedSimpArgs false
set_option maxRecDepth 10000
namespace Su
open Go Fly
theorem Yk:∀(b:Bool) (l:List UInt8) (n:Nat),sk b l≤n→sk b (l.take n)=sk b l
 | b,[],n,_=>by rw[List.take_nil]
 | b,c::r,0,h=>by
  rw[List.take_zero];have e:sk b []=0:=by cases b <;> rfl
  omega
 | true,c::r,n+1,h=>by
  rw[VQ];by_cases h10:c=10
  · have e1:sk true (c::r)=1+sk false r:=by rw[sk,zA h10]
    have e2:sk true (c::r.take n)=1+sk false (r.take n):=by rw[sk,zA h10]
    rw[e1,e2,Yk false r n (by omega)]
  · have e1:sk true (c::r)=1+sk true r:=by rw[sk,zx h10]
    have e2:sk true (c::r.take n)=1+sk true (r.take n):=by rw[sk,zx h10]
    rw[e1,e2,Yk true r n (by omega)]
 | false,c::r,n+1,h=>by
  rw[VQ];by_cases hb:qd0 c=true
  · have e1:sk false (c::r)=1+sk false r:=by rw[sk,zA hb]
    have e2:sk false (c::r.take n)=1+sk false (r.take n):=by rw[sk,zA hb]
    rw[e1,e2,Yk false r n (by omega)]
  · by_cases hr:c=47∧r.head?=some 47
    · have e1:sk false (c::r)=1+sk true r:=by rw[sk,zx hb,zA hr]
      obtain⟨d,q,rfl⟩:∃d q,r=d::q:=by
       cases r with
       | nil=>exact absurd hr.2 (by simp)
       | cons d q=>exact⟨d,q,rfl⟩
      have hd:d=47:=by simpa using hr.2
      have g1:1≤sk true (d::q):=by
       rw[sk,zx (by rw[hd];decide)];omega
      obtain⟨k,rfl⟩:∃k,n=k+1:=⟨n-1,by omega⟩
      have e2:sk false (c::(d::q).take (k+1))=1+sk true ((d::q).take (k+1)):=by
       rw[sk,zx hb,zA ⟨hr.1,by rw[VQ,hd];rfl⟩]
      rw[e1,e2,Yk true (d::q) (k+1) (by omega)]
    · have e1:sk false (c::r)=0:=by rw[sk,zx hb,zx hr]
      have e2:sk false (c::r.take n)=0:=by
       rw[sk,zx hb,zx]
       rintro⟨h1,h2⟩
       refine hr ⟨h1,?_⟩
       cases r with
       | nil=>rw[List.take_nil]at h2;exact h2
       | cons d q=>
        cases n with
        | zero=>rw[List.take_zero]at h2;cases h2
        | succ n=>exact h2
      rw[e1,e2]
theorem Js(S:List UInt8)(m i:Nat):(S.take m).drop i=(S.drop i).take (m-i):=by
 rw[List.drop_take]
theorem qpp{S:List UInt8}{m i:Nat}(hi:i≤m)(h:skE S i≤m):skE (S.take m) i=skE S i:=by
 unfold skE at *
 rw[Js,Yk _ _ _ (by omega)]
theorem qgz{p:UInt8→Bool}:∀(l:List UInt8) (n:Nat),(l.takeWhile p).length≤n→(l.take n).takeWhile p=l.takeWhile p
 | [],n,_=>by rw[List.take_nil]
 | c::r,0,h=>by
  rw[List.take_zero];have:(c::r).takeWhile p=[]:=KH (by omega)
  rw[this];rfl
 | c::r,n+1,h=>by
  rw[VQ,Vu,Vu];rw[Vu]at h;cases hp:p c with
  | true=>
   rw[hp,zA rfl,zt]at h;rw[zA rfl,zA rfl,qgz r n (by omega)]
  | false=>rfl
theorem qpq{S:List UInt8}{m i:Nat}(hi:i≤m)(h:spI S i≤m):spI (S.take m) i=spI S i:=by
 unfold spI at *
 rw[Js,qgz _ _ (by omega)]
theorem qcH{S:List UInt8}{m i:Nat}(hi:i≤m)(h:rn S i≤m):rn (S.take m) i=rn S i:=by
 unfold rn rnL at *
 rw[Js,qgz _ _ (by omega)]
theorem J0(S:List UInt8){m i:Nat}(h:i<m):(S.take m)[i]?=S[i]?:=by
 rw[zS,zA h]
theorem QI{S:List UInt8}{m i:Nat}{c:UInt8}(h:(S.take m)[i]?=some c):S[i]?=some c∧i<m:=by
 rw[zS]at h;split at h
 · exact⟨h,by assumption⟩
 · cases h
theorem qe7{S:List UInt8}{m i:Nat}(h:i<m):yy (S.take m) i=yy S i:=by unfold yy;rw[J0 S h]
theorem qd3{S:List UInt8}{m i:Nat}(h:yy (S.take m) i=true):yy S i=true:=by
 unfold yy at *
 cases hc:(S.take m)[i]? with
 | none=>rw[hc]at h;cases h
 | some c=>rw[hc]at h;rw[(QI hc).1];exact h
theorem qjp{S:List UInt8}{i:Nat}(h:yy S i=true):i<rn S i:=by
 unfold yy at h;cases hc:S[i]? with
 | none=>rw[hc]at h;cases h
 | some c=>
  rw[hc]at h;have e:rn S i=rn S (i+1):=by unfold rn;rw[Y2 hc h,zt];omega
  have:=yX S (i+1)
  omega
theorem qe8{S:List UInt8}{m j:Nat}{fl:Bool}(hj:j≤m)(h:(numE S j fl).1≤m):numE (S.take m) j fl=numE S j fl:=by
 unfold numE at h ⊢
 by_cases hc:(S[j]?=some 101∨S[j]?=some 69)∧yy S (exK S j)=true
 · rw[zA hc]at h
   have h:rn S (exK S j)≤m:=h
   have h1:=qjp hc.2;have h2:j+1≤exK S j:=by unfold exK;split <;> omega
   have e1:(S.take m)[j]?=S[j]?:=J0 S (by omega)
   have e2:(S.take m)[j+1]?=S[j+1]?:=J0 S (by omega)
   have e3:exK (S.take m) j=exK S j:=by unfold exK;rw[e2]
   rw[e1,e3,qe7 (by omega),zA hc,zA hc,qcH (by omega) h]
 · rw[zx hc,zx]
   rintro⟨h1,h2⟩
   have g1:S[j]?=some 101∨S[j]?=some 69:=by
    rcases h1 with h1 | h1
    · exact .inl (QI h1).1
    · exact .inr (QI h1).1
   refine hc ⟨g1,?_⟩
   have hl:=Zw h2;rw[zB]at hl;have h3:j+1≤exK (S.take m) j:=by unfold exK;split <;> omega
   have e2:(S.take m)[j+1]?=S[j+1]?:=J0 S (by omega)
   have e3:exK (S.take m) j=exK S j:=by unfold exK;rw[e2]
   rw[e3]at h2;exact qd3 h2
theorem qmm{S:List UInt8}{m i:Nat}(hi:i≤m)(h:(jx S i).1≤m):jx (S.take m) i=jx S i:=by
 unfold jx at h ⊢
 by_cases hc:S[rn S i]?=some 46∧yy S (rn S i+1)=true
 · rw[zA hc]at h
   have h1:=(QH S (rn S (rn S i+1)) true).1
   have h2:=qjp hc.2;rw[qcH hi (by omega),J0 S (by omega),qe7 (by omega),zA hc,zA hc,qcH (by omega) (by omega),qe8 (by omega) h]
 · rw[zx hc]at h
   have h1:=(QH S (rn S i) false).1
   rw[qcH hi (by omega),zx hc,zx,qe8 (by omega) h]
   rintro⟨g1,g2⟩
   exact hc ⟨(QI g1).1,qd3 g2⟩
theorem qpr{R:List UInt8}{n:Nat}(h:(yF R).length≤n)(h0:yF R≠[]):yF (R.take n)=yF R:=by
 have hn:1≤n:=by
  have:(yF R).length≠0:=fun e=>h0 (KH e)
  omega
 have t1:(R.take n).take 1=R.take 1:=by rw[List.take_take];congr 1;omega
 unfold yF at h ⊢
 rw[t1,zB];by_cases hc:1<R.length∧Lib.contains sg2 (R.take 2)=true∧Lib.contains (R.take 2) [32]=false
 · rw[zA hc,zB]at h
   have t2:(R.take n).take 2=R.take 2:=by rw[List.take_take];congr 1;omega
   rw[t2,zA hc,zA ⟨by omega,hc.2⟩]
 · rw[zx hc]
   by_cases h2:n=1
   · subst h2
     rw[zx (fun h=>by have:=h.1;omega)]
   · have t2:(R.take n).take 2=R.take 2:=by rw[List.take_take];congr 1;omega
     rw[t2,zx]
     rintro⟨g1,g2⟩
     exact hc ⟨by omega,g2⟩
theorem qps{S:List UInt8}{m i k:Nat}(hi:i<S.length)(h:(jC S i).2.2=0)(hk:(jC S i).2.1=(k:Int))(hm:k≤m):jC (S.take m) i=jC S i:=by
 obtain⟨k',e1,e2,e3⟩:=Y4 hi h;have:k'=k:=by rw[hk]at e1;omega
 subst this;have g0:(S.take m)[i]?=S[i]?:=J0 S (by omega)
 have tt:∀j,j≤m-i→((S.take m).drop i).take j=(S.drop i).take j:=fun j hj=>by
  rw[Js,List.take_take];congr 1;omega
 unfold jC at h hk ⊢
 rw[g0];by_cases h1:(S[i]?).any yT=true
 · rw[zA h1]at hk
   have hk:((spI S i:Nat):Int)=(k':Int):=hk
   rw[zA h1,zA h1,qpq (by omega) (by omega),tt _ (by omega)]
 · rw[zx h1]at h hk
   rw[zx h1,zx h1];by_cases h2:(S[i]?).any isD=true
   · rw[zA h2]at hk
     have hk:(((jx S i).1:Nat):Int)=(k':Int):=hk
     rw[zA h2,zA h2,qmm (by omega) (by omega),tt _ (by omega)]
   · rw[zx h2]at h hk
     rw[zx h2,zx h2];by_cases h3:yF (S.drop i)=[]
     · rw[zA h3]at h
       have h:(90:Int)=0:=h
       omega
     · rw[zx h3]at hk
       have hk:((i+(yF (S.drop i)).length:Nat):Int)=(k':Int):=hk
       rw[Js,qpr (by omega) h3,zx h3]
theorem qk1{S:List UInt8}:∀(f i:Nat),i≤S.length→(yg S f i).2.1≠0→∃a:Nat,(yg S f i).2.2=(a:Int)∧i≤a∧a<S.length∧∀g,(yg (S.take a) g i).2.1=0
 | 0,i,hi,h=>absurd rfl h
 | f+1,i,hi,h=>by
  rw[yg]at h ⊢;by_cases hl:i<S.length
  · rw[zA hl]at h ⊢
    by_cases he:(jC S i).2.2=0
    · rw[zA he]at h ⊢
      obtain⟨k,e1,e2,e3⟩:=Y4 hl he;rw[e1,zd]at h ⊢;obtain⟨g1,g2⟩:=qcb (S:=S) (i:=k) e3
      by_cases hq:(yg S f (skE S k)).2.1=0
      · rw[zA hq]at h;exact absurd rfl h
      · rw[zx hq]
        obtain⟨a,a1,a2,a3,a4⟩:=qk1 f (skE S k) g2 hq
        refine⟨a,a1,by omega,a3,fun g=>?_⟩
        cases g with
        | zero=>rfl
        | succ g=>
         rw[yg,zA (by rw[zB];omega),qps hl he e1 (by omega),zA he,e1,zd,qpp (by omega) a2,zA (a4 g)]
    · rw[zx he]
      refine⟨i,rfl,zE _,hl,fun g=>?_⟩
      cases g with
      | zero=>rfl
      | succ g=>rw[yg,zx (by rw[zB];omega)]
  · rw[zx hl]at h;exact absurd rfl h
theorem qpt{S:List UInt8}(hS:S.length≤16384)(h:(qab S).2.1≠0):(qab S).1=[]∧∃a:Nat,(qab S).2.2=(a:Int)∧a<S.length∧(qab (S.take a)).2.1=0:=by
 unfold qab at h ⊢
 rw[zx (by omega)]at h ⊢;have hk:=qd1 false S;have e1:∀f i,(yg S f i).2.1≠0→(yg S f i).1=[]:=by
  intro f;induction f with
  | zero=>intro i h;exact absurd rfl h
  | succ f ih=>
   intro i h;unfold yg at h ⊢
   split
   · rename_i h1
     rw[zA h1]at h;split
     · rename_i h2
       rw[zA h2]at h;split
       · rename_i h3
         rw[zA h3]at h;exact absurd rfl h
       · rfl
     · rfl
   · rename_i h1
     rw[zx h1]at h;exact absurd rfl h
 refine⟨e1 _ _ h,?_⟩
 obtain⟨a,a1,a2,a3,a4⟩:=qk1 _ _ hk h;refine⟨a,a1,a3,?_⟩
 rw[zx (by rw[zB];omega),Yk _ _ _ a2];exact a4 _
theorem qwu{S:List UInt8}{e:Nat}(hS:S.length≤16384)(he:e≤S.length):(qab ((S.drop e).take (skE S e-e))).2.1=0∧(qab ((S.drop e).take (skE S e-e))).1.length=1:=by
 have hk:=qd1 false (S.drop e)
 have e0:skE S e-e=sk false (S.drop e):=by unfold skE;omega
 rw[e0];have el:((S.drop e).take (sk false (S.drop e))).length=sk false (S.drop e):=by rw[zB];omega
 have es:=Yk false (S.drop e) (sk false (S.drop e)) (zE _)
 have hd:(S.drop e).length=S.length-e:=zP
 unfold qab;rw[zx (by omega),es,el,yg,zx (by omega)];exact⟨rfl,rfl⟩
def Qy(S:List UInt8)(fl:Bool)(nx e:Nat):Bool :=
 match S[e]? with
 | none=>false
 | some c=>isD c||((c == 46&&yy S (e+1))||(fl&&(decide (e<nx)&&((c == 101||c == 69)||((c == 43||c == 45)&&(decide (S[e-1]?=some 101)||decide (S[e-1]?=some 69)))))))
theorem qpu{S:List UInt8}{i e:Nat}(h1:i≤e)(h2:e<rn S i):∃c,S[e]?=some c∧isD c=true:=by
 have hm:(rnL S i)[e-i]?=S[e]?:=by
  have hp:rnL S i <+: S.drop i:=Wp _
  rw[Vn.1 hp,zS,zA (by unfold rn at h2;omega),KO]
  congr 1;omega
 have hl:e-i<(rnL S i).length:=by unfold rn at h2;omega
 refine⟨(rnL S i)[e-i],?_,Z8 S i _ (List.getElem_mem hl)⟩
 rw[← hm,zq hl]
theorem qjq{S:List UInt8}{i:Nat}{c:UInt8}(h:S[rn S i]?=some c):isD c=false:=by
 cases hd:isD c with
 | false=>rfl
 | true=>
  exfalso;have hl:=yf h;have e1:S.drop i=rnL S i++S.drop (rn S i):=by
   have:(S.drop i).drop (rnL S i).length=S.drop (rn S i):=by rw[List.drop_drop];rfl
   rw[← this];have hp:rnL S i <+: S.drop i:=Wp _
   rw[Vn.1 hp,zB,KY hp.length_le,KV]
  obtain⟨hi,ec⟩:=zp.1 h
  rw[zM hi,ec]at e1;have e2:rnL S i=(rnL S i++c::S.drop (rn S i+1)).takeWhile isD:=by rw[← e1];rfl
  rw[List.takeWhile_append_of_pos (Z8 S i),Vu,hd,zA rfl]at e2;have:=congrArg List.length e2
  simp only[zy,zt]at this;omega
theorem qaX{S:List UInt8}{fl:Bool}{nx e:Nat}{c:UInt8}(h:S[e]?=some c)(hc:isD c=true):Qy S fl nx e=true:=by
 unfold Qy;rw[h];simp only[hc,Bool.true_or]
theorem qd4{S:List UInt8}{j nx:Nat}{fl:Bool}(hN:(numE S j fl).1≤nx):∀e,j≤e→e<(numE S j fl).1→Qy S true nx e=true:=by
 unfold numE at hN ⊢
 by_cases hc:(S[j]?=some 101∨S[j]?=some 69)∧yy S (exK S j)=true
 · rw[zA hc]at hN ⊢
   intro e h1 h2;have hN:rn S (exK S j)≤nx:=hN
   have h2:e<rn S (exK S j):=h2
   have hr:=qjp hc.2;by_cases h3:exK S j≤e
   · obtain⟨c,g1,g2⟩:=qpu h3 h2
     exact qaX g1 g2
   · by_cases h4:e=j
     · subst h4
       unfold Qy;rcases hc.1 with g | g
       · rw[g]
         show(_||(_||(true&&(decide (e<nx)&&_))))=true
         rw[za (by omega)];simp
       · rw[g]
         show(_||(_||(true&&(decide (e<nx)&&_))))=true
         rw[za (by omega)];simp
     · unfold exK at h3 hr
       split at h3
       · rename_i hs
         have:e=j+1:=by omega
         subst this;rw[zA hs]at hr;have g1:(decide (S[j+1-1]?=some 101)||decide (S[j+1-1]?=some 69))=true:=by
          rw[Vo];rcases hc.1 with g | g
          · rw[za g];rfl
          · rw[za g,Bool.or_true]
         unfold Qy;rcases hs with g | g
         · rw[g]
           show(_||(_||(true&&(decide (j+1<nx)&&(_||(_&&(decide (S[j+1-1]?=some 101)||decide (S[j+1-1]?=some 69))))))))=true
           rw[za (by omega),g1];simp
         · rw[g]
           show(_||(_||(true&&(decide (j+1<nx)&&(_||(_&&(decide (S[j+1-1]?=some 101)||decide (S[j+1-1]?=some 69))))))))=true
           rw[za (by omega),g1];simp
       · omega
 · rw[zx hc]
   intro e h1 h2;have h2:e<j:=h2
   omega
theorem qmn{S:List UInt8}{i nx:Nat}(hN:(jx S i).1≤nx):∀e,i≤e→e<(jx S i).1→Qy S (jx S i).2 nx e=true:=by
 intro e h1 h2;by_cases h3:e<rn S i
 · obtain⟨c,g1,g2⟩:=qpu h1 h3
   exact qaX g1 g2
 · unfold jx at hN h2 ⊢
   by_cases hc:S[rn S i]?=some 46∧yy S (rn S i+1)=true
   · rw[zA hc]at hN h2 ⊢
     rw[(QH S (rn S (rn S i+1)) true).2.1 rfl];by_cases h4:e<rn S (rn S i+1)
     · by_cases h5:e=rn S i
       · subst h5
         unfold Qy;rw[hc.1];show(_||(((46:UInt8) == 46&&yy S (rn S i+1))||_))=true
         rw[hc.2];simp
       · obtain⟨c,g1,g2⟩:=qpu (i:=rn S i+1) (by omega) h4
         exact qaX g1 g2
     · exact qd4 hN e (by omega) h2
   · rw[zx hc]at hN h2 ⊢
     have h6:=qd4 hN e (by omega) h2
     cases hb:(numE S (rn S i) false).2 with
     | true=>exact h6
     | false=>
      have:=(QH S (rn S i) false).2.2 hb
      omega
theorem qyt{c:UInt8}(h:c=101∨c=69∨c=43∨c=45):qd0 c=false∧c≠47:=by
 rcases h with rfl | rfl | rfl | rfl <;> decide
theorem qhZ{S:List UInt8}{i:Nat}{c:UInt8}(h:S[i]?=some c)(hc:qd0 c=false∧c≠47):skE S i=i:=by
 obtain⟨hi,ec⟩:=zp.1 h
 unfold skE;rw[zM hi,ec,sk,zx (by rw[hc.1];decide),zx (fun e=>hc.2 e.1)];rfl
theorem qh0{S:List UInt8}{j:Nat}{fl:Bool}(hj:∀c,S[j]?=some c→isD c=false):∀c,S[(numE S j fl).1]?=some c→isD c=false:=by
 unfold numE;split
 · intro c hc;exact qjq hc
 · exact hj
theorem qpv{S:List UInt8}{i:Nat}:∀c,S[(jx S i).1]?=some c→isD c=false:=by
 unfold jx;split
 · exact qh0 fun c hc=>qjq hc
 · exact qh0 fun c hc=>qjq hc
theorem qpw{S:List UInt8}{i:Nat}(hp : ¬(S[(jx S i).1]?=some 46∧yy S ((jx S i).1+1)=true))(fl:Bool):Qy S fl (skE S (jx S i).1) (jx S i).1=false:=by
 have ho:=qpv (S:=S) (i:=i)
 generalize (jx S i).1=N at *
 unfold Qy;cases hc:S[N]? with
 | none=>rfl
 | some c=>
  show(isD c||((c == 46&&yy S (N+1))||(fl&&(decide (N<skE S N)&&((c == 101||c == 69)||((c == 43||c == 45)&&(decide (S[N-1]?=some 101)||decide (S[N-1]?=some 69))))))))=false
  rw[ho c hc,VU];have h1:(c == 46&&yy S (N+1))=false:=by
   cases hb:(c == 46&&yy S (N+1))with
   | false=>rfl
   | true=>
    rw[zn]at hb;exact absurd ⟨by rw[hc,eq_of_beq hb.1],hb.2⟩ hp
  rw[h1,VU];by_cases h2:c=101∨c=69∨c=43∨c=45
  · rw[qhZ hc (qyt h2),zk (Nat.lt_irrefl N),Vj,Bool.and_false]
  · have e1:(c == 101)=false:=by simpa using fun e=>h2 (.inl e)
    have e2:(c == 69)=false:=by simpa using fun e=>h2 (.inr (.inl e))
    have e3:(c == 43)=false:=by simpa using fun e=>h2 (.inr (.inr (.inl e)))
    have e4:(c == 45)=false:=by simpa using fun e=>h2 (.inr (.inr (.inr e)))
    rw[e1,e2,e3,e4];simp
theorem qmo{S:List UInt8}{i:Nat}(h1:S[i]?=some 46)(h2:yy S (i+1)=true):(jC S i).2.2=90:=by
 have hl:=Zw h2;obtain⟨d,hd⟩:∃d,S[i+1]?=some d:=⟨_,zq hl⟩
 have hdd:isD d=true:=by unfold yy at h2;rw[hd]at h2;exact h2
 obtain⟨hi,e1⟩:=zp.1 h1
 obtain⟨hi2,e2⟩:=zp.1 hd
 have eR:S.drop i=46::d::S.drop (i+1+1):=by rw[zM hi,e1,zM hi2,e2]
 have hs:yF (S.drop i)=[]:=by
  rw[eR];unfold yF;have t2:(46::d::S.drop (i+1+1)).take 2=[46,d]:=rfl
  have t1:(46::d::S.drop (i+1+1)).take 1=[46]:=rfl
  rw[t2,t1];have all:∀k,k<10→Lib.contains sg2 [46,UInt8.ofNat (48+k)]=false:=by decide +kernel
  have hb:=jT.1 hdd;have ed:d=UInt8.ofNat (48+(d.toNat-48)):=by
   rw[show 48+(d.toNat-48)=d.toNat by omega,zu]
  have a:=all (d.toNat-48) (by omega)
  rw[← ed]at a;rw[zx (fun h=>by rw[a]at h;cases h.2.1),zx (by decide +kernel)]
 unfold jC;rw[h1,zx (by decide),zx (by decide),zA hs]
theorem qwv{t:Tk}{l:List UInt8}{fl:Bool}(h:(qd2 t l fl).2=0):(qd2 t l fl).1.1=(bif fl then 3 else 2)∧(qd2 t l fl).1.2.1=t.2.1∧(qd2 t l fl).1.2.2.1=t.2.2.1:=by
 unfold qd2 at h ⊢
 by_cases h1:400<l.length
 · rw[zA h1]at h
   have h:(91:Int)=0:=h
   omega
 · rw[zx h1]at h ⊢
   cases fl with
   | true=>
    rw[zA rfl]at h ⊢;by_cases h2:(QQ l).2=0
    · rw[zA h2];exact⟨rfl,rfl,rfl⟩
    · rw[zx h2]at h
      have h:(93:Int)=0:=h
      omega
   | false=>
    rw[zx (by decide)]at h ⊢;by_cases h2:2147483647<dv l
    · rw[zA h2]at h
      have h:(92:Int)=0:=h
      omega
    · rw[zx h2];exact⟨rfl,rfl,rfl⟩
theorem qtg(R:List UInt8):yF R=R.take (yF R).length:=by
 have h:yF R <+: R:=by
  unfold yF;split
  · exact List.take_prefix _ _
  · split
    · exact List.take_prefix _ _
    · exact List.nil_prefix
 exact Vn.1 h
theorem qe9{S:List UInt8}{i k:Nat}(hi:i<S.length)(h:(jC S i).2.2=0)(hk:(jC S i).2.1=(k:Int)):(jC S i).1.2.1=(i:Int) ∧
 ((¬(jC S i).1.1=0∧¬(jC S i).1.1=2∧¬(jC S i).1.1=3∧(jC S i).1.2.2.1=bs ((S.drop i).take (k-i)))∨((jC S i).1.2.2.1=bs []∧k=(jx S i).1∧(jC S i).1.1=bif(jx S i).2 then 3 else 2)):=by
 unfold jC at h hk ⊢
 by_cases h1:(S[i]?).any yT=true
 · rw[zA h1]at hk ⊢
   have hk:((spI S i:Nat):Int)=(k:Int):=hk
   obtain rfl:spI S i=k:=by omega
   refine⟨rfl,.inl ?_⟩
   cases ZE ((S.drop i).take (spI S i-i))with
   | true=>exact⟨show¬(4:Int)=0 by decide,show¬(4:Int)=2 by decide,show¬(4:Int)=3 by decide,rfl⟩
   | false=>exact⟨show¬(1:Int)=0 by decide,show¬(1:Int)=2 by decide,show¬(1:Int)=3 by decide,rfl⟩
 · rw[zx h1]at h hk ⊢
   by_cases h2:(S[i]?).any isD=true
   · rw[zA h2]at h hk ⊢
     have hk:(((jx S i).1:Nat):Int)=(k:Int):=hk
     obtain⟨v1,v2,v3⟩:=qwv h;exact⟨v2,.inr ⟨v3,by omega,v1⟩⟩
   · rw[zx h2]at h hk ⊢
     by_cases h3:yF (S.drop i)=[]
     · rw[zA h3]at h
       have h:(90:Int)=0:=h
       omega
     · rw[zx h3]at hk ⊢
       have hk:((i+(yF (S.drop i)).length:Nat):Int)=(k:Int):=hk
       refine⟨rfl,.inl ⟨show¬(5:Int)=0 by decide,show¬(5:Int)=2 by decide,show¬(5:Int)=3 by decide,?_⟩⟩
       show bs (yF (S.drop i))=_
       rw[show k-i=(yF (S.drop i)).length by omega,← qtg]
theorem qth{S:List UInt8}{f i:Nat}(hi:i≤S.length)(hf:0<f)(h:(yg S f i).2.1=0):∃t r,(yg S f i).1=t::r∧t.2.1=(i:Int):=by
 obtain⟨g,rfl⟩:∃g,f=g+1:=⟨f-1,by omega⟩
 rw[yg]at h ⊢;by_cases hl:i<S.length
 · rw[zA hl]at h ⊢
   by_cases he:(jC S i).2.2=0
   · rw[zA he]at h ⊢
     obtain⟨k,e1,e2,e3⟩:=Y4 hl he;split
     · exact⟨_,_,rfl,(qe9 hl he e1).1⟩
     · rename_i hq
       rw[zx hq]at h;exact absurd h hq
   · rw[zx he]at h;exact absurd h he
 · rw[zx hl]
   exact⟨qpn S,[],rfl,by show((S.length:Nat):Int)=_;omega⟩
theorem qpx{S:List UInt8}{f k:Nat}(hf:0<f)(h:(yg S f (skE S k)).2.1=0) : ¬(S[k]?=some 46∧yy S (k+1)=true):=by
 rintro⟨h1,h2⟩
 have e:skE S k=k:=qhZ h1 (by decide)
 rw[e]at h;obtain⟨g,rfl⟩:∃g,f=g+1:=⟨f-1,by omega⟩
 have hb:=qmo h1 h2;rw[yg,zA (yf h1),zx (by rw[hb];decide)]at h;have h:(jC S k).2.2=0:=h
 omega
end Su
