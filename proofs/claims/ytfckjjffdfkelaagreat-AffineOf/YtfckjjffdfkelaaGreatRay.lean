/-
  Bits and rounding, in plain Lean. No condition.
-/
import Derived.Test.YtfckjjffdfkelaaGreatRro
import Derived.Test.YtfckjjffdfkelaaGreatNC26
import Derived.Test.YtfckjjffdfkelaaGreatRcs
set_option linter.unusedVariables false
set_option linter.unusedSimpArgs false
set_option maxRecDepth 10000
section
namespace Su
open Go Fly
noncomputable section
def lnS(nz:Int→Int):List Tm→Int
 | []=>0
 | t::l=>fv t.c.toNat*nz t.id+lnS nz l
def smN(nz:Int→Int)(a:Fm):Int:=8*fv a.2.1.toNat+lnS nz a.2.2.1
def Nz8(nz:Int→Int):Prop:=∀i,-8≤nz i∧nz i≤8
def qbx(nz:Int→Int)(a:Fm)(X k:Int):Prop:=a.1=true∨((smN nz a*k-X).natAbs:Int)≤8*fv a.2.2.2.toNat*k
theorem Zg{d n D:Int}(h:(d.natAbs:Int)≤D)(h1 : -8≤n)(h2:n≤8):((d*n).natAbs:Int)≤8*D:=by
 rw[qHE,Kq];have h3:(n.natAbs:Int)≤8:=by omega
 have h4:(d.natAbs:Int)*(n.natAbs:Int)≤D*8:=by
  refine Int.le_trans (WF h (by omega)) ?_
  exact Int.mul_le_mul_of_nonneg_left h3 (by omega)
 omega
theorem fv_0:fv (0:Int).toNat=0:=rfl
theorem qAc{e s E S:Int}(he:Up e E)(hs:Up s S):Up (upI [e,s]) (E+S):=by
 have:=YC (YC qAb he) hs
 rw[WP]at this;exact this
theorem qvU{m:Int}:fv (nzI m).toNat=fv m.toNat:=by
 unfold nzI;cases hz:zI m with
 | true=>rw[zd,fv_0,Z7 (qkb.1 hz)]
 | false=>rfl
theorem qff(nz:Int→Int):∀l:List Tm,lnS nz (jJ l)=lnS nz l
 | []=>rfl
 | t::l=>by
  have ih:=qff nz l;unfold jJ at ih ⊢
  rw[VT];cases hz:zI t.c with
  | true=>
   rw[Kh,zZ (by simp),ih];show _=fv t.c.toNat*nz t.id+lnS nz l
   rw[Z7 (qkb.1 hz),qHO,WP]
  | false=>
   rw[Kl,Kp rfl];show fv t.c.toNat*nz t.id+lnS nz _=fv t.c.toNat*nz t.id+lnS nz l
   rw[ih]
theorem qmJ{m:Int}(h:fI (nzI m)=true):fI m=true:=by
 unfold nzI at h;cases hz:zI m with
 | true=>exact yf.2 (by rw[qkb.1 hz];exact Va _)
 | false=>rw[hz]at h;exact h
theorem qgy{m e:Int}{l:List Tm}(h:(jR (false,m,l,e)).1=false):fI m=true∧fI e=true∧(∀t∈l,fI t.c=true)∧jR (false,m,l,e)=(false,nzI m,jJ l,nzI e):=by
 rw[qaP]at h ⊢;simp only[]at h ⊢;cases hc:((fI (nzI m)&&fI (nzI e))&&!((jJ l).any fun t=>!fI t.c))with
 | false=>rw[hc]at h;cases h
 | true=>
  simp only[zm,KR]at hc;obtain⟨⟨h1,h2⟩,h3⟩:=hc;refine⟨qmJ h1,qmJ h2,fun t ht=>?_,rfl⟩
  cases hz:zI t.c with
  | true=>exact yf.2 (by rw[qkb.1 hz];exact Va _)
  | false=>
   have:t∈jJ l:=by
    unfold jJ;exact Wi.2 ⟨ht,by rw[hz];rfl⟩
   have:=List.any_eq_false.1 h3 t this
   simpa using this
theorem qkc{a:Fm}(h:okF a=true):0≤fv a.2.2.2.toNat:=by
 obtain⟨_,hf⟩:=yR h;rw[qbG (yf.1 hf.err),qqr h];unfold sgV;simp
theorem qEV{a:Fm}(h:okF a=true):Up a.2.2.2 (fv a.2.2.2.toNat):=JW (yR h).2.err
end
end Su
end
section
namespace Su
open Go Fly
noncomputable section
theorem qbl{f:Int}:fI f=true↔ZA f=false∧qE (bK f.toNat)≠3:=by
 unfold fI ZA;rw[qZ,y9,Zs];by_cases h:bK f.toNat=9218868437227405312
 · rw[Kp h];omega
 · rw[zZ h]
   constructor
   · intro h1
     refine⟨by omega,?_⟩
     rw[zZ (by omega)];split <;> (try split) <;> omega
   · rintro⟨h1,-⟩;omega
theorem qh7{s:Spn}{f:Int}(hf:Fw f)(hs:SpW s):qey s f=true↔fI f=true∧(qK s).1=false∧ky (qK s).2.1≤ky f∧ky f≤ky (qK s).2.2:=by
 unfold qey;by_cases hc:qE (bK f.toNat)=3
 · rw[zf hc]
   constructor
   · intro h;cases h
   · rintro⟨h,-⟩;exact absurd hc (qbl.1 h).2
 · rw[zk hc]
   cases hn:ZA f with
   | true=>
    have e:qmz f f=qqc:=by
     rcases qez (s:=(false,f,f)) ⟨hf,hf⟩with h | ⟨_,h,_⟩
     · exact h
     · rw[hn]at h;cases h
    rw[e];constructor
    · intro h;cases h
    · rintro⟨h,-⟩;rw[(qbl.1 h).1]at hn;cases hn
   | false=>
    have hfi:fI f=true:=qbl.2 ⟨hn,hc⟩
    have ok:=qc1 (s:=(false,f,f)) ⟨hf,hf⟩
    have hk:=qZ.1 (show jT (bK f.toNat)=true from hfi)
    have hab:=qdF f;have n1:f≠9218868437227405312:=fun e=>by subst e;revert hk;decide
    have n2:f≠18442240474082181120:=fun e=>by subst e;revert hk;decide
    have e:qmz f f=(false,nzI f,nzI f):=by
     unfold qmz qK;simp only[];rw[qbk.2 ⟨hn,hn,Vy _⟩,zk n1,zk n2];rfl
    have e2:qK (qmz f f)=qmz f f:=qmB ok
    obtain⟨z1,z2⟩:=qh4 hf hn;unfold qEJ;rw[e2,e];simp only[Kl,zG,VL];cases h0:(qK s).1 with
    | true=>simp
    | false=>
     obtain⟨a1,a2,-⟩:=qoq (qc1 hs) h0
     simp only[Kl,zG,zm];rw[qbk,qbk,z2];constructor
     · rintro⟨⟨_,_,b1⟩,_,_,b2⟩;exact⟨hfi,trivial,b1,b2⟩
     · rintro⟨_,_,b1,b2⟩;exact⟨⟨a1.n,z1.n,b1⟩,z1.n,a2.n,b2⟩
theorem qvV{lo hi f:Int}(wl:Fw lo)(wh:Fw hi)(wf:Fw f)(hf:fI f=true)(h1:Dn lo (fv f.toNat))(h2:Up hi (fv f.toNat)):qey (qK (false,lo,hi)) f=true:=by
 have k:=qou hf;have kl:ZA lo=false∧lo≠qov∧ky lo≤ky f:=by
  rcases h1 with⟨a,b⟩ | rfl
  · obtain⟨n1,-⟩:=qbl.1 a
    refine⟨n1,fun e=>?_,(qvR a hf).1 b⟩
    subst e;cases a
  · exact⟨rfl,by decide,by rw[qmC];omega⟩
 have kh:ZA hi=false∧hi≠qb3∧ky f≤ky hi:=by
  rcases h2 with⟨a,b⟩ | rfl
  · obtain⟨n1,-⟩:=qbl.1 a
    refine⟨n1,fun e=>?_,(qvR hf a).1 b⟩
    subst e;cases a
  · exact⟨rfl,by decide,by rw[qj6];omega⟩
 have w:SpW (false,lo,hi):=⟨wl,wh⟩
 rw[qh7 wf (qc1 w).w,qmB (qc1 w)];have e:qK (false,lo,hi)=(false,nzI lo,nzI hi):=by
  unfold qK;simp only[];rw[qbk.2 ⟨kl.1,kh.1,by omega⟩,zk kl.2.1,zk kh.2.1];rfl
 rw[e];refine⟨hf,rfl,?_,?_⟩
 · show ky (nzI lo)≤ky f
   rw[(qh4 wl kl.1).2];exact kl.2.2
 · show ky f≤ky (nzI hi)
   rw[(qh4 wh kh.1).2];exact kh.2.2
theorem qvW{a:Fm}{f:Int}(wa:FmW a)(wf:Fw f)(hf:fI f=true)(h:ofS a f=true):qey (qh1 a) f=true:=by
 unfold qh1;cases ho:okF a with
 | false=>
  rw[zh];have k:=qou hf;have w:SpW (false,qb3,qov):=⟨⟨by decide,by decide⟩,⟨by decide,by decide⟩⟩
  refine(qh7 wf w).2 ?_
  have e:qK (false,qb3,qov)=(false,qb3,qov):=by decide +kernel
  rw[e];refine⟨hf,rfl,?_,?_⟩
  · show ky qb3≤ky f
    rw[qmC];omega
  · show ky f≤ky qov
    rw[qj6];omega
 | true=>
  rw[zd];obtain⟨_,hfin⟩:=yR ho;unfold ofS at h;rw[ho,zm]at h;have h2:(fv f.toNat-fv a.2.1.toNat).natAbs≤Zf a:=KC (by simpa using h.2)
  have u:=qET ho;have wr:=qEN wa;have up:Up (Jc a.2.1 (qjW a) 1) (fv f.toNat):=qfe (YC (JW hfin.mid) u) (by omega)
  have dn:Dn (Jc a.2.1 (qam (qjW a)) 2) (fv f.toNat):=by
   have:=qEQ hfin.mid (Vy _) (qER wr u)
   exact this.imp (fun⟨a1,b1⟩=>⟨a1,by omega⟩) id
  exact qvV (Z8 wa.mid (qgw wr) 2) (Z8 wa.mid wr 1) wf hf dn up
theorem qkd{x n:Int}(h:Up x n):qP (bK x.toNat)=false:=by
 rcases h with⟨h,_⟩ | rfl
 · exact(qbl.1 h).1
 · rfl
theorem qqs{x n:Int}(h:Up x n)(hf:fI x=true):n≤fv x.toNat:=by
 rcases h with⟨_,h⟩ | rfl
 · exact h
 · cases hf
theorem qvX{x y n m:Int}(wx:Fw x)(wy:Fw y)(hx:Up x n)(hy:Up y m):Up (mxI x y) n∧Up (mxI x y) m:=by
 have nx:ZA x=false:=qkd hx
 have ny:ZA y=false:=qkd hy
 have big:∀ {x y:Int} {n m:Int},Up x n→Up y m→ky x≤ky y→Up y n:=by
  intro x y n m hx hy hk;rcases hy with⟨fy,hy⟩ | rfl
  · rcases hx with⟨fx,hx⟩ | rfl
    · exact .inl ⟨fy,by have:=(qvR fx fy).2 hk;omega⟩
    · have:=qou fy
      rw[qj6]at hk;omega
  · exact .inr rfl
 rw[qCB wx wy nx ny];by_cases h:ky x<ky y
 · rw[Kp h];exact⟨big hx hy (by omega),hy⟩
 · rw[zZ h];exact⟨hx,big hy hx (by omega)⟩
end
end Su
end
