/-
  Bits and rounding, in plain Lean. No condition.
-/
import Derived.Test.YtfckjjffdfkelaaGreatRro
import Derived.Test.YtfckjjffdfkelaaGreatSuSd
import Derived.Test.YtfckjjffdfkelaaGreatNB32
set_option maxRecDepth 10000
section
namespace Su
open Go Fly
set_option linter.unusedVariables false
noncomputable section
theorem qpr {a b:Iv} {n:Int}:qy (qci a b) n=true↔qy a n=true∧qy b n=true:=by
 constructor
 · intro h
   obtain ⟨h1,h2,h3⟩:=qL.1 h
   rw [qL,qL]
   unfold qci yf at h1 h2 h3
   cases ea:(ivN a).1 with
   | true=>rw [ea] at h1;cases h1
   | false =>
    cases eb:(ivN b).1 with
    | true=>rw [ea,eb] at h1;cases h1
    | false =>
     rw [ea,eb,Bool.or_self,cond_false,Jj] at h1 h2 h3
     obtain ⟨p1,p2,p3,p4,p5⟩:=yo (YL a) ea
     obtain ⟨q1,q2,q3,q4,q5⟩:=yo (YL b) eb
     rcases qdk (false,(max (ivN a).2.1 (ivN b).2.1,min (ivN a).2.2 (ivN b).2.2)) with e | ⟨_,_,_,_,e⟩
     · rw [e] at h1;cases h1
     · rw [e] at h2 h3
       simp only [] at h2 h3
       refine ⟨⟨rfl,?_,?_⟩,⟨rfl,?_,?_⟩⟩ <;> omega
 · exact fun ⟨h1,h2⟩=>ZF h1 h2
theorem qAl {a b:Iv} {m n:Int} (h1:qy (ckN (a,b)).1 m=true) (h2:qy (ckN (a,b)).2 n=true):qy a m=true∧qy b n=true:=by
 rw [qae] at h1 h2
 simp only [] at h1 h2
 cases h:((ivN a).1||(ivN b).1) with
 | true=>rw [h] at h1;cases h1
 | false =>
  rw [h,cond_false] at h1 h2
  exact ⟨by rw [← QJ];exact h1,by rw [← QJ];exact h2⟩
theorem qAm {a b:Ckp} {v k:Int} (h:yt (YK a b) v k=true):yt a v k=true:=by
 obtain ⟨r,h1,h2⟩:=jI.1 h
 unfold YK at h1 h2
 rw [Zz] at h1 h2
 obtain ⟨h3,h4⟩:=qAl h1 h2
 exact jI.2 ⟨r,(qpr.1 h3).1,(qpr.1 h4).1⟩
theorem qlJ {s:StD} {x:Su.Ce} {v k:Int} (hk:qy (stK s) k=true) (h1:qy x.i v=true) (h2:yt (x.d,x.p) v k=true):qy (qgr s x) v=true:=by
 obtain ⟨r,c1,c2⟩:=jI.1 h2
 unfold qgr QF
 refine ZF (ZF h1 ?_) ?_
 · have:=QU c1 hk
   rwa [show v-k+k=v by omega] at this
 · have:=qhx c2 hk
   rwa [show v+k-k=v by omega] at this
theorem qvC {s:StD} {x:Su.Ce} {v k:Int} (hk:qy (stK s) k=true) (h1:qy x.i v=true) (h2:yt (x.d,x.p) v k=true):yt (qek s x) v k=true :=
 qlz h2 (qve (qlJ hk h1 h2) hk (jI.1 h2).1)
theorem qlK {s:StD} {d:Su.Cc} {x:Su.Ce} {v:Su.Vl} {k:Int} {i:Nat} (hk:qy (stK s) k=true) (hw:SpW x.s∧Fw x.sl∧FmW x.fm) (hf:Fw v.f) :
 Qn d.type (y8 s i d x) v k=true↔Qn d.type x v k=true:=by
 have sp:∀ f:Int,Fw f→fI f=true→ofS x.fm f=true→(yO (Qm x.s (yI x.fm)) f=true↔yO x.s f=true):=fun f wf hf ho=>by
  rw [qvy hw.1 (qeV hw.2.2) wf]
  exact ⟨fun h=>h.1,fun h=>⟨h,qvx hw.2.2 wf hf ho⟩⟩
 constructor
 · intro h
   obtain ⟨hv,ht⟩:=y9 h
   rcases ht with ht | ht | ht
   · rw [qba ht hv] at h ⊢
     unfold y8 at h
     rw [decide_eq_false (by omega)] at h
     exact h
   · rw [qbb ht hv,Bool.and_eq_true] at h ⊢
     unfold y8 at h
     rw [decide_eq_true ht] at h
     obtain ⟨h1,h2⟩:=h
     have h1:qy (qgr s x) v.i=true:=h1
     have h2:yt (qek s x) v.i k=true:=h2
     unfold qgr QF at h1
     exact ⟨(qpr.1 (qpr.1 h1).1).1,qAm h2⟩
   · rw [qbc ht hv,Bool.and_eq_true] at h ⊢
     unfold y8 at h
     rw [decide_eq_false (by omega)] at h
     obtain ⟨h1,h2⟩:=h
     have h1:yO (Qm x.s (yI x.fm)) v.f=true:=h1
     have h2:ofS x.fm v.f=true:=h2
     exact ⟨((qvy hw.1 (qeV hw.2.2) hf).1 h1).1,h2⟩
 · intro h
   obtain ⟨hv,ht⟩:=y9 h
   rcases ht with ht | ht | ht
   · rw [qba ht hv] at h ⊢
     unfold y8
     rw [decide_eq_false (by omega)]
     exact h
   · rw [qbb ht hv,Bool.and_eq_true] at h ⊢
     unfold y8
     rw [decide_eq_true ht]
     exact ⟨qlJ hk h.1 h.2,qvC hk h.1 h.2⟩
   · rw [qbc ht hv,Bool.and_eq_true] at h ⊢
     unfold y8
     rw [decide_eq_false (by omega)]
     have hfi:=((yc hf hw.1).1 h.1).1
     exact ⟨(sp v.f hf hfi h.2).2 h.1,h.2⟩
theorem qvD {t:Int} {x:Su.Ce} {v:Su.Vl} {k:Int} (h:Qn t (qw x t) v k=true):Qn t x v k=true:=by
 obtain ⟨hv,ht⟩:=y9 h
 rcases ht with ht | ht | ht
 · rw [qba ht hv] at h ⊢;rw [qeQ ht] at h;exact h
 · rw [qbb ht hv] at h ⊢;rw [qeR ht] at h;exact h
 · rw [qbc ht hv] at h ⊢;rw [qeS ht] at h;exact h
theorem qAn {c:CoD} {s:StD} {row:List Su.Vl} {k:Int} {f:Nat→Su.Cc→Su.Ce→Su.Ce} (h:j9 c (qO c s f) row k=true) :
 s.1=false∧qy (stK s) k=true∧∃ (h1:s.2.2.2.2.length=c.2.1.length) (h2:row.length=c.2.1.length),∀ (i:Nat) (hi:i<c.2.1.length),Qn c.2.1[i].type (f i c.2.1[i] (s.2.2.2.2[i]'(by omega))) (row[i]'(by omega)) k=true:=by
 obtain ⟨hd,hl,hr,hk,hN⟩:=Jn.1 h
 obtain ⟨h2,P,h1,h3,e,hl',hg⟩:=qds hd
 rw [e] at hk hN
 refine ⟨h1,by rw [← QJ];exact hk,h2,hr,fun i hi=>?_⟩
 have hP:i<P.length:=by omega
 have hc:=hN i hi
 have hc:hsN c.2.1 P row k i=true:=hc
 rw [qbd hi hP (by omega)] at hc
 have:=(hg i hi).1
 rw [List.getElem?_eq_getElem hP] at this
 rw [soi this] at hc
 exact qvD hc
theorem qdt {c:CoD} {s:StD} {row:List Su.Vl} {k:Int} (hw:Sw s) (hf:∀ v∈row,Fw v.f):j9 c (JQ c s) row k=j9 c s row k:=by
 have h1:j9 c s row k=true→j9 c (JQ c s) row k=true:=fun h=>by
  obtain ⟨hd,hl,hr,hk,hN⟩:=Jn.1 h
  obtain ⟨P,hP,_,_,hh⟩:=qlB (c:=c) (s:=s) (N:=row) (k:=k) (f:=y8 s) hd hl hr hk (fun i hi=>(qCX (hw _ (List.getElem_mem (by omega))) i c.2.1[i]).1) hf (fun i hi=>by
   rw [qlK hk (hw _ (List.getElem_mem (by omega))) (hf _ (List.getElem_mem (by omega)))]
   have:=hN i hi
   rwa [qbd hi (by omega) (by omega)] at this)
  show j9 c (qO c s (y8 s)) row k=true
  rw [hP];exact hh
 have h2:j9 c (JQ c s) row k=true→j9 c s row k=true:=fun h=>by
  obtain ⟨hd,hk,hl,hr,hN⟩:=qAn h
  refine Jn.2 ⟨hd,hl,hr,hk,fun i hi=>?_⟩
  rw [qbd hi (by omega) (by omega)]
  exact (qlK hk (hw _ (List.getElem_mem (by omega))) (hf _ (List.getElem_mem (by omega)))).1 (hN i hi)
 cases ha:j9 c s row k with
 | true=>exact h1 ha
 | false =>
  cases hb:j9 c (JQ c s) row k with
  | false=>rfl
  | true=>rw [h2 hb] at ha;cases ha
theorem qaj {f:Int} (h:fI f=true):ofS qcq f=true:=by
 unfold ofS
 have e:okF qcq=false:=rfl
 rw [qvh,h,e];rfl
theorem qlL {c:CoD} {s:StD} {row:List Su.Vl} {k:Int} {f:Nat→Su.Cc→Su.Ce→Su.Ce} (hev:s.1=false→Ev c s) (hf:∀ v∈row,Fw v.f) (h:j9 c s row k=true)
 (hw:∀ (i:Nat) (d:Su.Cc) (x:Su.Ce),(f i d x).s=x.s) (hc:∀ (i:Nat) (d:Su.Cc) (x:Su.Ce) (v:Su.Vl),SpW x.s→Fw v.f→Qn d.type x v k=true→Qn d.type (f i d x) v k=true):j9 c (qO c s f) row k=true:=by
 obtain ⟨hd,hl,hr,hk,hN⟩:=Jn.1 h
 have ev:=hev hd
 obtain ⟨P,hP,_,_,hh⟩:=qlB (c:=c) (s:=s) (N:=row) (k:=k) (f:=f) hd hl hr hk (fun i hi=>by rw [hw];exact (ev.cell i hi).sp) hf (fun i hi=>by
  have:=hN i hi
  rw [qbd hi (by omega) (by omega)] at this
  exact hc i _ _ _ (ev.cell i hi).sp (hf _ (List.getElem_mem (by omega))) this)
 rw [hP];exact hh
theorem qlM {t:Int} {x:Su.Ce} {v:Su.Vl} {k:Int} (F:Fm) (hF:t=3→yO x.s v.f=true→ofS F v.f=true) (h:Qn t x v k=true):Qn t ⟨x.f,x.t,x.i,x.d,x.p,x.s,x.sl,F⟩ v k=true:=by
 obtain ⟨hv,ht⟩:=y9 h
 rcases ht with ht | ht | ht
 · rw [qba ht hv] at h ⊢;exact h
 · rw [qbb ht hv] at h ⊢;exact h
 · rw [qbc ht hv,Bool.and_eq_true] at h ⊢
   exact ⟨h.1,hF ht h.1⟩
theorem qlN {c:CoD} {s:StD} {row:List Su.Vl} {k:Int} (hw:Sw s) (hf:∀ v∈row,Fw v.f) (h:j9 c s row k=true):j9 c (ZE c s) row k=true:=by
 rw [← qdt hw hf] at h
 refine qlL (qvB hw) hf h (fun _ _ _=>rfl) fun i d x v wx wf hc=>?_
 exact qlM qcq (fun _ hs=>qaj ((yc wf wx).1 hs).1) hc
def qgd (lo hi:Int):Int:=((qbZ (qcg hi (YJ (YY lo hi)) 1).toNat (qcg (YY lo hi) (YJ lo) 1).toNat:Nat):Int)
def qAo (n:Spn) (id:Int):Fm :=
 bif n.1 then qnd else bif !fI n.2.1 then qnd else bif !fI n.2.2 then qnd else
 bif decide (id<0) then QE (false,(YY n.2.1 n.2.2,([],qgd n.2.1 n.2.2)))
 else QE (false,(YY n.2.1 n.2.2,([⟨id,qgd n.2.1 n.2.2⟩],0)))
def qbf (s:Spn) (id:Int):Fm:=qAo (qk s) id
theorem qvE {x n:Int} (h:Up x n):qH (bK x.toNat)=false:=by
 rcases h with ⟨h,_⟩ | rfl
 · exact (qai.1 h).1
 · rfl
theorem qCY {x n:Int} (h:Up x n) (hf:fI x=true):n≤fv x.toNat:=by
 rcases h with ⟨_,h⟩ | rfl
 · exact h
 · cases hf
theorem qFF {x y n m:Int} (wx:Fw x) (wy:Fw y) (hx:Up x n) (hy:Up y m):Up (mxI x y) n∧Up (mxI x y) m:=by
 have nx:JP x=false:=qvE hx
 have ny:JP y=false:=qvE hy
 have big:∀ {x y:Int} {n m:Int},Up x n→Up y m→ky x≤ky y→Up y n:=by
  intro x y n m hx hy hk
  rcases hy with ⟨fy,hy⟩ | rfl
  · rcases hx with ⟨fx,hx⟩ | rfl
    · exact .inl ⟨fy,by have:=(qlI fx fy).2 hk;omega⟩
    · have:=qnn fy
      rw [qi8] at hk;omega
  · exact .inr rfl
 rw [qCL wx wy nx ny]
 by_cases h:ky x<ky y
 · rw [if_pos h];exact ⟨big hx hy (by omega),hy⟩
 · rw [if_neg h];exact ⟨hx,big hy hx (by omega)⟩
theorem qAp {l:List Tm} {t:Tm} (hz:zI t.c=false) (ht:t∈l):t∈jl l:=List.mem_filter.2 ⟨ht,by rw [hz];rfl⟩
theorem qvF {t:Tm} (hz:zI t.c=false):jl [t]=[t]:=by unfold jl;simp [hz]
theorem qCZ (f:Int):fv (nzI f).toNat=fv f.toNat:=by
 unfold nzI
 cases h:zI f with
 | false=>rfl
 | true =>
  rw [cond_true,YP (f:=f.toNat) (Nat.eq_of_beq_eq_true h)];rfl
theorem qAq {s:Spn} {f id:Int} (ws:SpW s) (wf:Fw f) (h:yO s f=true):ofS (qbf s id) f=true:=by
 obtain ⟨hf,h0,h1,h2⟩:=(yc wf ws).1 h
 have wn:=(jQ ws).w
 unfold qbf qAo
 generalize qk s=n at *
 rw [h0,cond_false]
 cases f1:fI n.2.1 with
 | false=>exact qaj hf
 | true =>
 cases f2:fI n.2.2 with
 | false=>exact qaj hf
 | true =>
 rw [Bool.not_true,cond_false,cond_false]
 have g1:=(qlI f1 hf).2 h1
 have g2:=(qlI hf f2).2 h2
 have hh:Fw 4602678819172646912:=⟨by decide,by decide⟩
 have wmul:∀ {a:Int},Fw a→Fw (qE2 a 4602678819172646912 0):=fun {a} ha=>qdr (qzs 0)
 have wm:Fw (YY n.2.1 n.2.2):=YQ (wmul wn.1) (wmul wn.2) 0
 have e:qgd n.2.1 n.2.2=mxI (qcg n.2.2 (YJ (YY n.2.1 n.2.2)) 1) (qcg (YY n.2.1 n.2.2) (YJ n.2.1) 1):=rfl
 have key:∀ m r:Int,fI m=true→fI r=true→m=YY n.2.1 n.2.2→r=qgd n.2.1 n.2.2→(fv f.toNat-fv m.toNat).natAbs≤avF r:=by
  intro m r fm fr em er
  rw [← em] at wm e
  rw [e] at er
  have un:Up (YJ m) (-fv m.toNat):=by
   obtain ⟨k1,k2⟩:=qjl (ZG wm) (jC.1 fm)
   refine .inl ⟨jC.2 (by unfold YJ;rw [Int.toNat_natCast];exact k1),?_⟩
   unfold YJ;rw [Int.toNat_natCast,k2];exact Int.le_refl _
  have ul:Up (YJ n.2.1) (-fv n.2.1.toNat):=by
   obtain ⟨k1,k2⟩:=qjl (ZG wn.1) (jC.1 f1)
   refine .inl ⟨jC.2 (by unfold YJ;rw [Int.toNat_natCast];exact k1),?_⟩
   unfold YJ;rw [Int.toNat_natCast,k2];exact Int.le_refl _
  obtain ⟨u1,u2⟩:=qFF (YQ wn.2 (qjj wm) 1) (YQ wm (qjj wn.1) 1) (qbe (qeW f2) un) (qbe (qeW fm) ul)
  rw [← er] at u1 u2
  have v1:=qCY u1 fr
  have v2:=qCY u2 fr
  unfold avF
  omega
 have fin:∀ (l:List Tm) (r0:Int),(∀ m r,fI m=true→fI r0=true→(∀ t∈l,fI t.c=true)→m=YY n.2.1 n.2.2→r=qje (false,(nzI m,(jl l,nzI r0)))→(fv f.toNat-fv m.toNat).natAbs≤r)→ofS (QE (false,(YY n.2.1 n.2.2,(l,r0)))) f=true:=by
  intro l r0 hl
  rw [qce]
  generalize hm:YY n.2.1 n.2.2=m at *
  show ofS (bif (fI (nzI m)&&fI (nzI r0))&&!((jl l).any fun t=>!fI t.c) then ((false,(nzI m,(jl l,nzI r0))):Fm) else qnd) f=true
  have fz:∀ x:Int,fI (nzI x)=true→fI x=true:=fun x hx=>by
   unfold nzI at hx
   cases hz:zI x with
   | false=>rw [hz] at hx;exact hx
   | true=>exact jC.2 (by rw [Nat.eq_of_beq_eq_true hz];exact Nat.zero_le _)
  cases c1:fI (nzI m) with
  | false=>exact qaj hf
  | true =>
  cases c2:fI (nzI r0) with
  | false=>exact qaj hf
  | true =>
  cases c3:((jl l).any fun t=>!fI t.c) with
  | true=>exact qaj hf
  | false =>
   have ft:∀ t∈l,fI t.c=true:=fun t ht=>by
    cases hz:zI t.c with
    | true=>exact jC.2 (by rw [Nat.eq_of_beq_eq_true hz];exact Nat.zero_le _)
    | false =>
     have hin:t∈jl l:=qAp hz ht
     have:=List.any_eq_false.1 c3 t hin
     simpa using this
   have:=hl m _ (fz _ c1) (fz _ c2) ft rfl rfl
   show ofS (false,(nzI m,(jl l,nzI r0))) f=true
   unfold ofS
   rw [qvh,hf]
   show (!!true&&(_||decide ((fv f.toNat-fv (nzI m).toNat).natAbs≤_)))=true
   rw [qCZ,decide_eq_true this,Bool.or_true];rfl
 have av0:∀ r:Int,avF (nzI r)=avF r:=fun r=>by unfold avF;rw [qCZ]
 cases decide (id<0) with
 | true =>
  refine fin [] _ fun m r fm fr _ em er=>?_
  have:=key m _ fm fr em rfl
  rw [er]
  show _≤qf9 (jl []) (avF (nzI (qgd n.2.1 n.2.2)))
  rw [av0];exact this
 | false =>
  refine fin [⟨id,qgd n.2.1 n.2.2⟩] 0 fun m r fm fr ft em er=>?_
  have hk:(fv f.toNat-fv m.toNat).natAbs≤avF (qgd n.2.1 n.2.2):=key m _ fm (ft _ (List.mem_singleton.2 rfl)) em rfl
  rw [er]
  show _≤qf9 (jl [(⟨id,qgd n.2.1 n.2.2⟩:Tm)]) (avF (nzI 0))
  cases hz:zI (qgd n.2.1 n.2.2) with
  | false =>
   rw [qvF hz]
   show _≤avF (nzI 0)+avF (qgd n.2.1 n.2.2)
   omega
  | true =>
   have:avF (qgd n.2.1 n.2.2)=0:=by unfold avF;rw [YP (Nat.eq_of_beq_eq_true hz)];rfl
   omega
def qvG (i:Nat) (_:Su.Cc) (x:Su.Ce):Su.Ce:=⟨x.f,x.t,x.i,x.d,x.p,x.s,x.sl,qbf x.s (i:Int)⟩
def qlO (c:CoD) (s:StD):StD:=qO c (JQ c s) qvG
theorem qlP {c:CoD} {s:StD} {row:List Su.Vl} {k:Int} (hw:Sw s) (hf:∀ v∈row,Fw v.f) (h:j9 c s row k=true):j9 c (qlO c s) row k=true:=by
 rw [← qdt hw hf] at h
 refine qlL (qvB hw) hf h (fun _ _ _=>rfl) fun i d x v wx wf hc=>?_
 exact qlM _ (fun _ hs=>qAq wx wf hs) hc
theorem qvH {c:Ckp} {v k:Int} (k1:k≤34359738368) (h:yt c v k=true):yt (js c) v (k+1)=true:=by
 obtain ⟨r,h1,h2⟩:=jI.1 h
 refine jI.2 ⟨by omega,?_⟩
 unfold js
 rw [Zz]
 have m1:qy (false,(-1,-1)) (-1)=true:=by decide
 have p1:qy (false,(1,1)) 1=true:=by decide
 refine qgb ?_ ?_
 · have:=QU h1 m1
   rwa [show v-k+-1=v-(k+1) by omega] at this
 · have:=QU h2 p1
   rwa [show v+k+1=v+(k+1) by omega] at this
theorem qrb {t:Int} {x:Su.Ce} {v:Su.Vl} {k:Int} (k1:k≤34359738368) (h:Qn t x v k=true):Qn t (qdm x (js (x.d,x.p))) v (k+1)=true:=by
 obtain ⟨hv,ht⟩:=y9 h
 rcases ht with ht | ht | ht
 · rw [qba ht hv] at h ⊢;exact h
 · rw [qbb ht hv,Bool.and_eq_true] at h ⊢
   exact ⟨h.1,qvH k1 h.2⟩
 · rw [qbc ht hv] at h ⊢;exact h
theorem qnp {c:CoD} {s:StD} {row:List Su.Vl} {k:Int} (hw:Sw s) (hf:∀ v∈row,Fw v.f) (k1:k≤34359738368) (h:j9 c s row k=true):j9 c (ZC c s) row (k+1)=true:=by
 obtain ⟨hd,hl,hr,hk,hN⟩:=Jn.1 h
 have cell:∀ (i:Nat) (hi:i<c.2.1.length),jj (qw (qdm (s.2.2.2.2[i]'(by omega)) (js ((s.2.2.2.2[i]'(by omega)).d,(s.2.2.2.2[i]'(by omega)).p))) c.2.1[i].type) c.2.1[i].type=false ∧
  Qn c.2.1[i].type (qw (qdm (s.2.2.2.2[i]'(by omega)) (js ((s.2.2.2.2[i]'(by omega)).d,(s.2.2.2.2[i]'(by omega)).p))) c.2.1[i].type) (row[i]'(by omega)) (k+1)=true:=fun i hi=>by
  have:=hN i hi
  rw [qbd hi (by omega) (by omega)] at this
  exact qlA (hw _ (List.getElem_mem (by omega))).1 (hf _ (List.getElem_mem (by omega))) (qrb k1 this)
 obtain ⟨P,e,hP,hg⟩:=qvA (c:=c) (s:=s) (f:=fun _ _ x=>qdm x (js (x.d,x.p))) hd hl (qL.1 hk).1 fun i hi=>(cell i hi).1
 have et:ZC c s=mkS (ye (ivN (stK s)) (yf 1 1)) P:=by
  unfold ZC
  simp only [e]
  rfl
 rw [et]
 refine Jn.2 ⟨rfl,hP,hr,?_,fun i hi=>?_⟩
 · rw [qvf]
   have p1:qy (yf 1 1) 1=true:=by decide
   exact QU (by rw [QJ];exact hk) p1
 · have h2:i<P.length:=by omega
   show hsN c.2.1 P row (k+1) i=true
   rw [qbd hi h2 (by omega)]
   have:=hg i hi
   rw [List.getElem?_eq_getElem h2] at this
   rw [soi this]
   exact (cell i hi).2
end
end Su
end
section
namespace Su
open Go Fly
set_option linter.unusedVariables false
noncomputable section
def qvI  (s:(Bool×(Int×Int))) (id:Int):Option (Bool×(Int×((List Su.Tm)×Int))) :=
 (bif (Su.Qx [s]).1 then
 some (true,((0:Int),([],(0:Int))))
 else
  (bif (!(Su.jD (Su.bK (Int.toNat (Su.Qx [s]).2.1)))) then
  some (true,((0:Int),([],(0:Int))))
 else
  (bif (!(Su.jD (Su.bK (Int.toNat (Su.Qx [s]).2.2)))) then
  some (true,((0:Int),([],(0:Int))))
 else
  (bif (decide ((id<0))) then
  some (Su.QE (false,((Su.YY (Su.Qx [s]).2.1 (Su.Qx [s]).2.2),([],(((Su.qbZ (Int.toNat (((Su.Zw (Int.toNat (Su.Qx [s]).2.2) (Int.toNat (((Su.Qu (Int.toNat (Su.YY (Su.Qx [s]).2.1 (Su.Qx [s]).2.2))):Nat):Int)) 1):Nat):Int)) (Int.toNat (((Su.Zw (Int.toNat (Su.YY (Su.Qx [s]).2.1 (Su.Qx [s]).2.2)) (Int.toNat (((Su.Qu (Int.toNat (Su.Qx [s]).2.1)):Nat):Int)) 1):Nat):Int))):Nat):Int)))))
 else
  some (Su.QE (false,((Su.YY (Su.Qx [s]).2.1 (Su.Qx [s]).2.2),([(Su.Tm.mk id (((Su.qbZ (Int.toNat (((Su.Zw (Int.toNat (Su.Qx [s]).2.2) (Int.toNat (((Su.Qu (Int.toNat (Su.YY (Su.Qx [s]).2.1 (Su.Qx [s]).2.2))):Nat):Int)) 1):Nat):Int)) (Int.toNat (((Su.Zw (Int.toNat (Su.YY (Su.Qx [s]).2.1 (Su.Qx [s]).2.2)) (Int.toNat (((Su.Qu (Int.toNat (Su.Qx [s]).2.1)):Nat):Int)) 1):Nat):Int))):Nat):Int))],(0:Int)))))))))
def qps (p:Spn×Int):Option Fm:=some (qbf p.1 p.2)
theorem qvJ (p:Spn×Int) (y:Fm) (hg:(dc yn (d1 (cI .i64))).good p) (h:qps p=some y):qvI p.1 p.2=some y:=by
 obtain ⟨s,id⟩:=p
 have:=soi h;subst this
 have hs:SpW s:=⟨j0.1 hg.1.2.1,j0.1 hg.1.2.2⟩
 unfold qvI qbf qAo
 simp only []
 rw [spJ1 hs]
 have hf:∀ f:Int,jD (bK (Int.toNat f))=fI f:=fun _=>rfl
 rw [hf,hf]
 cases (qk s).1 with
 | true=>rfl
 | false =>
  cases fI (qk s).2.1 with
  | false=>rfl
  | true =>
   cases fI (qk s).2.2 with
   | false=>rfl
   | true=>cases decide (id<0) <;> rfl
end
end Su
end
section
namespace Su
open Go Fly
set_option linter.unusedVariables false
noncomputable section
abbrev qdu:=(Int×((List Su.Cc)×((List Su.T)×((List Su.T)×((List Su.T)×((List Su.T)×(Int×((List Su.Ce)×(Int×(Int×((List Su.T)×(Bool×(Bool×(Int×(Int×(Nat×((List Su.T)×(Bool×(Bool×(Int×(Int×(Nat×Unit))))))))))))))))))))))
def qcw:qdu→Option (qdu ⊕ (Lp qdu (Bool×(Bool×(Int×(Int×(List Su.Ce))))))):=fun p1=>(bif (decide ((p1.2.2.2.2.2.2.2.2.2.1<p1.2.2.2.2.2.2.2.2.1))) then
 ((Su.idx p1.2.2.2.2.2.2.2.1 p1.2.2.2.2.2.2.2.2.2.1)).bind fun x2 =>
 ((Su.idx p1.2.1 p1.2.2.2.2.2.2.2.2.2.1)).bind fun x3 =>
 (bif (Su.jj (Su.qw (Su.Ce.mk (Su.Ce.f x2) (Su.Ce.t x2) x2.3 x2.4 x2.5 x2.6 (Su.Ce.sl x2) (Su.qbf x2.6 p1.2.2.2.2.2.2.2.2.2.1)) (Su.Cc.type x3)) (Su.Cc.type x3)) then
 some (.inr (.ret (true,(false,((0:Int),((0:Int),[]))))))
 else
  (bif ((true&&(Nat.beq p1.2.2.2.2.2.2.2.2.2.2.2.2.2.2.2.2.2.2.2.2.2.1 (List.length p1.2.2.2.2.2.2.2.2.2.2.2.2.2.2.2.2.1)))&&(Nat.ble ((List.length p1.2.2.2.2.2.2.2.2.2.2.2.2.2.2.2.2.1)+(List.length [(Su.view 14 (Su.qw (Su.Ce.mk (Su.Ce.f x2) (Su.Ce.t x2) x2.3 x2.4 x2.5 x2.6 (Su.Ce.sl x2) (Su.qbf x2.6 p1.2.2.2.2.2.2.2.2.2.1)) (Su.Cc.type x3)))])) 549755813888)) then
  some (.inl (p1.1,(p1.2.1,(p1.2.2.1,(p1.2.2.2.1,(p1.2.2.2.2.1,(p1.2.2.2.2.2.1,(p1.2.2.2.2.2.2.1,(p1.2.2.2.2.2.2.2.1,(p1.2.2.2.2.2.2.2.2.1,((Go.IntKind.wrap .i64 (p1.2.2.2.2.2.2.2.2.2.1+1)),(p1.2.2.2.2.2.2.2.2.2.2.1,(p1.2.2.2.2.2.2.2.2.2.2.2.1,(p1.2.2.2.2.2.2.2.2.2.2.2.2.1,(p1.2.2.2.2.2.2.2.2.2.2.2.2.2.1,(p1.2.2.2.2.2.2.2.2.2.2.2.2.2.2.1,(p1.2.2.2.2.2.2.2.2.2.2.2.2.2.2.2.1,((p1.2.2.2.2.2.2.2.2.2.2.2.2.2.2.2.2.1++[(Su.view 14 (Su.qw (Su.Ce.mk (Su.Ce.f x2) (Su.Ce.t x2) x2.3 x2.4 x2.5 x2.6 (Su.Ce.sl x2) (Su.qbf x2.6 p1.2.2.2.2.2.2.2.2.2.1)) (Su.Cc.type x3)))]),(p1.2.2.2.2.2.2.2.2.2.2.2.2.2.2.2.2.2.1,(p1.2.2.2.2.2.2.2.2.2.2.2.2.2.2.2.2.2.2.1,(p1.2.2.2.2.2.2.2.2.2.2.2.2.2.2.2.2.2.2.2.1,(p1.2.2.2.2.2.2.2.2.2.2.2.2.2.2.2.2.2.2.2.2.1,((List.length (p1.2.2.2.2.2.2.2.2.2.2.2.2.2.2.2.2.1++[(Su.view 14 (Su.qw (Su.Ce.mk (Su.Ce.f x2) (Su.Ce.t x2) x2.3 x2.4 x2.5 x2.6 (Su.Ce.sl x2) (Su.qbf x2.6 p1.2.2.2.2.2.2.2.2.2.1)) (Su.Cc.type x3)))])),())))))))))))))))))))))))
 else
  none))
 else
  some (.inr (.exit 0 (p1.1,(p1.2.1,(p1.2.2.1,(p1.2.2.2.1,(p1.2.2.2.2.1,(p1.2.2.2.2.2.1,(p1.2.2.2.2.2.2.1,(p1.2.2.2.2.2.2.2.1,(p1.2.2.2.2.2.2.2.2.1,(p1.2.2.2.2.2.2.2.2.2.1,(p1.2.2.2.2.2.2.2.2.2.2.1,(p1.2.2.2.2.2.2.2.2.2.2.2.1,(p1.2.2.2.2.2.2.2.2.2.2.2.2.1,(p1.2.2.2.2.2.2.2.2.2.2.2.2.2.1,(p1.2.2.2.2.2.2.2.2.2.2.2.2.2.2.1,(p1.2.2.2.2.2.2.2.2.2.2.2.2.2.2.2.1,(p1.2.2.2.2.2.2.2.2.2.2.2.2.2.2.2.2.1,(p1.2.2.2.2.2.2.2.2.2.2.2.2.2.2.2.2.2.1,(p1.2.2.2.2.2.2.2.2.2.2.2.2.2.2.2.2.2.2.1,(p1.2.2.2.2.2.2.2.2.2.2.2.2.2.2.2.2.2.2.2.1,(p1.2.2.2.2.2.2.2.2.2.2.2.2.2.2.2.2.2.2.2.2.1,(p1.2.2.2.2.2.2.2.2.2.2.2.2.2.2.2.2.2.2.2.2.2.1,())))))))))))))))))))))))))
def qAr  (fu:Nat) (c:(Int×((List Su.Cc)×((List Su.T)×((List Su.T)×((List Su.T)×((List Su.T)×Int))))))) (s:(Bool×(Bool×(Int×(Int×(List Su.Ce)))))):Option (Bool×(Bool×(Int×(Int×(List Su.Ce))))) :=
 ((Su.JR (c,s))).bind fun x0 =>
 (bif x0.1 then
 some (true,(false,((0:Int),((0:Int),[]))))
 else
  (bif (!(decide (((((List.length x0.2.2.2.2):Nat):Int)=(((List.length c.2.1):Nat):Int))))) then
  some (true,(false,((0:Int),((0:Int),[]))))
 else
  (bif (Su.qJ [(x0.2.1,(x0.2.2.1,x0.2.2.2.1))]).1 then
  some (true,(false,((0:Int),((0:Int),[]))))
 else
  (itP fu (qcw) (c.1,(c.2.1,(c.2.2.1,(c.2.2.2.1,(c.2.2.2.2.1,(c.2.2.2.2.2.1,(c.2.2.2.2.2.2,(x0.2.2.2.2,((((List.length x0.2.2.2.2):Nat):Int),((0:Int),([],(false,(false,((0:Int),((0:Int),(0,([],(false,((Su.qJ [(x0.2.1,(x0.2.2.1,x0.2.2.2.1))]).1,((Su.qJ [(x0.2.1,(x0.2.2.1,x0.2.2.2.1))]).2.1,((Su.qJ [(x0.2.1,(x0.2.2.1,x0.2.2.2.1))]).2.2,(0,()))))))))))))))))))))))).bind fun x4 =>
  (match x4 with
 | .exit i5 p6=>(bif (Nat.beq i5 0) then
  ((Su.sub p6.2.2.2.2.2.2.2.2.2.2.2.2.2.2.2.2.1 0 p6.2.2.2.2.2.2.2.2.2.2.2.2.2.2.2.2.2.2.2.2.2.1)).bind fun x7 =>
  (((((Su.unR (Su.rCe) x7)).bind fun x8 =>
  some (p6.2.2.2.2.2.2.2.2.2.2.2.2.2.2.2.2.2.2.2.2.1,x8)).bind fun x9 =>
  some (p6.2.2.2.2.2.2.2.2.2.2.2.2.2.2.2.2.2.2.2.1,x9)).bind fun x10 =>
  some (p6.2.2.2.2.2.2.2.2.2.2.2.2.2.2.2.2.2.2.1,x10)).bind fun x11 =>
  some (p6.2.2.2.2.2.2.2.2.2.2.2.2.2.2.2.2.2.1,x11)
 else
  none)
 | .ret o12=>some o12))))
theorem qAs (c:CoD) (s:StD) (K:Iv) (hl:s.2.2.2.2.length=c.2.1.length) (hs:s.2.2.2.2.length≤1000000) :
 jU (c.2.1.length+1) qcw (YZ c s K ((0:Nat):Int) []) (qi9 (.ret jw) (fun P=>.exit 0 (YZ c s K (c.2.1.length:Int) P)) (qX (jo c.2.1 s.2.2.2.2 (qvG)) c.2.1.length)):=by
 have hmx:s.2.2.2.2.length≤maxLen:=by rw [qK];omega
 refine Jk (mk:=fun i P=>YZ c s K (i:Int) P) ?_ ?_ ?_
 · intro i P x hi hP ho
   have i1:i<s.2.2.2.2.length:=by omega
   unfold jo at ho
   rw [List.getElem?_eq_getElem hi,List.getElem?_eq_getElem i1] at ho
   simp only [] at ho
   have hb:Nat.ble (P.length+1) 549755813888=true:=Nat.ble_eq_true_of_le (by omega)
   unfold YZ
   simp only [qcw,ltN,decide_eq_true i1,cond_true,ixl i1,ixl hi,Option.bind_some]
   generalize c.2.1[i]=d at *
   generalize s.2.2.2.2[i]=x0 at *
   have hf:qvG i d x0=⟨x0.f,x0.t,x0.i,x0.d,x0.p,x0.s,x0.sl,qbf x0.s (i:Int)⟩:=by rfl
   rw [hf] at ho
   rcases Bool.eq_false_or_eq_true (jj (qw (⟨x0.f,x0.t,x0.i,x0.d,x0.p,x0.s,x0.sl,qbf x0.s (i:Int)⟩) d.type) d.type) with hn | hn
   · exact absurd ((qE hn).symm.trans ho) (by simp)
   · have:=soi ((qz hn).symm.trans ho);subst this
     refine (qz hn).trans ?_
     simp only [List.length_map,List.length_cons,List.length_nil,Nat.zero_add,qlp,hb,Bool.and_self,cond_true,YO,w1 i1 hmx]
     all_goals rfl
 · intro i P hi hP ho
   have i1:i<s.2.2.2.2.length:=by omega
   unfold jo at ho
   rw [List.getElem?_eq_getElem hi,List.getElem?_eq_getElem i1] at ho
   simp only [] at ho
   have hb:Nat.ble (P.length+1) 549755813888=true:=Nat.ble_eq_true_of_le (by omega)
   unfold YZ
   simp only [qcw,ltN,decide_eq_true i1,cond_true,ixl i1,ixl hi,Option.bind_some]
   generalize c.2.1[i]=d at *
   generalize s.2.2.2.2[i]=x0 at *
   have hf:qvG i d x0=⟨x0.f,x0.t,x0.i,x0.d,x0.p,x0.s,x0.sl,qbf x0.s (i:Int)⟩:=by rfl
   rw [hf] at ho
   rcases Bool.eq_false_or_eq_true (jj (qw (⟨x0.f,x0.t,x0.i,x0.d,x0.p,x0.s,x0.sl,qbf x0.s (i:Int)⟩) d.type) d.type) with hn | hn
   · exact (qE hn).trans rfl
   · exact absurd ((qz hn).symm.trans ho) (by simp)
 · intro P hP
   unfold YZ
   simp only [qcw,ltN,hl,decide_eq_false (Nat.lt_irrefl _),cond_false]
def qjm (p:CoD×StD):Option StD:=bif smS p.2 then some (qlO p.1 p.2) else none
theorem qAt (p:CoD×StD) (y:StD) (hg:(dc cCo (d1 cSt)).good p) (h:qjm p=some y):∃ n,qAr n p.1 p.2=some y:=by
 obtain ⟨c,s⟩:=p
 obtain ⟨hm,h⟩:=qj h
 have:=soi h;subst this
 have hm:smS s=true:=hm
 refine ⟨c.2.1.length+1,?_⟩
 show qAr (c.2.1.length+1) c s=some (qlO c s)
 unfold qAr qlO
 refine obB (x:=JQ c s) (show JR (c,s)=_ from by unfold JR;rw [show smS (c,s).2=true from hm];rfl) ?_
 have hm:=Nat.le_trans (qed (c:=c) (s:=s) (f:=y8 s)) (JC hm)
 have hm:(JQ c s).2.2.2.2.length≤1000000:=hm
 generalize JQ c s=s at *
 rcases Bool.eq_false_or_eq_true s.1 with hd | hd
 · rw [show qO c s _=jw from qE hd];exact qE hd
 · refine (qz hd).trans ?_
   by_cases hl:s.2.2.2.2.length=c.2.1.length
   · refine (qz (by rw [lnE,decide_eq_true hl];rfl)).trans ?_
     rcases Bool.eq_false_or_eq_true (qJ [stK s]).1 with hK | hK
     · rw [show qO c s _=jw from (qz hd).trans ((qz (by rw [decide_eq_true hl];rfl)).trans (qE hK))]
       exact qE hK
     · refine (qz hK).trans ?_
       rw [j8 _ hd hl hK]
       have hr:=qAs c s (qJ [stK s]) hl hm _ (Nat.le_refl _)
       refine obB hr ?_
       cases hb:qX (jo c.2.1 s.2.2.2.2 (qvG)) c.2.1.length with
       | none=>rfl
       | some P=>exact obB (qcn P) (qu6 P (qJ [stK s]) false)
   · rw [show qO c s _=jw from (qz hd).trans (qE (by rw [decide_eq_false hl];rfl))]
     exact qE (by rw [lnE,decide_eq_false hl];rfl)
end
end Su
end
section
namespace Su
open Go Fly
set_option linter.unusedVariables false
noncomputable section
theorem qhz (x:Fm):(QE x).2.2.1.length≤x.2.2.1.length:=by
 rw [qce]
 cases (fI (nzI x.2.1)&&fI (nzI x.2.2.2))&&!((jl x.2.2.1).any fun t=>!fI t.c) with
 | true=>exact List.length_filter_le _ _
 | false=>exact Nat.zero_le _
theorem qAu (s:Spn) (id:Int):(qbf s id).2.2.1.length≤1:=by
 unfold qbf qAo
 cases (qk s).1 with
 | true=>exact Nat.zero_le _
 | false =>
  cases fI (qk s).2.1 with
  | false=>exact Nat.zero_le _
  | true =>
   cases fI (qk s).2.2 with
   | false=>exact Nat.zero_le _
   | true =>
    cases decide (id<0) with
    | true=>exact Nat.le_trans (qhz _) (Nat.zero_le _)
    | false=>exact qhz _
theorem qjn {s:StD} (h:smS s=true) {x:Su.Ce} (hx:x∈s.2.2.2.2):x.fm.2.2.1.length≤1000000:=by
 unfold smS at h
 rw [Bool.and_eq_true] at h
 exact Nat.le_of_ble_eq_true (List.all_eq_true.1 h.2 x hx)
theorem qeX {c:CoD} {s:StD} {f:Nat→Su.Cc→Su.Ce→Su.Ce} (hm:smS s=true) (hf:∀ (i:Nat) (d:Su.Cc) (x:Su.Ce),x∈s.2.2.2.2→(f i d x).fm.2.2.1.length≤1000000):smS (qO c s f)=true:=by
 cases h:(qO c s f).1 with
 | true=>rw [qra h];rfl
 | false =>
  obtain ⟨h2,P,_,_,e,hl,hg⟩:=qds h
  rw [e]
  refine qvg (by have:=JC hm;omega) fun x hx=>?_
  obtain ⟨j,hj,rfl⟩:=List.mem_iff_getElem.1 hx
  have:=(hg j (by omega)).1
  rw [List.getElem?_eq_getElem hj] at this
  rw [soi this]
  exact Nat.le_trans (qAf _ _) (hf _ _ _ (List.getElem_mem _))
theorem qnq {c:CoD} {s:StD} (hm:smS s=true):smS (JQ c s)=true:=qeX hm fun i d x hx=>by
 have:(y8 s i d x).fm=x.fm:=by unfold y8;cases decide (d.type=2) <;> rfl
 rw [this];exact qjn hm hx
theorem qvK {c:CoD} {s:StD} (hm:smS s=true):smS (ZE c s)=true:=qeX (qnq hm) fun i d x hx=>Nat.zero_le _
theorem qFG {c:CoD} {s:StD} (hm:smS s=true):smS (qlO c s)=true:=qeX (qnq hm) fun i d x hx=>Nat.le_trans (qAu _ _) (by decide)
theorem qAv {c:CoD} {s:StD} (hm:smS s=true):smS (ZC c s)=true:=by
 have h:=qeX (c:=c) (f:=fun _ _ x=>qdm x (js (x.d,x.p))) hm fun i d x hx=>qjn (x:=x) hm hx
 unfold ZC
 simp only []
 generalize qO c s (fun _ _ x=>qdm x (js (x.d,x.p)))=t at *
 cases ht:t.1 with
 | true=>exact h
 | false =>
  refine qvg (JC h) fun x hx=>qjn h hx
theorem st_w {s:StD} (g:∀ x∈s.2.2.2.2,dCe.good x):Sw s:=fun x hx=>by
 obtain ⟨_,_,_,_,_,_,_,_,_,_,_,_,h1,h2,h3,_,h4,⟨h5,_⟩,h6⟩:=g x hx
 exact ⟨⟨j0.1 h1,j0.1 h2⟩,j0.1 h3,⟨j0.1 h4,j0.1 h6,fun t ht=>j0.1 (h5 t ht).2⟩⟩
end
end Su
end
section
namespace Su
open Go Fly
set_option linter.unusedVariables false
noncomputable section
def qpt  (c:(Int×((List Su.Cc)×((List Su.T)×((List Su.T)×((List Su.T)×((List Su.T)×Int))))))) (s:(Bool×(Bool×(Int×(Int×(List Su.Ce)))))) (row:(List Su.Vl)) (k:Int):Option Bool :=
 (bif (Su.qa6 c [s]) then
 some true
 else
  (bif (decide ((40<(((List.length row):Nat):Int)))) then
  some true
 else
  (bif (decide ((k<(-34359738368)))) then
  some true
 else
  (bif (decide ((34359738368<k))) then
  some true
 else
  ((Su.Qy (c,(s,(row,k))))).bind fun x0 =>
  ((Su.JR (c,s))).bind fun x1 =>
  ((Su.Qy (c,(x1,(row,k))))).bind fun x2 =>
  ((Su.qcr (c,s))).bind fun x3 =>
  ((Su.Qy (c,(x3,(row,k))))).bind fun x4 =>
  ((Su.qjm (c,s))).bind fun x5 =>
  ((Su.Qy (c,(x5,(row,k))))).bind fun x6 =>
  ((Su.qeM (c,s))).bind fun x7 =>
  ((Su.Qy (c,(x7,(row,(Go.IntKind.wrap .i64 (k+1))))))).bind fun x8 =>
  (bif (decide ((x0=x2))) then
  (bif (!x0) then
  some true
 else
  (bif x4 then
  (bif x6 then
  some x8
 else
  some false)
 else
  some false))
 else
  some false)))))
def qpu (_:CoD×(StD×(List Su.Vl×Int))):Option Bool:=some true
theorem qvL (p:CoD×(StD×(List Su.Vl×Int))) (y:Bool) (hg:(dc cCo (dc cSt (dc (cL rVl) (d1 (cI .i64))))).good p) (h:qpu p=some y):qpt p.1 p.2.1 p.2.2.1 p.2.2.2=some y:=by
 obtain ⟨c,s,row,k⟩:=p
 have:=soi h;subst this
 show qpt c s row k=some true
 have hw:Sw s:=st_w hg.2.1.2.2.2.2.1
 have hf:∀ v∈row,Fw v.f:=fun v hv=>j0.1 (hg.2.2.1.1 v hv).2.2.2
 unfold qpt
 rcases Bool.eq_false_or_eq_true (qa6 c [s]) with hh | hh
 · exact qE hh
 refine (qz hh).trans ?_
 obtain ⟨hc,hs0⟩:=qq7 hh
 obtain ⟨hs1,hs2⟩:=hs0 s (by simp)
 have hm:=qFv hs1 hs2
 by_cases q1:40<(row.length:Int)
 · exact qE (decide_eq_true q1)
 refine (qz (decide_eq_false q1)).trans ?_
 by_cases k1:k < -34359738368
 · exact qE (decide_eq_true k1)
 refine (qz (decide_eq_false k1)).trans ?_
 by_cases k2:34359738368<k
 · exact qE (decide_eq_true k2)
 refine (qz (decide_eq_false k2)).trans ?_
 rw [w64 (n:=k+1) (by omega) (by omega)]
 have hr:=qnq (c:=c) hm
 have hp:=qvK (c:=c) hm
 have hfr:=qFG (c:=c) hm
 have ht:=qAv (c:=c) hm
 refine obB (x:=j9 c s row k) (show Qy (c,(s,(row,k)))=_ from qE hm) ?_
 refine obB (x:=JQ c s) (show JR (c,s)=_ from qE hm) ?_
 refine obB (x:=j9 c (JQ c s) row k) (show Qy (c,(JQ c s,(row,k)))=_ from qE hr) ?_
 refine obB (x:=ZE c s) (show qcr (c,s)=_ from qE hm) ?_
 refine obB (x:=j9 c (ZE c s) row k) (show Qy (c,(ZE c s,(row,k)))=_ from qE hp) ?_
 refine obB (x:=qlO c s) (show qjm (c,s)=_ from qE hm) ?_
 refine obB (x:=j9 c (qlO c s) row k) (show Qy (c,(qlO c s,(row,k)))=_ from qE hfr) ?_
 refine obB (x:=ZC c s) (show qeM (c,s)=_ from qE hm) ?_
 refine obB (x:=j9 c (ZC c s) row (k+1)) (show Qy (c,(ZC c s,(row,k+1)))=_ from qE ht) ?_
 rw [qdt hw hf,decide_eq_true rfl,cond_true]
 cases hh:j9 c s row k with
 | false=>rfl
 | true =>
  rw [qlN hw hf hh,qlP hw hf hh,qnp hw hf (by omega) hh];rfl
end
end Su
end
