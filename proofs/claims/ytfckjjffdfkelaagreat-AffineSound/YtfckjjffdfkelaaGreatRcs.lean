/-
  Bits and rounding, in plain Lean. No condition.
-/
import Derived.Test.YtfckjjffdfkelaaGreatRro
import Derived.Test.YtfckjjffdfkelaaGreatNC19
set_option maxRecDepth 10000
namespace Su
open Go Fly
def Wd64 (c:Int):Prop:=∃ C:Nat,c=(C:Int)∧C<18446744073709551616
theorem zI_iff {c:Int}:zI c=true↔bK c.toNat=0:=by
 unfold zI;rw [beq_dec];simp
theorem negI_nat (c:Int):(negI c).toNat=negF c.toNat:=Int.toNat_natCast _
theorem zI_neg {c:Int} (h:Wd64 c):zI (negI c)=zI c:=by
 obtain ⟨C,rfl,hC⟩:=h
 unfold zI;rw [negI_nat,Int.toNat_natCast,bK_neg hC]
theorem fI_neg {c:Int} (h:Wd64 c):fI (negI c)=fI c:=by
 obtain ⟨C,rfl,hC⟩:=h
 unfold fI;rw [negI_nat,Int.toNat_natCast,bK_neg hC]
theorem wd_neg {c:Int} (h:Wd64 c):Wd64 (negI c):=by
 obtain ⟨C,rfl,hC⟩:=h
 exact ⟨negF C,rfl,negF_lt hC⟩
theorem delZ_all {l:List Tm} (h:∀ t∈l,zI t.c=false):delZ l=l:=delZ_none h
structure Tells (a:Fm):Prop where
 ok:a.1=false
 wm:Wd64 a.2.1
 fm:fI a.2.1=true
 nm:a.2.1≠9223372036854775808
 we:Wd64 a.2.2.2
 fe:fI a.2.2.2=true
 se:Int.fdiv a.2.2.2 (2^63)=0
 wt:∀ t∈a.2.2.1,Wd64 t.c
 ft:∀ t∈a.2.2.1,fI t.c=true
 zt:∀ t∈a.2.2.1,zI t.c=false
 rise:riseF (-1) a.2.2.1=true
theorem rise_facts:∀ (l:List Tm) (k:Int),riseF k l=true→(∀ t∈l,fI t.c=true)∧∀ t∈l,zI t.c=false
 | [],_,_=>⟨by simp,by simp⟩
 | t::l,k,h=>by
  have h:(decide (k<t.id)&&(!zI t.c&&(fI t.c&&riseF t.id l)))=true:=h
  simp only [Bool.and_eq_true,Bool.not_eq_true'] at h
  obtain ⟨_,h1,h2,h3⟩:=h
  obtain ⟨i1,i2⟩:=rise_facts l t.id h3
  exact ⟨fun u hu=>by rcases List.mem_cons.1 hu with rfl | hu;exact h2;exact i1 u hu,fun u hu=>by rcases List.mem_cons.1 hu with rfl | hu;exact h1;exact i2 u hu⟩
theorem tells {a:Fm} (hb:a.1=false) (hm:mayF a=true) (wm:Wd64 a.2.1) (we:Wd64 a.2.2.2) (wt:∀ t∈a.2.2.1,Wd64 t.c):Tells a:=by
 rw [mayF_eq,hb,cond_false] at hm
 simp only [Bool.and_eq_true,Bool.not_eq_true',decide_eq_true_eq,decide_eq_false_iff_not] at hm
 obtain ⟨h1,h2,h3,h4,h5⟩:=hm
 obtain ⟨i1,i2⟩:=rise_facts _ _ h1
 exact ⟨hb,wm,h2,h3,we,h4,h5,wt,i1,i2,h1⟩
theorem rise_map (f:Tm→Tm):∀ (l:List Tm) (k:Int),(∀ t∈l,(f t).id=t.id∧zI (f t).c=zI t.c∧fI (f t).c=fI t.c)→riseF k (l.map f)=riseF k l
 | [],_,_=>rfl
 | t::l,k,h=>by
  obtain ⟨h1,h2,h3⟩:=h t (List.mem_cons_self ..)
  show (decide (k<(f t).id)&&(!zI (f t).c&&(fI (f t).c&&riseF (f t).id (l.map f))))=(decide (k<t.id)&&(!zI t.c&&(fI t.c&&riseF t.id l)))
  rw [h1,h2,h3,rise_map f l t.id fun u hu=>h u (List.mem_cons_of_mem _ hu)]
theorem okF_tells {a:Fm} (h:Tells a):okF a=true:=by
 unfold okF
 rw [h.ok,mayF_eq,h.ok,cond_false,h.rise,h.fm,h.fe,decide_eq_false h.nm,decide_eq_true h.se]
 rfl
theorem nz_e {e:Int} (w:Wd64 e) (hs:Int.fdiv e (2^63)=0):nzI e=e:=by
 unfold nzI
 cases hz:zI e with
 | false=>rfl
 | true =>
  rw [cond_true]
  obtain ⟨E,rfl,hE⟩:=w
  have h:=zI_iff.1 hz
  rw [Int.toNat_natCast] at h
  unfold bK at h
  rw [fd_pow] at hs
  have:E / 2^63=0:=by omega
  omega
theorem neg_tells {a:Fm} (h:Tells a):negFm a=(false,(nzI (negI a.2.1),(a.2.2.1.map negT,a.2.2.2)))∧Tells (negFm a):=by
 have hd:delZ (a.2.2.1.map negT)=a.2.2.1.map negT:=delZ_all fun t ht=>by
  obtain ⟨u,hu,rfl⟩:=List.mem_map.1 ht
  show zI (negI u.c)=false
  rw [zI_neg (h.wt u hu)];exact h.zt u hu
 have hfm:fI (nzI (negI a.2.1))=true:=by
  unfold nzI
  cases zI (negI a.2.1) with
  | true=>rfl
  | false=>rw [cond_false,fI_neg h.wm];exact h.fm
 have hany:((a.2.2.1.map negT).any fun t=>!fI t.c)=false:=by
  rw [List.any_eq_false]
  intro t ht
  obtain ⟨u,hu,rfl⟩:=List.mem_map.1 ht
  show ¬ (!fI (negI u.c))=true
  rw [fI_neg (h.wt u hu),h.ft u hu];simp
 have e1:negFm a=(false,(nzI (negI a.2.1),(a.2.2.1.map negT,a.2.2.2))):=by
  unfold negFm
  rw [okF_tells h,cond_true,doneF_eq]
  simp only []
  rw [hd,hfm,hany,nz_e h.we h.se,h.fe]
  rfl
 refine ⟨e1,?_⟩
 rw [e1]
 exact {
  ok:=rfl
  wm:=by
   show Wd64 (nzI (negI a.2.1))
   unfold nzI
   cases zI (negI a.2.1) with
   | true=>exact ⟨0,rfl,by omega⟩
   | false=>exact wd_neg h.wm
  fm:=hfm
  nm:=by
   show nzI (negI a.2.1)≠9223372036854775808
   unfold nzI
   cases hz:zI (negI a.2.1) with
   | true=>rw [cond_true];simp
   | false =>
    rw [cond_false]
    intro e
    rw [e] at hz;cases hz
  we:=h.we
  fe:=h.fe
  se:=h.se
  wt:=fun t ht=>by
   obtain ⟨u,hu,rfl⟩:=List.mem_map.1 ht
   exact wd_neg (h.wt u hu)
  ft:=fun t ht=>by
   obtain ⟨u,hu,rfl⟩:=List.mem_map.1 ht
   show fI (negI u.c)=true
   rw [fI_neg (h.wt u hu)];exact h.ft u hu
  zt:=fun t ht=>by
   obtain ⟨u,hu,rfl⟩:=List.mem_map.1 ht
   show zI (negI u.c)=false
   rw [zI_neg (h.wt u hu)];exact h.zt u hu
  rise:=by
   show riseF (-1) (a.2.2.1.map negT)=true
   rw [rise_map negT _ _ fun t ht=>⟨rfl,zI_neg (h.wt t ht),fI_neg (h.wt t ht)⟩];exact h.rise }
end Su
