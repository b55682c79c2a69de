/-
  What functions of the program compute, in plain Lean, and that the evaluator finds it.
-/
import Derived.Test.YtfckjjffdfkelaaGreatSuSd
import Derived.Test.YtfckjjffdfkelaaGreatNB30
import Derived.Test.YtfckjjffdfkelaaGreatNC24
set_option maxRecDepth 10000
section
namespace Su
open Go Fly
set_option linter.unusedVariables false
noncomputable section
def qjk:((List Su.Tm)×(Int×(Int×(Bool×((List Int)×((List Int)×(Bool×((List Int)×((List Int)×(Bool×((List Int)×((List Int)×Unit))))))))))))→Option (((List Su.Tm)×(Int×(Int×(Bool×((List Int)×((List Int)×(Bool×((List Int)×((List Int)×(Bool×((List Int)×((List Int)×Unit)))))))))))) ⊕ ((List Su.Tm)×(Int×(Int×(Bool×((List Int)×((List Int)×(Bool×((List Int)×((List Int)×(Bool×((List Int)×((List Int)×Unit))))))))))))):=fun p4=>(bif (decide ((p4.2.2.1<p4.2.1))) then
 ((Su.idx p4.1 p4.2.2.1)).bind fun x5 =>
 ((Su.Z9 (Su.Tm.c x5))).bind fun x6 =>
 ((Su.Zo ((p4.2.2.2.2.2.2.2.2.2.1,(p4.2.2.2.2.2.2.2.2.2.2.1,p4.2.2.2.2.2.2.2.2.2.2.2.1)),x6))).bind fun x7 =>
 some (.inl (p4.1,(p4.2.1,((Go.IntKind.wrap .i64 (p4.2.2.1+1)),(p4.2.2.2.1,(p4.2.2.2.2.1,(p4.2.2.2.2.2.1,(p4.2.2.2.2.2.2.1,(p4.2.2.2.2.2.2.2.1,(p4.2.2.2.2.2.2.2.2.1,(x7.1,(x7.2.1,(x7.2.2,())))))))))))))
 else
  some (.inr (p4.1,(p4.2.1,(p4.2.2.1,(p4.2.2.2.1,(p4.2.2.2.2.1,(p4.2.2.2.2.2.1,(p4.2.2.2.2.2.2.1,(p4.2.2.2.2.2.2.2.1,(p4.2.2.2.2.2.2.2.2.1,(p4.2.2.2.2.2.2.2.2.2.1,(p4.2.2.2.2.2.2.2.2.2.2.1,(p4.2.2.2.2.2.2.2.2.2.2.2.1,()))))))))))))))
def aOf  (fu:Nat) (a:(Bool×(Int×((List Su.Tm)×Int)))) (f:Int):Option Bool :=
 ((Su.YG f)).bind fun x0 =>
 (bif (!x0.2) then
 some x0.2
 else
  (bif (List.any [a] (fun z1=>(z1.1||(!(Su.qaY z1))))) then
  some x0.2
 else
  ((Su.YG a.2.1)).bind fun x2 =>
  ((Su.Z9 a.2.2.2)).bind fun x3 =>
  (itP fu (qjk) (a.2.2.1,((((List.length a.2.2.1):Nat):Int),((0:Int),(x0.1.1,(x0.1.2.1,(x0.1.2.2,(x2.1.1,(x2.1.2.1,(x2.1.2.2,(x3.1,(x3.2.1,(x3.2.2,()))))))))))))).bind fun x8 =>
  ((Su.qc1 ((x8.2.2.2.1,(x8.2.2.2.2.1,x8.2.2.2.2.2.1)),(x8.2.2.2.2.2.2.1,(x8.2.2.2.2.2.2.2.1,x8.2.2.2.2.2.2.2.2.1))))).bind fun x9 =>
  ((Su.qcY x9)).bind fun x10 =>
  ((Su.qc0 (x10,(x8.2.2.2.2.2.2.2.2.2.1,(x8.2.2.2.2.2.2.2.2.2.2.1,x8.2.2.2.2.2.2.2.2.2.2.2.1))))).bind fun x11 =>
  some (decide ((x11≤0)))))
theorem qlF {c:Int} (hg:inR .u64 c=true) (h:fI c=true):qlD c=mkQ (avF c:Int) QD:=by
 obtain ⟨n,rfl,hn⟩:=qO hg
 have h':jS (bK n)=true:=by have:=h;unfold fI at this;rwa [Int.toNat_natCast] at this
 have hnan:qU (bK n)=false:=J4.2 (by have:=j9.1 h';omega)
 have hab:qfx n=bK n:=by unfold qfx;rw [hnan];rfl
 have hnum:Jv (bK n)=false:=by
  have:=qpn (bK n)
  rw [qCV,h'] at this
  cases hx:Jv (bK n) with
  | false=>rfl
  | true=>rw [hx] at this;cases this
 unfold qlD avF
 rw [Int.toNat_natCast,hab,hnum,cond_false,qeB]
 congr 1
 unfold fv fvK
 rw [qCV,qHH,h',cond_true,cond_true,cond_false]
 cases bS n <;> simp
abbrev OfS:=List Su.Tm×(Int×(Int×(Bool×(List Int×(List Int×(Bool×(List Int×(List Int×(Bool×(List Int×(List Int×Unit)))))))))))
def qAf (l:List Su.Tm) (v m r:Rt) (i:Int):OfS:=(l,(((l.length:Nat):Int),(i,(v.1,(v.2.1,(v.2.2,(m.1,(m.2.1,(m.2.2,(r.1,(r.2.1,(r.2.2,()))))))))))))
theorem qlG (c:Int):Z9 c=some (qlD c):=by unfold Z9;rw [qeq,cond_true]
theorem qAg {p r:Int} (h1:p.natAbs<1048576*2^BX) (h2:r.natAbs<1048576*2^BX):Zo (mkQ p QD,mkQ r QD)=some (mkQ (p+r) QD):=by
 unfold Zo
 simp only []
 rw [(qf0 h1).ok4 (by omega),(qf0 h2).ok4 (by omega),addD];rfl
theorem qpp (l:List Su.Tm) (hl:l.length≤1000000) (hg:∀ t∈l,inR .u64 t.c=true) (hf:∀ t∈l,fI t.c=true) (v m:Rt):∀ (r A:List Su.Tm) (s k:Nat),A++r=l→s<k*2^BX→k+r.length≤1000010 →
 jN (r.length+1) qjk (qAf l v m (mkQ (s:Int) QD) A.length) (qAf l v m (mkQ ((qAd r s:Nat):Int) QD) l.length)
 | [],A,s,k,h,_,_=>by
  rw [List.append_nil] at h;subst h
  refine jN.stop ?_
  unfold qAf
  simp only [qjk,ltN,decide_eq_false (Nat.lt_irrefl _),cond_false];rfl
 | x::r,A,s,k,h,hs,hk=>by
  have hm:l.length≤maxLen:=by rw [qG];omega
  have hi:A.length<l.length:=by rw [← h];simp
  have hx:x∈l:=by rw [← h];simp
  have hgx:idx l (A.length:Int)=some x:=by
   rw [je,← h,List.getElem?_append_right (by omega),Nat.sub_self];rfl
  have ha:=qjj x.c
  have hs':s+avF x.c<(k+1)*2^BX:=by rw [Nat.add_mul];omega
  rw [List.length_cons] at hk
  have hbig:∀ z q:Nat,z<q*2^BX→q≤1048576→((z:Nat):Int).natAbs<1048576*2^BX:=fun z q h1 h2=>by
   rw [Int.natAbs_natCast];exact Nat.lt_of_lt_of_le h1 (Nat.mul_le_mul_right _ h2)
  have hadd:=qAg (hbig s k hs (by omega)) (hbig (avF x.c) 1 (by omega) (by omega))
  have ih:=qpp l hl hg hf v m r (A++[x]) (s+avF x.c) (k+1) (by rw [← h];simp) hs' (by omega)
  refine jN.next ?_ ih
  unfold qAf
  simp only [qjk,ltN,decide_eq_true hi,cond_true,hgx,Option.bind_some,w1 hi hm,qlG]
  rw [qlF (hg x hx) (hf x hx)]
  refine obB hadd ?_
  rw [show (A++[x]).length=A.length+1 by simp]
  rfl
def qcj (p:Su.Fm×Int):Option Bool:=bif Nat.ble p.1.2.2.1.length 1000000 then some (ofS p.1 p.2) else none
theorem qFu (p:Su.Fm×Int) (y:Bool) (hg:(dc jw (d1 (cI .u64))).good p) (h:qcj p=some y):∃ n,aOf n p.1 p.2=some y:=by
 obtain ⟨a,f⟩:=p
 obtain ⟨hm,h⟩:=qj h
 have:=soi h;subst this
 have hl:a.2.2.1.length≤1000000:=Nat.le_of_ble_eq_true hm
 refine ⟨a.2.2.1.length+1,?_⟩
 show aOf (a.2.2.1.length+1) a f=some (ofS a f)
 have ha:List.any [a] (fun z0=>(z0.1||(!(Su.qaY z0)))) = !okF a:=by simp [okF]
 unfold aOf ofS
 refine obB (qji f) ?_
 rcases Bool.eq_false_or_eq_true (Jv f.toNat) with hn | hn
 · rw [hn];rfl
 · rw [hn]
   simp only [cond_false,Bool.not_true,Bool.not_false,Bool.true_and]
   rw [ha]
   rcases Bool.eq_false_or_eq_true (okF a) with ho | ho
   · obtain ⟨h0,hfin⟩:=qAc ho
     rw [ho]
     simp only [cond_false,Bool.not_true,Bool.false_or]
     obtain ⟨-,g1,⟨g2,-⟩,g3⟩:=hg.1
     refine obB (qji a.2.1) ?_
     rw [qFt hfin.mid,cond_false]
     refine obB (qlG _) ?_
     rw [qlF g3 hfin.err]
     have hrun:=qpp a.2.2.1 hl (fun t ht=>(g2 t ht).2) hfin.tms (qbV f.toNat) (qbV a.2.1.toNat) a.2.2.1 [] (avF a.2.2.2) 1 rfl (by have:=qjj a.2.2.2;omega) (by omega)
     refine obB (hrun _ (Nat.le_refl _)) ?_
     have b1:=qjh f.toNat
     have b2:=qjh a.2.1.toNat
     have b3:(fv f.toNat-fv a.2.1.toNat).natAbs<1048576*2^BX:=by omega
     have b4:((qvq a:Nat):Int).natAbs<1048576*2^BX:=by
      have:=qpo a.2.2.1 (avF a.2.2.2) 1 (by have:=qjj a.2.2.2;omega)
      rw [Int.natAbs_natCast]
      exact Nat.lt_of_lt_of_le this (Nat.mul_le_mul_right _ (by omega))
     have z1:Sz (qbV f.toNat) 100000:=(qpm _).mono (by omega)
     have z2:Sz (qbV a.2.1.toNat) 100000:=(qpm _).mono (by omega)
     have s1:qc1 (qbV f.toNat,qbV a.2.1.toNat)=some (mkQ (fv f.toNat-fv a.2.1.toNat) QD):=by
      rw [(qFq z1 z2).1,qeB,qeB,subD]
     have s2:qcY (mkQ (fv f.toNat-fv a.2.1.toNat) QD)=some (mkQ ((fv f.toNat-fv a.2.1.toNat).natAbs:Int) QD):=by
      rw [(qFr ((qf0 b3).mono (by omega))).1,qz5 _ JO]
     have s3:qc0 (mkQ ((fv f.toNat-fv a.2.1.toNat).natAbs:Int) QD,mkQ ((qvq a:Nat):Int) QD)=some (qci ((fv f.toNat-fv a.2.1.toNat).natAbs:Int) (qvq a:Int)):=by
      rw [qFs ((qf0 (by rw [Int.natAbs_natCast];exact b3)).mono (by omega)) ((qf0 b4).mono (by omega)),cmpD]
     refine obB s1 (obB s2 (obB s3 ?_))
     rw [qAe]
     congr 1
     by_cases hle:(fv f.toNat-fv a.2.1.toNat).natAbs≤qvq a
     · rw [decide_eq_true hle,decide_eq_true (by omega)]
     · rw [decide_eq_false hle,decide_eq_false (by omega)]
   · rw [ho];rfl
end
end Su
end
section
namespace Su
open Go Fly
set_option linter.unusedVariables false
noncomputable section
abbrev qdd:=((List Su.Vl)×(Int×(Int×((List Su.Cc)×((List Su.T)×((List Su.T)×((List Su.T)×((List Su.T)×(Int×((List Su.Ce)×(Int×(Int×Unit))))))))))))
def qck:qdd→Option (qdd ⊕ (Lp qdd Bool)):=fun p0=>(bif (decide ((p0.2.2.2.2.2.2.2.2.2.2.2.1<p0.2.2.2.2.2.2.2.2.2.2.1))) then
 ((Su.idx p0.2.2.2.2.2.2.2.2.2.1 p0.2.2.2.2.2.2.2.2.2.2.2.1)).bind fun x1 =>
 ((Su.idx p0.2.2.2.1 p0.2.2.2.2.2.2.2.2.2.2.2.1)).bind fun x2 =>
 ((Su.idx p0.1 p0.2.2.2.2.2.2.2.2.2.2.2.1)).bind fun x3 =>
 (bif (!(decide (((Su.Vl.type x3)=(Su.Cc.type x2))))) then
 some (.inr (.ret false))
 else
  (bif (decide (((Su.Cc.type x2)=1))) then
  (bif (Su.Vl.b x3) then
  (bif (Su.Ce.t x1) then
  some (.inl (p0.1,(p0.2.1,(p0.2.2.1,(p0.2.2.2.1,(p0.2.2.2.2.1,(p0.2.2.2.2.2.1,(p0.2.2.2.2.2.2.1,(p0.2.2.2.2.2.2.2.1,(p0.2.2.2.2.2.2.2.2.1,(p0.2.2.2.2.2.2.2.2.2.1,(p0.2.2.2.2.2.2.2.2.2.2.1,((Go.IntKind.wrap .i64 (p0.2.2.2.2.2.2.2.2.2.2.2.1+1)),())))))))))))))
 else
  (bif (!(Su.Vl.b x3)) then
  (bif (!(Su.Ce.f x1)) then
  some (.inr (.ret false))
 else
  some (.inl (p0.1,(p0.2.1,(p0.2.2.1,(p0.2.2.2.1,(p0.2.2.2.2.1,(p0.2.2.2.2.2.1,(p0.2.2.2.2.2.2.1,(p0.2.2.2.2.2.2.2.1,(p0.2.2.2.2.2.2.2.2.1,(p0.2.2.2.2.2.2.2.2.2.1,(p0.2.2.2.2.2.2.2.2.2.2.1,((Go.IntKind.wrap .i64 (p0.2.2.2.2.2.2.2.2.2.2.2.1+1)),()))))))))))))))
 else
  some (.inr (.ret false))))
 else
  (bif (!(Su.Vl.b x3)) then
  (bif (!(Su.Ce.f x1)) then
  some (.inr (.ret false))
 else
  some (.inl (p0.1,(p0.2.1,(p0.2.2.1,(p0.2.2.2.1,(p0.2.2.2.2.1,(p0.2.2.2.2.2.1,(p0.2.2.2.2.2.2.1,(p0.2.2.2.2.2.2.2.1,(p0.2.2.2.2.2.2.2.2.1,(p0.2.2.2.2.2.2.2.2.2.1,(p0.2.2.2.2.2.2.2.2.2.2.1,((Go.IntKind.wrap .i64 (p0.2.2.2.2.2.2.2.2.2.2.2.1+1)),()))))))))))))))
 else
  some (.inr (.ret false))))
 else
  (bif (decide (((Su.Cc.type x2)=2))) then
  (bif (Su.Jh x1.3 (Go.IntKind.wrap .i64 (Su.Vl.i x3))) then
  (bif (!(Su.qlx (x1.4,x1.5) (Go.IntKind.wrap .i64 (Su.Vl.i x3)) p0.2.1)) then
  some (.inr (.ret false))
 else
  some (.inl (p0.1,(p0.2.1,(p0.2.2.1,(p0.2.2.2.1,(p0.2.2.2.2.1,(p0.2.2.2.2.2.1,(p0.2.2.2.2.2.2.1,(p0.2.2.2.2.2.2.2.1,(p0.2.2.2.2.2.2.2.2.1,(p0.2.2.2.2.2.2.2.2.2.1,(p0.2.2.2.2.2.2.2.2.2.2.1,((Go.IntKind.wrap .i64 (p0.2.2.2.2.2.2.2.2.2.2.2.1+1)),()))))))))))))))
 else
  some (.inr (.ret false)))
 else
  (bif (decide (((Su.Cc.type x2)=3))) then
  (bif (Su.qly x1.6 (Su.Vl.f x3)) then
  ((Su.qcj (x1.8,(Su.Vl.f x3)))).bind fun x4 =>
  (bif (!x4) then
  some (.inr (.ret false))
 else
  some (.inl (p0.1,(p0.2.1,(p0.2.2.1,(p0.2.2.2.1,(p0.2.2.2.2.1,(p0.2.2.2.2.2.1,(p0.2.2.2.2.2.2.1,(p0.2.2.2.2.2.2.2.1,(p0.2.2.2.2.2.2.2.2.1,(p0.2.2.2.2.2.2.2.2.2.1,(p0.2.2.2.2.2.2.2.2.2.2.1,((Go.IntKind.wrap .i64 (p0.2.2.2.2.2.2.2.2.2.2.2.1+1)),()))))))))))))))
 else
  some (.inr (.ret false)))
 else
  some (.inr (.ret false))))))
 else
  some (.inr (.exit 0 (p0.1,(p0.2.1,(p0.2.2.1,(p0.2.2.2.1,(p0.2.2.2.2.1,(p0.2.2.2.2.2.1,(p0.2.2.2.2.2.2.1,(p0.2.2.2.2.2.2.2.1,(p0.2.2.2.2.2.2.2.2.1,(p0.2.2.2.2.2.2.2.2.2.1,(p0.2.2.2.2.2.2.2.2.2.2.1,(p0.2.2.2.2.2.2.2.2.2.2.2.1,())))))))))))))))
def qAh  (fu:Nat) (c:(Int×((List Su.Cc)×((List Su.T)×((List Su.T)×((List Su.T)×((List Su.T)×Int))))))) (s:(Bool×(Bool×(Int×(Int×(List Su.Ce)))))) (row:(List Su.Vl)) (k:Int):Option Bool :=
 (bif s.1 then
 some false
 else
  (bif (!(decide (((((List.length s.2.2.2.2):Nat):Int)=(((List.length c.2.1):Nat):Int))))) then
  some false
 else
  (bif (!(decide (((((List.length row):Nat):Int)=(((List.length c.2.1):Nat):Int))))) then
  some false
 else
  (bif (!(Su.Jh (s.2.1,(s.2.2.1,s.2.2.2.1)) k)) then
  some false
 else
  (itP fu (qck) (row,(k,(c.1,(c.2.1,(c.2.2.1,(c.2.2.2.1,(c.2.2.2.2.1,(c.2.2.2.2.2.1,(c.2.2.2.2.2.2,(s.2.2.2.2,((((List.length s.2.2.2.2):Nat):Int),((0:Int),()))))))))))))).bind fun x5 =>
  (match x5 with
 | .exit i6 p7=>(bif (Nat.beq i6 0) then
  some true
 else
  none)
 | .ret o8=>some o8)))))
def hasC (t:Int) (x:Su.Ce) (v:Su.Vl) (k:Int):Bool :=
 bif !decide (v.type=t) then false
 else bif decide (t=1) then (v.b&&x.t)||(!v.b&&x.f)
 else bif decide (t=2) then Jh x.i v.i&&qlx (x.d,x.p) v.i k
 else bif decide (t=3) then qly x.s v.f&&ofS x.fm v.f
 else false
def hsN (C:List Su.Cc) (X:List Su.Ce) (row:List Su.Vl) (k:Int) (i:Nat):Bool :=
 match C[i]?,X[i]?,row[i]? with
 | some d,some x,some v=>hasC d.type x v k
 | _,_,_=>true
def qnl (c:CoD) (s:StD) (row:List Su.Vl) (k:Int):Bool :=
 bif s.1 then false else bif !decide (s.2.2.2.2.length=c.2.1.length) then false else bif !decide (row.length=c.2.1.length) then false
 else bif !Jh (stK s) k then false else Jo c.2.1.length (hsN c.2.1 s.2.2.2.2 row k)
abbrev HsS:=List Su.Vl×(Int×(Int×(List Su.Cc×(List Su.T×(List Su.T×(List Su.T×(List Su.T×(Int×(List Su.Ce×(Int×(Int×Unit)))))))))))
def qrd (c:CoD) (s:StD) (row:List Su.Vl) (k i:Int):HsS :=
 (row,(k,(c.1,(c.2.1,(c.2.2.1,(c.2.2.2.1,(c.2.2.2.2.1,(c.2.2.2.2.2.1,(c.2.2.2.2.2.2,(s.2.2.2.2,(((s.2.2.2.2.length:Nat):Int),(i,()))))))))))))
def qvr (p:CoD×(StD×(List Su.Vl×Int))):Option Bool:=bif smS p.2.1 then some (qnl p.1 p.2.1 p.2.2.1 p.2.2.2) else none
theorem qFv {s:StD} (h:smS s=true) {x:Su.Ce} (hx:x∈s.2.2.2.2) (f:Int):qcj (x.fm,f)=some (ofS x.fm f):=by
 unfold smS at h
 rw [Bool.and_eq_true] at h
 have:=List.all_eq_true.1 h.2 x hx
 unfold qcj
 rw [show Nat.ble (x.fm,f).1.2.2.1.length 1000000=true from this,cond_true]
theorem qlH (c:CoD) (s:StD) (row:List Su.Vl) (k:Int) (hm:smS s=true) (hg:∀ v∈row,qEx.good (qEy v)) (h1:s.2.2.2.2.length=c.2.1.length) (h2:row.length=c.2.1.length) (i:Nat) (hi:i<c.2.1.length) :
 qck (qrd c s row k i)=some (bif hsN c.2.1 s.2.2.2.2 row k i then .inl (qrd c s row k ((i+1:Nat):Int)) else .inr (.ret false)):=by
 have i1:i<s.2.2.2.2.length:=by omega
 have i2:i<row.length:=by omega
 have hmx:s.2.2.2.2.length≤maxLen:=by have:=Qe hm;rw [qG];omega
 have hof:=qFv hm (List.getElem_mem i1)
 have hv:=hg _ (List.getElem_mem i2)
 unfold hsN qrd
 rw [List.getElem?_eq_getElem hi,List.getElem?_eq_getElem i1,List.getElem?_eq_getElem i2]
 simp only [qck,ltN,decide_eq_true i1,cond_true,ixl i1,ixl hi,ixl i2,Option.bind_some,w1 i1 hmx]
 generalize c.2.1[i]=d at *
 generalize s.2.2.2.2[i]=x at *
 generalize row[i]=v at *
 have hvi:IntKind.i64.wrap v.i=v.i:=by
  have:=qyG.1 hv.2.2.1
  have h3 : -2147483648≤v.i∧v.i<2147483648:=this
  exact w64 (by omega) (by omega)
 rw [hvi]
 unfold hasC
 by_cases t0:v.type=d.type
 · rw [decide_eq_true t0]
   refine (qA rfl).trans ?_
   by_cases t1:d.type=1
   · rw [decide_eq_true t1]
     cases v.b <;> cases x.t <;> cases x.f <;> rfl
   · rw [decide_eq_false t1]
     refine (qA rfl).trans ?_
     by_cases t2:d.type=2
     · rw [decide_eq_true t2]
       cases Jh x.i v.i <;> cases qlx (x.d,x.p) v.i k <;> rfl
     · rw [decide_eq_false t2]
       refine (qA rfl).trans ?_
       by_cases t3:d.type=3
       · rw [decide_eq_true t3]
         cases qly x.s v.f with
         | false=>rfl
         | true =>
          refine (qB rfl).trans ((qB rfl).trans (obB (hof v.f) ?_))
          cases ofS x.fm v.f <;> rfl
       · rw [decide_eq_false t3];rfl
 · rw [decide_eq_false t0];rfl
theorem qAi (p:CoD×(StD×(List Su.Vl×Int))) (y:Bool) (hg:(dc cCo (dc cSt (dc (cL rVl) (d1 (cI .i64))))).good p) (h:qvr p=some y):∃ n,qAh n p.1 p.2.1 p.2.2.1 p.2.2.2=some y:=by
 obtain ⟨c,s,row,k⟩:=p
 obtain ⟨hm,h⟩:=qj h
 have:=soi h;subst this
 have hm:smS s=true:=hm
 have hgr:∀ v∈row,qEx.good (qEy v):=hg.2.2.1.1
 refine ⟨c.2.1.length+1,?_⟩
 show qAh (c.2.1.length+1) c s row k=some (qnl c s row k)
 unfold qAh
 rcases Bool.eq_false_or_eq_true s.1 with hd | hd
 · rw [show qnl c s row k=false from qB hd];exact qB hd
 · refine (qA hd).trans ?_
   rw [lnE,lnE]
   by_cases h1:s.2.2.2.2.length=c.2.1.length
   · have e1:(!decide (s.2.2.2.2.length=c.2.1.length))=false:=by rw [decide_eq_true h1];rfl
     refine (qA e1).trans ?_
     by_cases h2:row.length=c.2.1.length
     · have e2:(!decide (row.length=c.2.1.length))=false:=by rw [decide_eq_true h2];rfl
       refine (qA e2).trans ?_
       rcases Bool.eq_false_or_eq_true (Jh (stK s) k) with hk | hk
       · have e3:(!Jh (stK s) k)=false:=by rw [hk];rfl
         refine (qA e3).trans ?_
         rw [show qnl c s row k=Jo c.2.1.length (hsN c.2.1 s.2.2.2.2 row k) from (qA hd).trans ((qA e1).trans ((qA e2).trans (qA e3)))]
         have hK:=qb5 (F:=qck) (mk:=fun i=>qrd c s row k (i:Int)) (n:=c.2.1.length) (ok:=hsN c.2.1 s.2.2.2.2 row k) (r1:=.ret false) (r0:=.exit 0 (qrd c s row k (c.2.1.length:Int)))
          (fun i hi hk=>by rw [qlH c s row k hm hgr h1 h2 i hi,hk];rfl) (fun i hi hk=>by rw [qlH c s row k hm hgr h1 h2 i hi,hk];rfl)
          (by unfold qrd;simp only [qck,ltN,h1,decide_eq_false (Nat.lt_irrefl _),cond_false])
         refine obB (hK _ (Nat.le_refl _)) ?_
         cases Jo c.2.1.length (hsN c.2.1 s.2.2.2.2 row k) <;> rfl
       · have e3:(!Jh (stK s) k)=true:=by rw [hk];rfl
         rw [show qnl c s row k=false from (qA hd).trans ((qA e1).trans ((qA e2).trans (qB e3)))]
         exact qB e3
     · have e2:(!decide (row.length=c.2.1.length))=true:=by rw [decide_eq_false h2];rfl
       rw [show qnl c s row k=false from (qA hd).trans ((qA e1).trans (qB e2))]
       exact qB e2
   · have e1:(!decide (s.2.2.2.2.length=c.2.1.length))=true:=by rw [decide_eq_false h1];rfl
     rw [show qnl c s row k=false from (qA hd).trans (qB e1)]
     exact qB e1
end
end Su
end
section
namespace Su
open Go Fly
set_option linter.unusedVariables false
noncomputable section
end
end Su
end
section
namespace Su
open Go Fly
set_option linter.unusedVariables false
noncomputable section
def qFw  (a:(Bool×Bool)) (b:(Bool×Bool)):Option (Bool×Bool) :=
 (bif a.1 then
 (bif a.2 then
 some (true,true)
 else
  some (true,b.2))
 else
  (bif a.2 then
  some (b.1,true)
 else
  some b))
def qvs (p:(Bool×Bool)×(Bool×Bool)):Option (Bool×Bool):=some (p.1.1||p.2.1,p.1.2||p.2.2)
theorem qAj (p:(Bool×Bool)×(Bool×Bool)) (y:Bool×Bool) (hg:(dc cB2 (d1 cB2)).good p) (h:qvs p=some y):qFw p.1 p.2=some y:=by
 obtain ⟨⟨a,b⟩,⟨c,d⟩⟩:=p
 have:=soi h;subst this
 unfold qFw
 cases a <;> cases b <;> cases c <;> cases d <;> rfl
end
end Su
end
section
namespace Su
open Go Fly
set_option linter.unusedVariables false
noncomputable section
theorem qAk {x:Su.Ce} {t:Int} (h:t=1):qT x t=((x.f == false)&&((x.t == false)&&true)):=qB (decide_eq_true h)
theorem qAl {x:Su.Ce} {t:Int} (h:t=2):qT x t=(bif (qy [x.i]).1 then true else (qap (x.d,x.p) (x.d,x.p)).1.1):=by
 subst h;rfl
theorem qAm {x:Su.Ce} {t:Int} (h:t=3):qT x t=(QB [x.s]).1:=by
 subst h;rfl
theorem QE {x:Su.Ce} {t:Int} (h:t=1):qq x t=⟨x.f,x.t,iv0,iv0,iv0,iv0,0,fm0⟩:=qB (decide_eq_true h)
theorem QF {x:Su.Ce} {t:Int} (h:t=2):qq x t=⟨false,false,x.i,x.d,x.p,iv0,0,fm0⟩:=by subst h;rfl
theorem yB {x:Su.Ce} {t:Int} (h:t=3):qq x t=⟨false,false,iv0,iv0,iv0,x.s,x.sl,x.fm⟩:=by subst h;rfl
end
end Su
end
section
namespace Su
open Go Fly
set_option linter.unusedVariables false
noncomputable section
theorem qFx {K:Iv} {P:List Su.Ce} (h1:P.length≤1000000) (h2:∀ x∈P,x.fm.2.2.1.length≤1000000):smS (mkS K P)=true:=by
 unfold smS
 rw [Bool.and_eq_true]
 exact ⟨Nat.ble_eq_true_of_le h1,List.all_eq_true.2 fun x hx=>Nat.ble_eq_true_of_le (h2 x hx)⟩
theorem qAn (x:Su.Ce) (t:Int):(qq x t).fm.2.2.1.length≤x.fm.2.2.1.length:=by
 unfold qq
 cases decide (t=1) with
 | true=>exact Nat.zero_le _
 | false =>
  cases decide (t=2) with
  | true=>exact Nat.zero_le _
  | false =>
   cases decide (t=3) with
   | true=>exact Nat.le_refl _
   | false=>exact Nat.zero_le _
theorem qre {c:CoD} {l:List StD} (h:qa3 c l=false):c.2.1.length≤40∧∀ s∈l,s.2.2.2.2.length≤40∧∀ x∈s.2.2.2.2,x.fm.2.2.1.length≤8:=by
 unfold qa3 at h
 by_cases h1:40<(c.2.1.length:Int)
 · rw [qB (decide_eq_true h1)] at h;cases h
 · rw [qA (decide_eq_false h1)] at h
   have h:Jo l.length (YH l)=true:=by
    cases ha:Jo l.length (YH l) with
    | true=>rfl
    | false=>rw [ha] at h;cases h
   refine ⟨by omega,fun s hs=>?_⟩
   obtain ⟨i,hi,rfl⟩:=List.mem_iff_getElem.1 hs
   have:=Yb.1 h i hi
   unfold YH at this
   rw [List.getElem?_eq_getElem hi] at this
   simp only [Bool.and_eq_true,Bool.not_eq_true',decide_eq_false_iff_not] at this
   have h9 : ¬ 40<((l[i].2.2.2.2.length:Nat):Int):=this.1
   refine ⟨by omega,fun x hx=>?_⟩
   obtain ⟨j,hj,rfl⟩:=List.mem_iff_getElem.1 hx
   have:=Yb.1 this.2 j hj
   unfold qa2 at this
   rw [List.getElem?_eq_getElem hj] at this
   simp only [Bool.not_eq_true',decide_eq_false_iff_not] at this
   omega
theorem qvt {s:StD} (h1:s.2.2.2.2.length≤40) (h2:∀ x∈s.2.2.2.2,x.fm.2.2.1.length≤8):smS s=true:=by
 unfold smS
 rw [Bool.and_eq_true]
 exact ⟨Nat.ble_eq_true_of_le (by omega),List.all_eq_true.2 fun x hx=>Nat.ble_eq_true_of_le (by have:=h2 x hx;omega)⟩
end
end Su
end
section
namespace Su
open Go Fly
set_option linter.unusedVariables false
noncomputable section
@[irreducible] def PS:Nat:=2^SH
def sgV (neg:Bool) (n:Nat):Int:=bif neg then -(n:Int) else (n:Int)
structure SumP (a b:Nat) (mode:Int) (r:Nat):Prop where
 got:(bK r≤qkV∧fv r=fv a+fv b)∨∃ neg M E,M≠0∧r=RN neg mode M E false∧sgV neg (M*2^E)=(fv a+fv b)*(PS:Int)
theorem qf1 {n:Nat} (h:n<18446744073709551616):Fw (n:Int):=⟨Int.natCast_nonneg _,by omega⟩
theorem qdZ {a:Int} (h:Fw a):a.toNat<18446744073709551616:=by obtain ⟨h1,h2⟩:=h;omega
theorem qnm:Fw 0:=⟨by decide,by decide⟩
theorem qjl {a b:Int} (ha:Fw a) (hb:Fw b) (m:Int):Fw (qzA a b m):=qf1 (qoM (qdZ ha) (qdZ hb) m)
theorem qFy {a:Int} (ha:Fw a):Fw (qq2 a):=qf1 (qyO (qdZ ha))
theorem qFz {a:Int} (ha:Fw a):Fw (qE5 a):=qf1 (by
 unfold qfx
 have:=qfz a.toNat
 have:=qdZ ha
 cases qU (bK a.toNat) <;> simp only [cond_true,cond_false] <;> omega)
theorem qCW {x y:Int} (hx:Fw x) (hy:Fw y):Fw (upI [x,y]):=qjl (qjl qnm hx 1) hy 1
theorem qvu:∀ {l:List Tm} {s:Int},Fw s→(∀ t∈l,Fw t.c)→Fw (qq5 l s)
 | [],s,h,_=>h
 | t::l,s,h,hl=>by
  unfold qq5
  exact qvu (qCW h (qFz (hl t (List.mem_cons_self ..)))) fun u hu=>hl u (List.mem_cons_of_mem _ hu)
structure FmW (a:Fm):Prop where
 mid:Fw a.2.1
 err:Fw a.2.2.2
 tms:∀ t∈a.2.2.1,Fw t.c
theorem qvv {a:Fm} (h:FmW a):Fw (qq6 a):=by
 rw [qoT]
 cases okF a with
 | false =>
  show Fw 9218868437227405312
  exact ⟨by decide,by decide⟩
 | true=>exact qCW (qvu qnm h.tms) h.err
theorem qpq {a:Fm} (h:FmW a):SpW (Jg a):=by
 unfold Jg
 cases okF a with
 | false =>
  show SpW (false,(18442240474082181120,9218868437227405312))
  exact ⟨⟨by decide,by decide⟩,⟨by decide,by decide⟩⟩
 | true=>exact (qY (s:=(false,(_,_))) ⟨qjl h.mid (qFy (qvv h)) 2,qjl h.mid (qvv h) 1⟩).w
theorem qHI {a b:Int} (ha:Fw a) (hb:Fw b):Fw (mxI a b):=qf1 (qzs _ _ (qdZ ha) (qdZ hb))
theorem qHJ {a b:Int} (ha:Fw a) (hb:Fw b):Fw (mnI a b):=qf1 (by
 have h1:=qdZ ha
 have h2:=qdZ hb
 unfold qiQ
 cases (qU (bK a.toNat)||qU (bK b.toNat)) with
 | true=>rw [cond_true];decide
 | false=>cases yL b.toNat a.toNat <;> simp only [cond_true,cond_false] <;> assumption)
theorem qCX {a b:Spn} (ha:SpW a) (hb:SpW b):SpW (Jp a b):=by
 unfold Jp
 have h1:=(qY ha).w
 have h2:=(qY hb).w
 cases ((qm a).1||(qm b).1) with
 | true =>
  show SpW Zt
  exact ⟨⟨by decide,by decide⟩,⟨by decide,by decide⟩⟩
 | false=>exact (qY (s:=(false,(_,_))) ⟨qHI h1.1 h2.1,qHJ h1.2 h2.2⟩).w
end
end Su
end
