/-
  What functions of the program compute, in plain Lean, and that the evaluator finds it.
-/
import Derived.Test.YtfckjjffdfkelaaGreatSuSd
import Derived.Test.YtfckjjffdfkelaaGreatNB30
set_option maxRecDepth 10000
section
namespace Su
open Go Fly
set_option linter.unusedVariables false
noncomputable section
def qjh:((List Su.Tm)×(Int×(Int×(Bool×((List Int)×((List Int)×(Bool×((List Int)×((List Int)×(Bool×((List Int)×((List Int)×Unit))))))))))))→Option (((List Su.Tm)×(Int×(Int×(Bool×((List Int)×((List Int)×(Bool×((List Int)×((List Int)×(Bool×((List Int)×((List Int)×Unit)))))))))))) ⊕ ((List Su.Tm)×(Int×(Int×(Bool×((List Int)×((List Int)×(Bool×((List Int)×((List Int)×(Bool×((List Int)×((List Int)×Unit))))))))))))):=fun p4=>(bif (decide ((p4.2.2.1<p4.2.1))) then
 ((Su.idx p4.1 p4.2.2.1)).bind fun x5 =>
 ((Su.qah (Su.Tm.c x5))).bind fun x6 =>
 ((Su.Zt ((p4.2.2.2.2.2.2.2.2.2.1,(p4.2.2.2.2.2.2.2.2.2.2.1,p4.2.2.2.2.2.2.2.2.2.2.2.1)),x6))).bind fun x7 =>
 some (.inl (p4.1,(p4.2.1,((Go.IntKind.wrap .i64 (p4.2.2.1+1)),(p4.2.2.2.1,(p4.2.2.2.2.1,(p4.2.2.2.2.2.1,(p4.2.2.2.2.2.2.1,(p4.2.2.2.2.2.2.2.1,(p4.2.2.2.2.2.2.2.2.1,(x7.1,(x7.2.1,(x7.2.2,())))))))))))))
 else
  some (.inr (p4.1,(p4.2.1,(p4.2.2.1,(p4.2.2.2.1,(p4.2.2.2.2.1,(p4.2.2.2.2.2.1,(p4.2.2.2.2.2.2.1,(p4.2.2.2.2.2.2.2.1,(p4.2.2.2.2.2.2.2.2.1,(p4.2.2.2.2.2.2.2.2.2.1,(p4.2.2.2.2.2.2.2.2.2.2.1,(p4.2.2.2.2.2.2.2.2.2.2.2.1,()))))))))))))))
def aOf  (fu:Nat) (a:(Bool×(Int×((List Su.Tm)×Int)))) (f:Int):Option Bool :=
 ((Su.YH f)).bind fun x0 =>
 (bif (!x0.2) then
 some x0.2
 else
  (bif (List.any [a] (fun z1=>(z1.1||(!(Su.qa1 z1))))) then
  some x0.2
 else
  ((Su.YH a.2.1)).bind fun x2 =>
  ((Su.qah a.2.2.2)).bind fun x3 =>
  (itP fu (qjh) (a.2.2.1,((((List.length a.2.2.1):Nat):Int),((0:Int),(x0.1.1,(x0.1.2.1,(x0.1.2.2,(x2.1.1,(x2.1.2.1,(x2.1.2.2,(x3.1,(x3.2.1,(x3.2.2,()))))))))))))).bind fun x8 =>
  ((Su.qdd ((x8.2.2.2.1,(x8.2.2.2.2.1,x8.2.2.2.2.2.1)),(x8.2.2.2.2.2.2.1,(x8.2.2.2.2.2.2.2.1,x8.2.2.2.2.2.2.2.2.1))))).bind fun x9 =>
  ((Su.qda x9)).bind fun x10 =>
  ((Su.qdc (x10,(x8.2.2.2.2.2.2.2.2.2.1,(x8.2.2.2.2.2.2.2.2.2.2.1,x8.2.2.2.2.2.2.2.2.2.2.2.1))))).bind fun x11 =>
  some (decide ((x11≤0)))))
theorem qlv {c:Int} (hg:inR .u64 c=true) (h:fI c=true):qlt c=mkQ (avF c:Int) QD:=by
 obtain ⟨n,rfl,hn⟩:=qM hg
 have h':jD (bK n)=true:=by have:=h;unfold fI at this;rwa [Int.toNat_natCast] at this
 have hnan:qH (bK n)=false:=Ql.2 (by have:=ji.1 h';omega)
 have hab:qc8 n=bK n:=by unfold qc8;rw [hnan];rfl
 have hnum:Ji (bK n)=false:=by
  have:=qjf (bK n)
  rw [qpk,h'] at this
  cases hx:Ji (bK n) with
  | false=>rfl
  | true=>rw [hx] at this;cases this
 unfold qlt avF
 rw [Int.toNat_natCast,hab,hnum,cond_false,qeO]
 congr 1
 unfold fv fvK
 rw [qpk,qCQ,h',cond_true,cond_true,cond_false]
 cases bS n <;> simp
abbrev OfS:=List Su.Tm×(Int×(Int×(Bool×(List Int×(List Int×(Bool×(List Int×(List Int×(Bool×(List Int×(List Int×Unit)))))))))))
def qz8 (l:List Su.Tm) (v m r:Rt) (i:Int):OfS:=(l,(((l.length:Nat):Int),(i,(v.1,(v.2.1,(v.2.2,(m.1,(m.2.1,(m.2.2,(r.1,(r.2.1,(r.2.2,()))))))))))))
theorem qlw (c:Int):qah c=some (qlt c):=by unfold qah;rw [qeD,cond_true]
theorem qz9 {p r:Int} (h1:p.natAbs<1048576*2^BX) (h2:r.natAbs<1048576*2^BX):Zt (mkQ p QD,mkQ r QD)=some (mkQ (p+r) QD):=by
 unfold Zt
 simp only []
 rw [(qga h1).ok4 (by omega),(qga h2).ok4 (by omega),addD];rfl
theorem qpm (l:List Su.Tm) (hl:l.length≤1000000) (hg:∀ t∈l,inR .u64 t.c=true) (hf:∀ t∈l,fI t.c=true) (v m:Rt):∀ (r A:List Su.Tm) (s k:Nat),A++r=l→s<k*2^BX→k+r.length≤1000010 →
 jU (r.length+1) qjh (qz8 l v m (mkQ (s:Int) QD) A.length) (qz8 l v m (mkQ ((qf9 r s:Nat):Int) QD) l.length)
 | [],A,s,k,h,_,_=>by
  rw [List.append_nil] at h;subst h
  refine jU.stop ?_
  unfold qz8
  simp only [qjh,ltN,decide_eq_false (Nat.lt_irrefl _),cond_false];rfl
 | x::r,A,s,k,h,hs,hk=>by
  have hm:l.length≤maxLen:=by rw [qK];omega
  have hi:A.length<l.length:=by rw [← h];simp
  have hx:x∈l:=by rw [← h];simp
  have hgx:idx l (A.length:Int)=some x:=by
   rw [jc,← h,List.getElem?_append_right (by omega),Nat.sub_self];rfl
  have ha:=qjg x.c
  have hs':s+avF x.c<(k+1)*2^BX:=by rw [Nat.add_mul];omega
  rw [List.length_cons] at hk
  have hbig:∀ z q:Nat,z<q*2^BX→q≤1048576→((z:Nat):Int).natAbs<1048576*2^BX:=fun z q h1 h2=>by
   rw [Int.natAbs_natCast];exact Nat.lt_of_lt_of_le h1 (Nat.mul_le_mul_right _ h2)
  have hadd:=qz9 (hbig s k hs (by omega)) (hbig (avF x.c) 1 (by omega) (by omega))
  have ih:=qpm l hl hg hf v m r (A++[x]) (s+avF x.c) (k+1) (by rw [← h];simp) hs' (by omega)
  refine jU.next ?_ ih
  unfold qz8
  simp only [qjh,ltN,decide_eq_true hi,cond_true,hgx,Option.bind_some,w1 hi hm,qlw]
  rw [qlv (hg x hx) (hf x hx)]
  refine obB hadd ?_
  rw [show (A++[x]).length=A.length+1 by simp]
  rfl
def qlx (p:Su.Fm×Int):Option Bool:=bif Nat.ble p.1.2.2.1.length 1000000 then some (ofS p.1 p.2) else none
theorem qFs (p:Su.Fm×Int) (y:Bool) (hg:(dc j4 (d1 (cI .u64))).good p) (h:qlx p=some y):∃ n,aOf n p.1 p.2=some y:=by
 obtain ⟨a,f⟩:=p
 obtain ⟨hm,h⟩:=qj h
 have:=soi h;subst this
 have hl:a.2.2.1.length≤1000000:=Nat.le_of_ble_eq_true hm
 refine ⟨a.2.2.1.length+1,?_⟩
 show aOf (a.2.2.1.length+1) a f=some (ofS a f)
 have ha:List.any [a] (fun z0=>(z0.1||(!(Su.qa1 z0)))) = !okF a:=by simp [okF]
 unfold aOf ofS
 refine obB (qjd f) ?_
 rcases Bool.eq_false_or_eq_true (Ji f.toNat) with hn | hn
 · rw [hn];rfl
 · rw [hn]
   simp only [cond_false,Bool.not_true,Bool.not_false,Bool.true_and]
   rw [ha]
   rcases Bool.eq_false_or_eq_true (okF a) with ho | ho
   · obtain ⟨h0,hfin⟩:=qeP ho
     rw [ho]
     simp only [cond_false,Bool.not_true,Bool.false_or]
     obtain ⟨-,g1,⟨g2,-⟩,g3⟩:=hg.1
     refine obB (qjd a.2.1) ?_
     rw [qFr hfin.mid,cond_false]
     refine obB (qlw _) ?_
     rw [qlv g3 hfin.err]
     have hrun:=qpm a.2.2.1 hl (fun t ht=>(g2 t ht).2) hfin.tms (qb6 f.toNat) (qb6 a.2.1.toNat) a.2.2.1 [] (avF a.2.2.2) 1 rfl (by have:=qjg a.2.2.2;omega) (by omega)
     refine obB (hrun _ (Nat.le_refl _)) ?_
     have b1:=qjc f.toNat
     have b2:=qjc a.2.1.toNat
     have b3:(fv f.toNat-fv a.2.1.toNat).natAbs<1048576*2^BX:=by omega
     have b4:((qje a:Nat):Int).natAbs<1048576*2^BX:=by
      have:=qpl a.2.2.1 (avF a.2.2.2) 1 (by have:=qjg a.2.2.2;omega)
      rw [Int.natAbs_natCast]
      exact Nat.lt_of_lt_of_le this (Nat.mul_le_mul_right _ (by omega))
     have z1:Sz (qb6 f.toNat) 100000:=(qpj _).mono (by omega)
     have z2:Sz (qb6 a.2.1.toNat) 100000:=(qpj _).mono (by omega)
     have s1:qdd (qb6 f.toNat,qb6 a.2.1.toNat)=some (mkQ (fv f.toNat-fv a.2.1.toNat) QD):=by
      rw [(qFo z1 z2).1,qeO,qeO,subD]
     have s2:qda (mkQ (fv f.toNat-fv a.2.1.toNat) QD)=some (mkQ ((fv f.toNat-fv a.2.1.toNat).natAbs:Int) QD):=by
      rw [(qFp ((qga b3).mono (by omega))).1,qz0 _ JT]
     have s3:qdc (mkQ ((fv f.toNat-fv a.2.1.toNat).natAbs:Int) QD,mkQ ((qje a:Nat):Int) QD)=some (qct ((fv f.toNat-fv a.2.1.toNat).natAbs:Int) (qje a:Int)):=by
      rw [qFq ((qga (by rw [Int.natAbs_natCast];exact b3)).mono (by omega)) ((qga b4).mono (by omega)),cmpD]
     refine obB s1 (obB s2 (obB s3 ?_))
     rw [qz7]
     congr 1
     by_cases hle:(fv f.toNat-fv a.2.1.toNat).natAbs≤qje a
     · rw [decide_eq_true hle,decide_eq_true (by omega)]
     · rw [decide_eq_false hle,decide_eq_false (by omega)]
   · rw [ho];rfl
end
end Su
end
section
namespace Su
open Go Fly
set_option linter.unusedVariables false
noncomputable section
abbrev qdq:=((List Su.Vl)×(Int×(Int×((List Su.Cc)×((List Su.T)×((List Su.T)×((List Su.T)×((List Su.T)×(Int×((List Su.Ce)×(Int×(Int×Unit))))))))))))
def qcu:qdq→Option (qdq ⊕ (Lp qdq Bool)):=fun p0=>(bif (decide ((p0.2.2.2.2.2.2.2.2.2.2.2.1<p0.2.2.2.2.2.2.2.2.2.2.1))) then
 ((Su.idx p0.2.2.2.2.2.2.2.2.2.1 p0.2.2.2.2.2.2.2.2.2.2.2.1)).bind fun x1 =>
 ((Su.idx p0.2.2.2.1 p0.2.2.2.2.2.2.2.2.2.2.2.1)).bind fun x2 =>
 ((Su.idx p0.1 p0.2.2.2.2.2.2.2.2.2.2.2.1)).bind fun x3 =>
 (bif (!(decide (((Su.Vl.type x3)=(Su.Cc.type x2))))) then
 some (.inr (.ret false))
 else
  (bif (decide (((Su.Cc.type x2)=1))) then
  (bif (Su.Vl.b x3) then
  (bif (Su.Ce.t x1) then
  some (.inl (p0.1,(p0.2.1,(p0.2.2.1,(p0.2.2.2.1,(p0.2.2.2.2.1,(p0.2.2.2.2.2.1,(p0.2.2.2.2.2.2.1,(p0.2.2.2.2.2.2.2.1,(p0.2.2.2.2.2.2.2.2.1,(p0.2.2.2.2.2.2.2.2.2.1,(p0.2.2.2.2.2.2.2.2.2.2.1,((Go.IntKind.wrap .i64 (p0.2.2.2.2.2.2.2.2.2.2.2.1+1)),())))))))))))))
 else
  (bif (!(Su.Vl.b x3)) then
  (bif (!(Su.Ce.f x1)) then
  some (.inr (.ret false))
 else
  some (.inl (p0.1,(p0.2.1,(p0.2.2.1,(p0.2.2.2.1,(p0.2.2.2.2.1,(p0.2.2.2.2.2.1,(p0.2.2.2.2.2.2.1,(p0.2.2.2.2.2.2.2.1,(p0.2.2.2.2.2.2.2.2.1,(p0.2.2.2.2.2.2.2.2.2.1,(p0.2.2.2.2.2.2.2.2.2.2.1,((Go.IntKind.wrap .i64 (p0.2.2.2.2.2.2.2.2.2.2.2.1+1)),()))))))))))))))
 else
  some (.inr (.ret false))))
 else
  (bif (!(Su.Vl.b x3)) then
  (bif (!(Su.Ce.f x1)) then
  some (.inr (.ret false))
 else
  some (.inl (p0.1,(p0.2.1,(p0.2.2.1,(p0.2.2.2.1,(p0.2.2.2.2.1,(p0.2.2.2.2.2.1,(p0.2.2.2.2.2.2.1,(p0.2.2.2.2.2.2.2.1,(p0.2.2.2.2.2.2.2.2.1,(p0.2.2.2.2.2.2.2.2.2.1,(p0.2.2.2.2.2.2.2.2.2.2.1,((Go.IntKind.wrap .i64 (p0.2.2.2.2.2.2.2.2.2.2.2.1+1)),()))))))))))))))
 else
  some (.inr (.ret false))))
 else
  (bif (decide (((Su.Cc.type x2)=2))) then
  (bif (Su.qy x1.3 (Go.IntKind.wrap .i64 (Su.Vl.i x3))) then
  (bif (!(Su.yt (x1.4,x1.5) (Go.IntKind.wrap .i64 (Su.Vl.i x3)) p0.2.1)) then
  some (.inr (.ret false))
 else
  some (.inl (p0.1,(p0.2.1,(p0.2.2.1,(p0.2.2.2.1,(p0.2.2.2.2.1,(p0.2.2.2.2.2.1,(p0.2.2.2.2.2.2.1,(p0.2.2.2.2.2.2.2.1,(p0.2.2.2.2.2.2.2.2.1,(p0.2.2.2.2.2.2.2.2.2.1,(p0.2.2.2.2.2.2.2.2.2.2.1,((Go.IntKind.wrap .i64 (p0.2.2.2.2.2.2.2.2.2.2.2.1+1)),()))))))))))))))
 else
  some (.inr (.ret false)))
 else
  (bif (decide (((Su.Cc.type x2)=3))) then
  (bif (Su.yO x1.6 (Su.Vl.f x3)) then
  ((Su.qlx (x1.8,(Su.Vl.f x3)))).bind fun x4 =>
  (bif (!x4) then
  some (.inr (.ret false))
 else
  some (.inl (p0.1,(p0.2.1,(p0.2.2.1,(p0.2.2.2.1,(p0.2.2.2.2.1,(p0.2.2.2.2.2.1,(p0.2.2.2.2.2.2.1,(p0.2.2.2.2.2.2.2.1,(p0.2.2.2.2.2.2.2.2.1,(p0.2.2.2.2.2.2.2.2.2.1,(p0.2.2.2.2.2.2.2.2.2.2.1,((Go.IntKind.wrap .i64 (p0.2.2.2.2.2.2.2.2.2.2.2.1+1)),()))))))))))))))
 else
  some (.inr (.ret false)))
 else
  some (.inr (.ret false))))))
 else
  some (.inr (.exit 0 (p0.1,(p0.2.1,(p0.2.2.1,(p0.2.2.2.1,(p0.2.2.2.2.1,(p0.2.2.2.2.2.1,(p0.2.2.2.2.2.2.1,(p0.2.2.2.2.2.2.2.1,(p0.2.2.2.2.2.2.2.2.1,(p0.2.2.2.2.2.2.2.2.2.1,(p0.2.2.2.2.2.2.2.2.2.2.1,(p0.2.2.2.2.2.2.2.2.2.2.2.1,())))))))))))))))
def qAa  (fu:Nat) (c:(Int×((List Su.Cc)×((List Su.T)×((List Su.T)×((List Su.T)×((List Su.T)×Int))))))) (s:(Bool×(Bool×(Int×(Int×(List Su.Ce)))))) (row:(List Su.Vl)) (k:Int):Option Bool :=
 (bif s.1 then
 some false
 else
  (bif (!(decide (((((List.length s.2.2.2.2):Nat):Int)=(((List.length c.2.1):Nat):Int))))) then
  some false
 else
  (bif (!(decide (((((List.length row):Nat):Int)=(((List.length c.2.1):Nat):Int))))) then
  some false
 else
  (bif (!(Su.qy (s.2.1,(s.2.2.1,s.2.2.2.1)) k)) then
  some false
 else
  (itP fu (qcu) (row,(k,(c.1,(c.2.1,(c.2.2.1,(c.2.2.2.1,(c.2.2.2.2.1,(c.2.2.2.2.2.1,(c.2.2.2.2.2.2,(s.2.2.2.2,((((List.length s.2.2.2.2):Nat):Int),((0:Int),()))))))))))))).bind fun x5 =>
  (match x5 with
 | .exit i6 p7=>(bif (Nat.beq i6 0) then
  some true
 else
  none)
 | .ret o8=>some o8)))))
def Qn (t:Int) (x:Su.Ce) (v:Su.Vl) (k:Int):Bool :=
 bif !decide (v.type=t) then false
 else bif decide (t=1) then (v.b&&x.t)||(!v.b&&x.f)
 else bif decide (t=2) then qy x.i v.i&&yt (x.d,x.p) v.i k
 else bif decide (t=3) then yO x.s v.f&&ofS x.fm v.f
 else false
def hsN (C:List Su.Cc) (X:List Su.Ce) (row:List Su.Vl) (k:Int) (i:Nat):Bool :=
 match C[i]?,X[i]?,row[i]? with
 | some d,some x,some v=>Qn d.type x v k
 | _,_,_=>true
def j9 (c:CoD) (s:StD) (row:List Su.Vl) (k:Int):Bool :=
 bif s.1 then false else bif !decide (s.2.2.2.2.length=c.2.1.length) then false else bif !decide (row.length=c.2.1.length) then false
 else bif !qy (stK s) k then false else qch c.2.1.length (hsN c.2.1 s.2.2.2.2 row k)
abbrev HsS:=List Su.Vl×(Int×(Int×(List Su.Cc×(List Su.T×(List Su.T×(List Su.T×(List Su.T×(Int×(List Su.Ce×(Int×(Int×Unit)))))))))))
def qq5 (c:CoD) (s:StD) (row:List Su.Vl) (k i:Int):HsS :=
 (row,(k,(c.1,(c.2.1,(c.2.2.1,(c.2.2.2.1,(c.2.2.2.2.1,(c.2.2.2.2.2.1,(c.2.2.2.2.2.2,(s.2.2.2.2,(((s.2.2.2.2.length:Nat):Int),(i,()))))))))))))
def Qy (p:CoD×(StD×(List Su.Vl×Int))):Option Bool:=bif smS p.2.1 then some (j9 p.1 p.2.1 p.2.2.1 p.2.2.2) else none
theorem qFt {s:StD} (h:smS s=true) {x:Su.Ce} (hx:x∈s.2.2.2.2) (f:Int):qlx (x.fm,f)=some (ofS x.fm f):=by
 unfold smS at h
 rw [Bool.and_eq_true] at h
 have:=List.all_eq_true.1 h.2 x hx
 unfold qlx
 rw [show Nat.ble (x.fm,f).1.2.2.1.length 1000000=true from this,cond_true]
theorem qly (c:CoD) (s:StD) (row:List Su.Vl) (k:Int) (hm:smS s=true) (hg:∀ v∈row,qEw.good (qEx v)) (h1:s.2.2.2.2.length=c.2.1.length) (h2:row.length=c.2.1.length) (i:Nat) (hi:i<c.2.1.length) :
 qcu (qq5 c s row k i)=some (bif hsN c.2.1 s.2.2.2.2 row k i then .inl (qq5 c s row k ((i+1:Nat):Int)) else .inr (.ret false)):=by
 have i1:i<s.2.2.2.2.length:=by omega
 have i2:i<row.length:=by omega
 have hmx:s.2.2.2.2.length≤maxLen:=by have:=JC hm;rw [qK];omega
 have hof:=qFt hm (List.getElem_mem i1)
 have hv:=hg _ (List.getElem_mem i2)
 unfold hsN qq5
 rw [List.getElem?_eq_getElem hi,List.getElem?_eq_getElem i1,List.getElem?_eq_getElem i2]
 simp only [qcu,ltN,decide_eq_true i1,cond_true,ixl i1,ixl hi,ixl i2,Option.bind_some,w1 i1 hmx]
 generalize c.2.1[i]=d at *
 generalize s.2.2.2.2[i]=x at *
 generalize row[i]=v at *
 have hvi:IntKind.i64.wrap v.i=v.i:=by
  have:=qyD.1 hv.2.2.1
  have h3 : -2147483648≤v.i∧v.i<2147483648:=this
  exact w64 (by omega) (by omega)
 rw [hvi]
 unfold Qn
 by_cases t0:v.type=d.type
 · rw [decide_eq_true t0]
   refine (qz rfl).trans ?_
   by_cases t1:d.type=1
   · rw [decide_eq_true t1]
     cases v.b <;> cases x.t <;> cases x.f <;> rfl
   · rw [decide_eq_false t1]
     refine (qz rfl).trans ?_
     by_cases t2:d.type=2
     · rw [decide_eq_true t2]
       cases qy x.i v.i <;> cases yt (x.d,x.p) v.i k <;> rfl
     · rw [decide_eq_false t2]
       refine (qz rfl).trans ?_
       by_cases t3:d.type=3
       · rw [decide_eq_true t3]
         cases yO x.s v.f with
         | false=>rfl
         | true =>
          refine (qE rfl).trans ((qE rfl).trans (obB (hof v.f) ?_))
          cases ofS x.fm v.f <;> rfl
       · rw [decide_eq_false t3];rfl
 · rw [decide_eq_false t0];rfl
theorem qAb (p:CoD×(StD×(List Su.Vl×Int))) (y:Bool) (hg:(dc cCo (dc cSt (dc (cL rVl) (d1 (cI .i64))))).good p) (h:Qy p=some y):∃ n,qAa n p.1 p.2.1 p.2.2.1 p.2.2.2=some y:=by
 obtain ⟨c,s,row,k⟩:=p
 obtain ⟨hm,h⟩:=qj h
 have:=soi h;subst this
 have hm:smS s=true:=hm
 have hgr:∀ v∈row,qEw.good (qEx v):=hg.2.2.1.1
 refine ⟨c.2.1.length+1,?_⟩
 show qAa (c.2.1.length+1) c s row k=some (j9 c s row k)
 unfold qAa
 rcases Bool.eq_false_or_eq_true s.1 with hd | hd
 · rw [show j9 c s row k=false from qE hd];exact qE hd
 · refine (qz hd).trans ?_
   rw [lnE,lnE]
   by_cases h1:s.2.2.2.2.length=c.2.1.length
   · have e1:(!decide (s.2.2.2.2.length=c.2.1.length))=false:=by rw [decide_eq_true h1];rfl
     refine (qz e1).trans ?_
     by_cases h2:row.length=c.2.1.length
     · have e2:(!decide (row.length=c.2.1.length))=false:=by rw [decide_eq_true h2];rfl
       refine (qz e2).trans ?_
       rcases Bool.eq_false_or_eq_true (qy (stK s) k) with hk | hk
       · have e3:(!qy (stK s) k)=false:=by rw [hk];rfl
         refine (qz e3).trans ?_
         rw [show j9 c s row k=qch c.2.1.length (hsN c.2.1 s.2.2.2.2 row k) from (qz hd).trans ((qz e1).trans ((qz e2).trans (qz e3)))]
         have hK:=qf4 (F:=qcu) (mk:=fun i=>qq5 c s row k (i:Int)) (n:=c.2.1.length) (ok:=hsN c.2.1 s.2.2.2.2 row k) (r1:=.ret false) (r0:=.exit 0 (qq5 c s row k (c.2.1.length:Int)))
          (fun i hi hk=>by rw [qly c s row k hm hgr h1 h2 i hi,hk];rfl) (fun i hi hk=>by rw [qly c s row k hm hgr h1 h2 i hi,hk];rfl)
          (by unfold qq5;simp only [qcu,ltN,h1,decide_eq_false (Nat.lt_irrefl _),cond_false])
         refine obB (hK _ (Nat.le_refl _)) ?_
         cases qch c.2.1.length (hsN c.2.1 s.2.2.2.2 row k) <;> rfl
       · have e3:(!qy (stK s) k)=true:=by rw [hk];rfl
         rw [show j9 c s row k=false from (qz hd).trans ((qz e1).trans ((qz e2).trans (qE e3)))]
         exact qE e3
     · have e2:(!decide (row.length=c.2.1.length))=true:=by rw [decide_eq_false h2];rfl
       rw [show j9 c s row k=false from (qz hd).trans ((qz e1).trans (qE e2))]
       exact qE e2
   · have e1:(!decide (s.2.2.2.2.length=c.2.1.length))=true:=by rw [decide_eq_false h1];rfl
     rw [show j9 c s row k=false from (qz hd).trans (qE e1)]
     exact qE e1
end
end Su
end
section
namespace Su
open Go Fly
set_option linter.unusedVariables false
noncomputable section
end
end Su
end
section
namespace Su
open Go Fly
set_option linter.unusedVariables false
noncomputable section
theorem qAc {x:Su.Ce} {t:Int} (h:t=1):jj x t=((x.f == false)&&((x.t == false)&&true)):=qE (decide_eq_true h)
theorem qAd {x:Su.Ce} {t:Int} (h:t=2):jj x t=(bif (qJ [x.i]).1 then true else (YK (x.d,x.p) (x.d,x.p)).1.1):=by
 subst h;rfl
theorem qAe {x:Su.Ce} {t:Int} (h:t=3):jj x t=(Qx [x.s]).1:=by
 subst h;rfl
theorem qeQ {x:Su.Ce} {t:Int} (h:t=1):qw x t=⟨x.f,x.t,iv0,iv0,iv0,iv0,0,fm0⟩:=qE (decide_eq_true h)
theorem qeR {x:Su.Ce} {t:Int} (h:t=2):qw x t=⟨false,false,x.i,x.d,x.p,iv0,0,fm0⟩:=by subst h;rfl
theorem qeS {x:Su.Ce} {t:Int} (h:t=3):qw x t=⟨false,false,iv0,iv0,iv0,x.s,x.sl,x.fm⟩:=by subst h;rfl
theorem qba {x:Su.Ce} {v:Su.Vl} {k t:Int} (h:t=1) (hv:v.type=t):Qn t x v k=((v.b&&x.t)||(!v.b&&x.f)):=by
 unfold Qn;rw [qz (by rw [decide_eq_true hv];rfl),qE (decide_eq_true h)]
theorem qbb {x:Su.Ce} {v:Su.Vl} {k t:Int} (h:t=2) (hv:v.type=t):Qn t x v k=(qy x.i v.i&&yt (x.d,x.p) v.i k):=by
 unfold Qn;rw [qz (by rw [decide_eq_true hv];rfl),qz (decide_eq_false (by omega)),qE (decide_eq_true h)]
theorem qbc {x:Su.Ce} {v:Su.Vl} {k t:Int} (h:t=3) (hv:v.type=t):Qn t x v k=(yO x.s v.f&&ofS x.fm v.f):=by
 unfold Qn;rw [qz (by rw [decide_eq_true hv];rfl),qz (decide_eq_false (by omega)),qz (decide_eq_false (by omega)),qE (decide_eq_true h)]
theorem y9 {t:Int} {x:Su.Ce} {v:Su.Vl} {k:Int} (h:Qn t x v k=true):v.type=t∧(t=1∨t=2∨t=3):=by
 unfold Qn at h
 by_cases hv:v.type=t
 · refine ⟨hv,?_⟩
   rw [qz (by rw [decide_eq_true hv];rfl)] at h
   by_cases h1:t=1
   · exact .inl h1
   · rw [qz (decide_eq_false h1)] at h
     by_cases h2:t=2
     · exact .inr (.inl h2)
     · rw [qz (decide_eq_false h2)] at h
       by_cases h3:t=3
       · exact .inr (.inr h3)
       · rw [qz (decide_eq_false h3)] at h;cases h
 · rw [qE (by rw [decide_eq_false hv];rfl)] at h;cases h
theorem qL {s:Iv} {n:Int}:qy s n=true↔(ivN s).1=false∧((ivN s).2.1 = -1099511627776∨(ivN s).2.1≤n)∧((ivN s).2.2=1099511627776∨n≤(ivN s).2.2):=by
 unfold qy
 cases (ivN s).1 <;> simp
theorem QJ (s:Iv) (n:Int):qy (ivN s) n=qy s n:=by unfold qy;rw [Jj]
theorem ZF {a b:Iv} {n:Int} (h1:qy a n=true) (h2:qy b n=true):qy (qci a b) n=true:=by
 obtain ⟨a0,a1,a2⟩:=qL.1 h1
 obtain ⟨b0,b1,b2⟩:=qL.1 h2
 obtain ⟨p1,p2,p3,p4,p5⟩:=yo (YL a) a0
 obtain ⟨q1,q2,q3,q4,q5⟩:=yo (YL b) b0
 unfold qci
 rw [a0,b0]
 generalize ivN a=A at *
 generalize ivN b=B at *
 show qy (yf (max A.2.1 B.2.1) (min A.2.2 B.2.2)) n=true
 have ok:qqZ (false,(max A.2.1 B.2.1,min A.2.2 B.2.2)):=by
  refine .inr ⟨rfl,?_,?_,?_,?_,?_⟩ <;> simp only [] <;> omega
 unfold yf
 rw [QJ]
 refine qL.2 ?_
 rw [qi7 ok]
 refine ⟨rfl,?_,?_⟩ <;> simp only [] <;> omega
theorem qFu {c:Ckp} {m n:Int} (h1:qy (ckN c).1 m=true) (h2:qy (ckN c).2 n=true):(ckN c).1.1=false∧(ckN c).2.1=false:=by
 have a:=(qL.1 h1).1
 have b:=(qL.1 h2).1
 rw [qHD] at a;rw [qHE] at b
 exact ⟨a,b⟩
theorem jI {c:Ckp} {v k:Int}:yt c v k=true↔(-2199023255552≤min v k∧max v k≤2199023255552)∧qy (ckN c).1 (v-k)=true∧qy (ckN c).2 (v+k)=true:=by
 unfold yt
 rw [Bool.and_eq_true,Bool.and_eq_true]
 simp only [Bool.not_eq_true',Bool.or_eq_false_iff,decide_eq_false_iff_not]
 constructor
 · rintro ⟨⟨a,b⟩,h⟩;exact ⟨⟨by omega,by omega⟩,h⟩
 · rintro ⟨⟨a,b⟩,h⟩;exact ⟨⟨by omega,by omega⟩,h⟩
theorem qgb {a b:Iv} {m n:Int} (h1:qy a m=true) (h2:qy b n=true):qy (ckN (a,b)).1 m=true∧qy (ckN (a,b)).2 n=true:=by
 have e1:=(qL.1 h1).1
 have e2:=(qL.1 h2).1
 rw [qae]
 show qy (bif (ivN a).1||(ivN b).1 then ((noI,noI):Ckp) else (ivN a,ivN b)).1 m=true∧qy (bif (ivN a).1||(ivN b).1 then ((noI,noI):Ckp) else (ivN a,ivN b)).2 n=true
 rw [e1,e2]
 exact ⟨by rw [← h1];exact QJ a m,by rw [← h2];exact QJ b n⟩
theorem qlz {a b:Ckp} {v k:Int} (h1:yt a v k=true) (h2:yt b v k=true):yt (YK a b) v k=true:=by
 obtain ⟨r,a1,a2⟩:=jI.1 h1
 obtain ⟨-,b1,b2⟩:=jI.1 h2
 refine jI.2 ⟨r,?_⟩
 unfold YK
 rw [Zz]
 exact qgb (ZF a1 b1) (ZF a2 b2)
theorem qai {f:Int}:fI f=true↔JP f=false∧qD (bK f.toNat)≠3:=by
 unfold fI JP
 rw [ji,Ql,Yb]
 by_cases h:bK f.toNat=9218868437227405312
 · rw [if_pos h];omega
 · rw [if_neg h]
   constructor
   · intro h1
     refine ⟨by omega,?_⟩
     rw [if_neg (by omega)]
     split <;> (try split) <;> omega
   · rintro ⟨h1,-⟩;omega
theorem yc {s:Spn} {f:Int} (hf:Fw f) (hs:SpW s):yO s f=true↔fI f=true∧(qk s).1=false∧ky (qk s).2.1≤ky f∧ky f≤ky (qk s).2.2:=by
 unfold yO
 by_cases hc:qD (bK f.toNat)=3
 · rw [decide_eq_true hc]
   constructor
   · intro h;cases h
   · rintro ⟨h,-⟩;exact absurd hc (qai.1 h).2
 · rw [decide_eq_false hc]
   cases hn:JP f with
   | true =>
    have e:Qw f f=qaB:=by
     rcases JB (s:=(false,(f,f))) ⟨hf,hf⟩ with h | ⟨_,h,_⟩
     · exact h
     · rw [hn] at h;cases h
    rw [e]
    constructor
    · intro h;cases h
    · rintro ⟨h,-⟩;rw [(qai.1 h).1] at hn;cases hn
   | false =>
    have hfi:fI f=true:=qai.2 ⟨hn,hc⟩
    have ok:=jQ (s:=(false,(f,f))) ⟨hf,hf⟩
    have hk:=ji.1 (show jD (bK f.toNat)=true from hfi)
    have hab:=qdl f
    have n1:f≠9218868437227405312:=fun e=>by subst e;revert hk;decide
    have n2:f≠18442240474082181120:=fun e=>by subst e;revert hk;decide
    have e:Qw f f=(false,(nzI f,nzI f)):=by
     unfold Qw qk
     simp only []
     rw [qaf.2 ⟨hn,hn,Int.le_refl _⟩,decide_eq_false n1,decide_eq_false n2];rfl
    have e2:qk (Qw f f)=Qw f f:=qcl ok
    obtain ⟨z1,z2⟩:=qhu hf hn
    unfold quS
    rw [e2,e]
    simp only [Bool.not_false,Bool.true_and,Bool.false_or]
    cases h0:(qk s).1 with
    | true=>simp
    | false =>
     obtain ⟨a1,a2,-⟩:=qa3 (jQ hs) h0
     simp only [Bool.not_false,Bool.true_and,Bool.and_eq_true]
     rw [qaf,qaf,z2]
     constructor
     · rintro ⟨⟨_,_,b1⟩,_,_,b2⟩;exact ⟨hfi,trivial,b1,b2⟩
     · rintro ⟨_,_,b1,b2⟩;exact ⟨⟨a1.n,z1.n,b1⟩,z1.n,a2.n,b2⟩
theorem qlA {t:Int} {x:Su.Ce} {v:Su.Vl} {k:Int} (hw:SpW x.s) (hf:Fw v.f) (h:Qn t x v k=true):jj (qw x t) t=false∧Qn t (qw x t) v k=true:=by
 obtain ⟨hv,ht⟩:=y9 h
 rcases ht with ht | ht | ht
 · rw [qba ht hv] at h
   rw [qAc ht,qba ht hv,qeQ ht]
   refine ⟨?_,h⟩
   show ((x.f == false)&&((x.t == false)&&true))=false
   cases hf:x.f <;> cases hx:x.t
   · rw [hf,hx] at h;simp at h
   · rfl
   · rfl
   · rfl
 · rw [qbb ht hv,Bool.and_eq_true] at h
   rw [qAd ht,qbb ht hv,qeR ht]
   refine ⟨?_,by rw [Bool.and_eq_true];exact h⟩
   show (bif (qJ [x.i]).1 then true else (YK (x.d,x.p) (x.d,x.p)).1.1)=false
   rw [qei,qz (qL.1 h.1).1]
   obtain ⟨-,h1,h2⟩:=jI.1 (qlz h.2 h.2)
   have:=(qFu h1 h2).1
   unfold YK at this ⊢
   rwa [Zz] at this
 · rw [qbc ht hv,Bool.and_eq_true] at h
   rw [qAe ht,qbc ht hv,qeS ht]
   refine ⟨?_,by rw [Bool.and_eq_true];exact h⟩
   show (Qx [x.s]).1=false
   rw [spJ1 hw];exact ((yc hf hw).1 h.1).2.1
theorem qq6 {a:Iv} {n:Int} (h:qy a n=true):qy (JA a) (-n)=true:=by
 obtain ⟨a0,a1,a2⟩:=qL.1 h
 obtain ⟨p1,p2,p3,p4,p5⟩:=yo (YL a) a0
 unfold JA
 rw [a0,cond_false]
 generalize ivN a=A at *
 have ok:qqZ (false,(-A.2.2,-A.2.1)):=by
  refine .inr ⟨rfl,?_,?_,?_,?_,?_⟩ <;> simp only [] <;> omega
 unfold yf
 rw [QJ]
 refine qL.2 ?_
 rw [qi7 ok]
 refine ⟨rfl,?_,?_⟩ <;> simp only [] <;> omega
theorem qeT {n:Int}:Zy n=true↔1099511627776≤n∨n≤-1099511627776:=by
 unfold Zy;simp
theorem qeU {n:Int}:Zy n=false↔n<1099511627776∧-1099511627776<n:=by
 unfold Zy;simp
theorem QU {a b:Iv} {m n:Int} (h1:qy a m=true) (h2:qy b n=true):qy (ye a b) (m+n)=true:=by
 obtain ⟨a0,a1,a2⟩:=qL.1 h1
 obtain ⟨b0,b1,b2⟩:=qL.1 h2
 obtain ⟨p1,p2,p3,p4,p5⟩:=yo (YL a) a0
 obtain ⟨q1,q2,q3,q4,q5⟩:=yo (YL b) b0
 unfold ye
 rw [a0,b0]
 simp only [Bool.or_self,cond_false]
 generalize ivN a=A at *
 generalize ivN b=B at *
 have hlo:∃ lo,Jz A.2.1 B.2.1=lo∧(lo = -1099511627776∨(-1099511627776<lo∧lo≤1099511627776∧lo≤m+n)):=by
  refine ⟨_,rfl,?_⟩
  unfold Jz qa2
  cases f1:Zy A.2.1 with
  | true=>have:=qeT.1 f1;simp only [cond_true];omega
  | false =>
   have:=qeU.1 f1
   cases f2:Zy B.2.1 with
   | true=>have:=qeT.1 f2;simp only [cond_true,cond_false];omega
   | false=>have:=qeU.1 f2;simp only [cond_false];omega
 have hhi:∃ hi,Jz A.2.2 B.2.2=hi∧(hi=1099511627776∨(-1099511627776≤hi∧hi<1099511627776∧m+n≤hi)):=by
  refine ⟨_,rfl,?_⟩
  unfold Jz qa2
  cases f1:Zy A.2.2 with
  | true=>have:=qeT.1 f1;simp only [cond_true];omega
  | false =>
   have:=qeU.1 f1
   cases f2:Zy B.2.2 with
   | true=>have:=qeT.1 f2;simp only [cond_true,cond_false];omega
   | false=>have:=qeU.1 f2;simp only [cond_false];omega
 obtain ⟨lo,e1,hlo⟩:=hlo
 obtain ⟨hi,e2,hhi⟩:=hhi
 rw [e1,e2]
 unfold qdj qa2
 have ok:qqZ (false,(min (max (min lo 1099511627776) (-1099511627776)) 1099511627775,max (max (min hi 1099511627776) (-1099511627776)) (-1099511627775))):=by
  refine .inr ⟨rfl,?_,?_,?_,?_,?_⟩ <;> simp only [] <;> omega
 refine qL.2 ?_
 rw [qi7 ok]
 refine ⟨rfl,?_,?_⟩ <;> simp only [] <;> omega
theorem qhx {a b:Iv} {m n:Int} (h1:qy a m=true) (h2:qy b n=true):qy (qht a b) (m-n)=true:=by
 have:=QU h1 (qq6 h2)
 rw [← Int.sub_eq_add_neg] at this;exact this
theorem qve {a b:Iv} {v k:Int} (h1:qy a v=true) (h2:qy b k=true) (hv : -2199023255552≤min v k∧max v k≤2199023255552):yt (yy a b) v k=true:=by
 refine jI.2 ⟨hv,?_⟩
 unfold yy
 rw [Zz]
 exact qgb (qhx h1 h2) (QU h1 h2)
end
end Su
end
section
namespace Su
open Go Fly
set_option linter.unusedVariables false
noncomputable section
theorem Jn {c:CoD} {s:StD} {row:List Su.Vl} {k:Int}:j9 c s row k=true↔s.1=false∧s.2.2.2.2.length=c.2.1.length∧row.length=c.2.1.length∧qy (stK s) k=true∧∀ i,i<c.2.1.length→hsN c.2.1 s.2.2.2.2 row k i=true:=by
 unfold j9
 cases hd:s.1 with
 | true=>simp
 | false =>
  by_cases h1:s.2.2.2.2.length=c.2.1.length
  · by_cases h2:row.length=c.2.1.length
    · cases hk:qy (stK s) k with
      | false=>simp [h1,h2]
      | true =>
       simp only [cond_false,decide_eq_true h1,decide_eq_true h2,Bool.not_true]
       rw [qf3]
       exact ⟨fun h=>⟨trivial,h1,h2,trivial,h⟩,fun h=>h.2.2.2.2⟩
    · rw [decide_eq_true h1,decide_eq_false h2]
      simp only [cond_false,cond_true,Bool.not_true,Bool.not_false]
      exact ⟨fun h=>(by cases h),fun h=>absurd h.2.2.1 h2⟩
  · rw [decide_eq_false h1]
    simp only [cond_false,cond_true,Bool.not_false]
    exact ⟨fun h=>(by cases h),fun h=>absurd h.2.1 h1⟩
theorem qbd {C:List Su.Cc} {X:List Su.Ce} {row:List Su.Vl} {k:Int} {i:Nat} (h1:i<C.length) (h2:i<X.length) (h3:i<row.length):hsN C X row k i=Qn C[i].type X[i] row[i] k:=by
 unfold hsN
 rw [List.getElem?_eq_getElem h1,List.getElem?_eq_getElem h2,List.getElem?_eq_getElem h3]
theorem qvf (K:Iv) (P:List Su.Ce):stK (mkS K P)=K:=rfl
theorem qlB {c:CoD} {s:StD} {N:List Su.Vl} {k:Int} {f:Nat→Su.Cc→Su.Ce→Su.Ce} (hd:s.1=false) (hl:s.2.2.2.2.length=c.2.1.length) (hN:N.length=c.2.1.length) (hk:qy (stK s) k=true)
 (hw:∀ (i:Nat) (hi:i<c.2.1.length),SpW (f i c.2.1[i] (s.2.2.2.2[i]'(by omega))).s) (hf:∀ v∈N,Fw v.f)
 (hc:∀ (i:Nat) (hi:i<c.2.1.length),Qn c.2.1[i].type (f i c.2.1[i] (s.2.2.2.2[i]'(by omega))) (N[i]'(by omega)) k=true) :
 ∃ P,qO c s f=mkS (ivN (stK s)) P∧P.length=c.2.1.length∧(∀ (i:Nat) (hi:i<c.2.1.length),P[i]?=some (qw (f i c.2.1[i] (s.2.2.2.2[i]'(by omega))) c.2.1[i].type))∧j9 c (mkS (ivN (stK s)) P) N k=true:=by
 have hK:(qJ [stK s]).1=false:=by rw [qei];exact (qL.1 hk).1
 have hbare:=fun (i:Nat) (hi:i<c.2.1.length)=>qlA (hw i hi) (hf _ (List.getElem_mem (show i<N.length by omega))) (hc i hi)
 have hout:∀ (i:Nat) (hi:i<c.2.1.length),jo c.2.1 s.2.2.2.2 f i=some (qw (f i c.2.1[i] (s.2.2.2.2[i]'(by omega))) c.2.1[i].type):=by
  intro i hi
  unfold jo
  rw [List.getElem?_eq_getElem hi,List.getElem?_eq_getElem (show i<s.2.2.2.2.length by omega)]
  exact qz (hbare i hi).1
 obtain ⟨P,hP⟩:=qa7 (out:=jo c.2.1 s.2.2.2.2 f) (n:=c.2.1.length) fun i hi=>by rw [hout i hi];simp
 have hlen:=jB hP
 have hget:∀ (i:Nat) (hi:i<c.2.1.length),P[i]?=some (qw (f i c.2.1[i] (s.2.2.2.2[i]'(by omega))) c.2.1[i].type):=fun i hi=>by
  rw [← YN hP i hi,hout i hi]
 refine ⟨P,?_,hlen,hget,?_⟩
 · rw [j8 f hd hl hK,hP,qei];rfl
 · refine Jn.2 ⟨rfl,hlen,hN,?_,fun i hi=>?_⟩
   · rw [qvf,QJ];exact hk
   · have h2:i<P.length:=by omega
     show hsN c.2.1 P N k i=true
     rw [qbd hi h2 (by omega)]
     have:=hget i hi
     rw [List.getElem?_eq_getElem h2] at this
     rw [soi this]
     exact (hbare i hi).2
theorem qvg {K:Iv} {P:List Su.Ce} (h1:P.length≤1000000) (h2:∀ x∈P,x.fm.2.2.1.length≤1000000):smS (mkS K P)=true:=by
 unfold smS
 rw [Bool.and_eq_true]
 exact ⟨Nat.ble_eq_true_of_le h1,List.all_eq_true.2 fun x hx=>Nat.ble_eq_true_of_le (h2 x hx)⟩
theorem qAf (x:Su.Ce) (t:Int):(qw x t).fm.2.2.1.length≤x.fm.2.2.1.length:=by
 unfold qw
 cases decide (t=1) with
 | true=>exact Nat.zero_le _
 | false =>
  cases decide (t=2) with
  | true=>exact Nat.zero_le _
  | false =>
   cases decide (t=3) with
   | true=>exact Nat.le_refl _
   | false=>exact Nat.zero_le _
theorem qq7 {c:CoD} {l:List StD} (h:qa6 c l=false):c.2.1.length≤40∧∀ s∈l,s.2.2.2.2.length≤40∧∀ x∈s.2.2.2.2,x.fm.2.2.1.length≤8:=by
 unfold qa6 at h
 by_cases h1:40<(c.2.1.length:Int)
 · rw [qE (decide_eq_true h1)] at h;cases h
 · rw [qz (decide_eq_false h1)] at h
   have h:qch l.length (YM l)=true:=by
    cases ha:qch l.length (YM l) with
    | true=>rfl
    | false=>rw [ha] at h;cases h
   refine ⟨by omega,fun s hs=>?_⟩
   obtain ⟨i,hi,rfl⟩:=List.mem_iff_getElem.1 hs
   have:=qf3.1 h i hi
   unfold YM at this
   rw [List.getElem?_eq_getElem hi] at this
   simp only [Bool.and_eq_true,Bool.not_eq_true',decide_eq_false_iff_not] at this
   have h9 : ¬ 40<((l[i].2.2.2.2.length:Nat):Int):=this.1
   refine ⟨by omega,fun x hx=>?_⟩
   obtain ⟨j,hj,rfl⟩:=List.mem_iff_getElem.1 hx
   have:=qf3.1 this.2 j hj
   unfold qa5 at this
   rw [List.getElem?_eq_getElem hj] at this
   simp only [Bool.not_eq_true',decide_eq_false_iff_not] at this
   omega
theorem qFv {s:StD} (h1:s.2.2.2.2.length≤40) (h2:∀ x∈s.2.2.2.2,x.fm.2.2.1.length≤8):smS s=true:=by
 unfold smS
 rw [Bool.and_eq_true]
 exact ⟨Nat.ble_eq_true_of_le (by omega),List.all_eq_true.2 fun x hx=>Nat.ble_eq_true_of_le (by have:=h2 x hx;omega)⟩
end
end Su
end
section
namespace Su
open Go Fly
set_option linter.unusedVariables false
noncomputable section
def kyV (k:Int):Int:=bif decide (k<0) then -(kV k.natAbs:Int) else (kV k.natAbs:Int)
theorem qCR {f:Int} (h:fI f=true):fv f.toNat=kyV (ky f):=by
 have h':jD (bK f.toNat)=true:=h
 unfold fv fvK kyV
 rw [h',cond_true,qdl]
 have e:ky f=bif bS f.toNat then -(bK f.toNat:Int) else (bK f.toNat:Int):=rfl
 rw [e]
 cases bS f.toNat with
 | true =>
  by_cases h0:bK f.toNat=0
  · rw [h0];rfl
  · rw [decide_eq_true (by simp only [cond_true];omega)]
 | false=>rw [decide_eq_false (by simp only [cond_false];omega)]
theorem qvh {w:Int}:Ji w.toNat = !fI w:=by
 have:=qjf w.toNat
 unfold fI;rw [this,Bool.not_not]
end
end Su
end
