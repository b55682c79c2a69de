/-
  What functions of the program compute, in plain Lean, and that the evaluator finds it.
-/
import Derived.Test.YtldhknmacepeiaaGreatDoorSuXl
import Derived.Test.YtldhknmacepeiaaGreatDoorNT14
set_option linter.unusedVariables false
set_option linter.unusedSimpArgs false
set_option maxRecDepth 10000
section
namespace Su
open Go Fly
noncomputable section
def dPar  (s:ByteArray):Option (Int×Int) :=
 (bif(decide (400<(ByteArray.size s:Int)))then
 some ((0:Int),(81:Int))
 else
  (dPts_s s).bind fun x0=>
  (bif(!x0.2.2)then
  some ((0:Int),(80:Int))
 else
  (bif(decide (x0.1=(ByteArray.mk (List.toArray []))))then
  (bif(decide (x0.1=(ByteArray.mk (List.toArray []))))then
  (bif(decide (x0.1=(ByteArray.mk (List.toArray []))))then
  some ((0:Int),(0:Int))
 else
  (bif(decide (320<(IntKind.wrap .i64 ((ByteArray.size x0.1:Int)+x0.2.1))))then
  some ((0:Int),(82:Int))
 else
  (dTen_s x0.2.1).bind fun x1=>
  (Mul_s ((bif(Nat.ble (List.length (lb x0.1)) 20000)then(bif(List.isEmpty (lb x0.1))then([],(22:Int))else(bif(List.all (lb x0.1) (isD))then((ofN (dv (lb x0.1))),(0:Int))else([],(22:Int))))else([],(20:Int))).1,x1)).bind fun x2=>
  (dTen_s (IntKind.wrap .i64 (0-x0.2.1))).bind fun x3=>
  (rFrac_s (false,x2,x3,(0:Int))).bind fun x4=>
  (bif(decide (x4.1=((9218868437227405312:Nat):Int)))then
  some ((0:Int),(82:Int))
 else
  some (x4.1,(0:Int)))))
 else
  (bif(decide ((IntKind.wrap .i64 ((ByteArray.size x0.1:Int)+x0.2.1))<(-325)))then
  some ((0:Int),(0:Int))
 else
  (bif(decide (320<(IntKind.wrap .i64 ((ByteArray.size x0.1:Int)+x0.2.1))))then
  some ((0:Int),(82:Int))
 else
  (dTen_s x0.2.1).bind fun x5=>
  (Mul_s ((bif(Nat.ble (List.length (lb x0.1)) 20000)then(bif(List.isEmpty (lb x0.1))then([],(22:Int))else(bif(List.all (lb x0.1) (isD))then((ofN (dv (lb x0.1))),(0:Int))else([],(22:Int))))else([],(20:Int))).1,x5)).bind fun x6=>
  (dTen_s (IntKind.wrap .i64 (0-x0.2.1))).bind fun x7=>
  (rFrac_s (false,x6,x7,(0:Int))).bind fun x8=>
  (bif(decide (x8.1=((9218868437227405312:Nat):Int)))then
  some ((0:Int),(82:Int))
 else
  some (x8.1,(0:Int))))))
 else
  (tLB_s (x0.1,((48:Nat):Int))).bind fun x9=>
  (bif(decide (x9=(ByteArray.mk (List.toArray []))))then
  (bif(decide (x9=(ByteArray.mk (List.toArray []))))then
  some ((0:Int),(0:Int))
 else
  (bif(decide (320<(IntKind.wrap .i64 ((ByteArray.size x9:Int)+x0.2.1))))then
  some ((0:Int),(82:Int))
 else
  (dTen_s x0.2.1).bind fun x10=>
  (Mul_s ((bif(Nat.ble (List.length (lb x9)) 20000)then(bif(List.isEmpty (lb x9))then([],(22:Int))else(bif(List.all (lb x9) (isD))then((ofN (dv (lb x9))),(0:Int))else([],(22:Int))))else([],(20:Int))).1,x10)).bind fun x11=>
  (dTen_s (IntKind.wrap .i64 (0-x0.2.1))).bind fun x12=>
  (rFrac_s (false,x11,x12,(0:Int))).bind fun x13=>
  (bif(decide (x13.1=((9218868437227405312:Nat):Int)))then
  some ((0:Int),(82:Int))
 else
  some (x13.1,(0:Int)))))
 else
  (bif(decide ((IntKind.wrap .i64 ((ByteArray.size x9:Int)+x0.2.1))<(-325)))then
  some ((0:Int),(0:Int))
 else
  (bif(decide (320<(IntKind.wrap .i64 ((ByteArray.size x9:Int)+x0.2.1))))then
  some ((0:Int),(82:Int))
 else
  (dTen_s x0.2.1).bind fun x14=>
  (Mul_s ((bif(Nat.ble (List.length (lb x9)) 20000)then(bif(List.isEmpty (lb x9))then([],(22:Int))else(bif(List.all (lb x9) (isD))then((ofN (dv (lb x9))),(0:Int))else([],(22:Int))))else([],(20:Int))).1,x14)).bind fun x15=>
  (dTen_s (IntKind.wrap .i64 (0-x0.2.1))).bind fun x16=>
  (rFrac_s (false,x15,x16,(0:Int))).bind fun x17=>
  (bif(decide (x17.1=((9218868437227405312:Nat):Int)))then
  some ((0:Int),(82:Int))
 else
  some (x17.1,(0:Int)))))))))
def parF(t:List UInt8)(pw:Int):Int×Int :=
 if t=[]∨(t.length:Int)+pw < -325 then(0,0)else
 if 320<(t.length:Int)+pw then(0,82)else
 if fracV false 0 (dv t*pT pw) (pU pw)=9218868437227405312 then(0,82)else(((fracV false 0 (dv t*pT pw) (pU pw):Nat):Int),0)
def parL(S:List UInt8):Int×Int :=
 if 400<S.length then(0,81)else
 if(ptL S).2.2=false then(0,80)else parF ((ptL S).1.dropWhile (· == 48)) (ptL S).2.1
theorem pt_pos{t:List UInt8}{d:List UInt8}(h:d.dropWhile (· == 48)=t)(hd:∀c∈d,isD c=true)(ht:t≠[]):(∀c∈t,isD c=true)∧dv t≠0:=by
 have hs:∀c∈t,isD c=true:=fun c hc=>hd c (by rw[← h]at hc;exact(zf _).mem hc)
 refine⟨hs,?_⟩
 cases t with
 | nil=>exact absurd rfl ht
 | cons c r=>
  have hc:(c == 48)=false:=by
   have:=List.head?_dropWhile_not (p:=(· == (48:UInt8))) (l:=d)
   rw[h]at this;simpa using this
  have hcD:=isD_iff.1 (hs c qA)
  have hne:c.toNat≠48:=fun e=>by
   have:c=48:=UInt8.toNat_inj.1 e
   rw[this]at hc;cases hc
  have e:dv (c::r)=(c.toNat-48)*10^r.length+dv r:=by
   have:=dv_app [c] r
   have e1:dv [c]=c.toNat-48:=by unfold dv;simp
   rw[e1]at this;exact this
  rw[e];have:1*10^r.length≤(c.toNat-48)*10^r.length:=qt _ (by omega)
  have:=Nat.one_le_pow r.length 10 (by decide)
  omega
theorem par_fr{t:List UInt8}{pw:Int}(hs:∀c∈t,isD c=true)(h0:dv t≠0)(hl:t.length≤400)(h1 : -325≤(t.length:Int)+pw)(h2:(t.length:Int)+pw≤320)(K:Int×Int→Option (Int×Int)) :
 ((dTen_s pw).bind fun x1=>(Mul_s (ofN (dv t),x1)).bind fun x2=>(dTen_s (IntKind.i64.wrap (0-pw))).bind fun x3=>(rFrac_s (false,x2,x3,(0:Int))).bind K)=K (((fracV false 0 (dv t*pT pw) (pU pw):Nat):Int),fracF false 0 (dv t*pT pw) (pU pw)):=by
 have bn:blen (dv t)≤1601:=by have:=blen_lt10 (dv_lt t hs);omega
 have bt:blen (pT pw)≤1681:=bl_t (by omega)
 have bu:blen (pU pw)≤2941:=by have:=blen_ten (-pw).toNat;unfold pU;omega
 have bp:=blen_mul (dv t) (pT pw)
 have m1:=mul_b (u:=dv t) (v:=pT pw) (by omega) (by omega)
 have w:IntKind.i64.wrap (0-pw) = -pw:=by rw[w64 (n:=0-pw) (by omega) (by omega)];omega
 rw[w];refine obs (ten_v (by omega)) (obs m1 (obs (ten_u (by omega)) ?_))
 have hm:dv t*pT pw≠0:=y6 h0 (by have:=pT_pos pw;omega)
 have hu:pU pw≠0:=by have:=pU_pos pw;omega
 have p1:=blen_pos hm;have p2:=blen_pos hu;refine obs ?_ rfl
 unfold rFrac_s;simp only[valN_ofN];rw[beq0 hm,beq0 hu,len_ofN _ (by omega),len_ofN _ (by omega),qq (show blen (dv t*pT pw)≤40000 by omega),qq (show blen (pU pw)≤40000 by omega),qc (show -4000≤fracE (dv t*pT pw) (pU pw) by unfold fracE;omega),qc (show fracE (dv t*pT pw) (pU pw)≤4000 by unfold fracE;omega)];rfl
theorem ptB_1(S:List UInt8)(a:List UInt8×Int×Bool×Nat):(ptB S a).1=a.1:=by unfold ptB;split <;> rfl
theorem ptL_dig(S:List UInt8):∀c∈(ptL S).1,isD c=true:=by
 unfold ptL;rw[ptB_1];unfold ptA;split
 · intro c hc
   rcases qY.1 hc with h | h
   · exact rn_isD S _ c h
   · exact rn_isD S _ c h
 · exact rn_isD S _
theorem ptA_b(S:List UInt8):(ptA S).1.length≤S.length∧-(S.length:Int)≤(ptA S).2.1∧(ptA S).2.1≤0:=by
 have j0:=rn_le (S:=S) (i:=0) (by omega)
 have e0:rn S 0=(rnL S 0).length:=by unfold rn;omega
 unfold ptA;split
 · rename_i h
   have hl:=get_c h;have j1:=rn_le (S:=S) (i:=rn S 0+1) (by omega)
   have e1:rn S (rn S 0+1)=rn S 0+1+(rnL S (rn S 0+1)).length:=rfl
   simp only[qp];omega
 · simp only[]
   omega
theorem ptB_b(S:List UInt8)(a:List UInt8×Int×Bool×Nat):a.2.1-100000≤(ptB S a).2.1∧(ptB S a).2.1≤a.2.1+100000:=by
 unfold ptB;split
 · have h:∀k,exV (rnL S k)≤100000:=fun k=>exV_le _
   simp only[];split
   · have:=h (if S[a.2.2.2+1]?=some 43∨S[a.2.2.2+1]?=some 45 then a.2.2.2+2 else a.2.2.2+1)
     constructor <;> omega
   · have:=h (if S[a.2.2.2+1]?=some 43∨S[a.2.2.2+1]?=some 45 then a.2.2.2+2 else a.2.2.2+1)
     constructor <;> omega
 · simp only[]
   omega
theorem ptL_b(S:List UInt8):(ptL S).1.length≤S.length∧-(S.length:Int)-100000≤(ptL S).2.1∧(ptL S).2.1≤100000:=by
 obtain⟨h1,h2,h3⟩:=ptA_b S;have h4:=ptB_b S (ptA S)
 unfold ptL;rw[ptB_1];omega
theorem mk_dec(l m:List UInt8):decide (bs l=ByteArray.mk (List.toArray m))=decide (l=m):=bs_dec l m
theorem tLB_48{l:List UInt8}(h:l.length≤400):tLB_s (bs l,((48:Nat):Int))=some (bs (l.dropWhile (· == 48))):=by
 unfold tLB_s;simp only[lb_bs];rw[qq (by omega)];rfl
theorem par_num{t:List UInt8}(hs:∀c∈t,isD c=true)(h0:t≠[])(hl:t.length≤400):(bif(Nat.ble t.length 20000)then(bif(List.isEmpty t)then([],(22:Int))else(bif(List.all t isD)then((ofN (dv t)),(0:Int))else([],(22:Int))))else([],(20:Int)))=(ofN (dv t),(0:Int)):=by
 rw[qq (by omega),qe,jh.2 hs];cases t with
 | nil=>exact absurd rfl h0
 | cons c r=>rfl
theorem okS_nil:okS []=true:=by rw[okS_eq];rfl
def dPar_s(s:ByteArray):Option (Int×Int):=bif okS []then some (parL (lb s))else none
theorem dPar_v(s:ByteArray):dPar_s s=some (parL (lb s)):=by unfold dPar_s;rw[okS_nil];rfl
theorem dPar_ok(s:ByteArray)(y:Int×Int)(hg:(d1 cS).good s)(h:dPar_s s=some y):dPar s=some y:=by
 clear hg;rw[dPar_v]at h;revert h;refine onB (P:=fun s=>some (parL (lb s))=some y→dPar s=some y) (fun S h=>?_) s
 have:=soi h;subst this
 rw[lb_bs];unfold dPar parL;rw[bs_size];by_cases c1:400<S.length
 · rw[qT c1,bdT (by omega)]
 rw[qI c1,bdF (by omega)];have hp:dPts_s (bs S)=some (bs (ptL S).1,(ptL S).2.1,(ptL S).2.2):=by unfold dPts_s;rw[lb_bs,qq (by omega)];rfl
 refine obs hp ?_
 obtain⟨b1,b2,b3⟩:=ptL_b S;have hd:=ptL_dig S;generalize ptL S=L at *
 obtain⟨d,pw,ok⟩:=L;simp only[mk_dec,lb_bs,bs_size]at *
 cases ok with
 | false=>rfl
 | true=>
  rw[qI (by decide)];simp only[zE,qh];by_cases e:d=[]
  · subst e
    rw[bdT rfl,bdT rfl,bdT rfl];unfold parF;rw[qT (.inl rfl)]
  · rw[bdF e]
    refine obs (tLB_48 (by omega)) ?_
    have tl:(d.dropWhile (· == 48)).length≤d.length:=(zf _).length_le
    have tp:=@pt_pos (d.dropWhile (· == 48)) d rfl hd
    generalize d.dropWhile (· == 48)=t at *
    simp only[mk_dec,lb_bs,bs_size];unfold parF;by_cases e2:t=[]
    · subst e2
      rw[qT (.inl rfl),bdT rfl,bdT rfl]
    · obtain⟨hs,h0⟩:=tp e2
      have w:IntKind.i64.wrap (((t.length:Nat):Int)+pw)=((t.length:Nat):Int)+pw:=w64 (by omega) (by omega)
      rw[bdF e2,w];by_cases a1:((t.length:Nat):Int)+pw < -325
      · rw[bdT a1,qT (.inr a1)]
      · rw[bdF a1,qI (by rintro(h | h);exact e2 h;exact a1 h)]
        by_cases a2:320<((t.length:Nat):Int)+pw
        · rw[bdT a2,qT a2]
        · rw[bdF a2,qI a2,par_num hs e2 (by omega)]
          refine(par_fr hs h0 (by omega) (by omega) (by omega) _).trans ?_
          by_cases a3:fracV false 0 (dv t*pT pw) (pU pw)=9218868437227405312
          · rw[qT a3]
            refine(bdT (by simp only[a3]) _ _)
          · rw[qI a3]
            refine(bdF (by simp only[Int.natCast_inj];exact a3) _ _)
end
end Su
end
section
namespace Su
open Go Fly
theorem dg_pos{n:Nat}:0<n→∃c r,dg n=c::r∧c≠48:=by
 induction n using Nat.strongRecOn with
 | ind n ih=>
  intro hn;by_cases h:n<10
  · refine⟨UInt8.ofNat (48+n),[],dg_lt h,fun e=>?_⟩
    have:=dig_nat h
    rw[e]at this;have e48:(48:UInt8).toNat=48:=rfl
    omega
  · obtain⟨c,r,e,hc⟩:=ih (n / 10) (by omega) (by omega)
    exact⟨c,r++[UInt8.ofNat (48+n % 10)],by rw[dg_ge (by omega),e];rfl,hc⟩
theorem trimR_hd{c x:UInt8}{l:List UInt8}(h:x≠c):trimR c (x::l)=x::trimR c l:=by
 rw[trimR_cons];have hb:(x == c)=false:=by simpa using h
 rw[hb];by_cases h0:trimR c l=[]
 · rw[qT h0,h0];rfl
 · rw[qI h0]
theorem rnL_app{A D B:List UInt8}(hD:∀c∈D,isD c=true)(hB:∀c,B[0]?=some c→isD c=false):rnL (A++(D++B)) A.length=D:=by
 unfold rnL;rw[List.drop_left,List.takeWhile_append_of_pos hD];cases B with
 | nil=>simp
 | cons b B=>
  rw[List.takeWhile_cons,hB b rfl];simp
theorem rn_app{A D B:List UInt8}(hD:∀c∈D,isD c=true)(hB:∀c,B[0]?=some c→isD c=false):rn (A++(D++B)) A.length=(A++D).length:=by
 unfold rn;rw[rnL_app hD hB,qp]
theorem get_app(A B:List UInt8)(i:Nat):(A++B)[A.length+i]?=B[i]?:=by
 rw[qU (by omega)]
 congr 1;omega
theorem exV_dg{m:Nat}(h:m≤100000):exV (dg m)=m:=by
 induction m using Nat.strongRecOn with
 | ind m ih=>
  by_cases h1:m<10
  · rw[dg_lt h1]
    show min (0*10+((UInt8.ofNat (48+m)).toNat-48)) 100000=m
    rw[dig_nat h1];omega
  · rw[dg_ge (by omega),exV_snoc,ih (m / 10) (by omega) (by omega),dig_nat (by omega)]
    omega
def XE(X:List UInt8)(e:Int):Prop:=X=[]∧e=0∨X=101::itT e∧-100000≤e∧e≤100000
theorem XE_hd{X:List UInt8}{e:Int}(h:XE X e):∀c,X[0]?=some c→isD c=false∧c≠46:=by
 rcases h with⟨rfl,_⟩ | ⟨rfl,_⟩
 · intro c hc;cases hc
 · intro c hc
   have:c=101:=by cases hc;rfl
   subst this;decide
theorem ptB_X{A X:List UInt8}{e:Int}(h:XE X e)(D:List UInt8)(pw:Int)(ok:Bool):ptB (A++X) (D,pw,ok,A.length)=(D,pw+e,ok):=by
 unfold ptB;rcases h with⟨rfl,rfl⟩ | ⟨rfl,h1,h2⟩
 · have g:(A++[])[A.length]?=none:=by rw[jx];exact jb (qC _)
   simp only[g];simp
 · have g:(A++101::itT e)[A.length]?=some 101:=get_app A (101::itT e) 0
   have g1:(A++101::itT e)[A.length+1]?=(itT e)[0]?:=get_app A (101::itT e) 1
   simp only[g,g1,true_or,if_true];by_cases hn:e<0
   · have ei:itT e=45::dg e.natAbs:=by unfold itT;rw[bdT hn]
     rw[ei];have e1:A++101::45::dg e.natAbs=(A++[101,45])++(dg e.natAbs++[]):=by simp
     have e2:A.length+2=(A++[101,45]).length:=by simp
     simp only[yO,or_true,if_true];rw[e1,e2,rnL_app (dg_isD _) (fun c hc=>by cases hc),rn_app (dg_isD _) (fun c hc=>by cases hc),exV_dg (by omega),qc (dg_ne _),jx,qc rfl];have : -((e.natAbs:Nat):Int)=e:=by omega
     rw[this];simp
   · have ei:itT e=dg e.toNat:=by unfold itT;rw[bdF hn]
     rw[ei];obtain⟨c,r,ec⟩:∃c r,dg e.toNat=c::r:=by
      cases h:dg e.toNat with
      | nil=>exact absurd h (dg_ne _)
      | cons c r=>exact⟨c,r,rfl⟩
     have hc:=isD_iff.1 (dg_isD e.toNat c (by rw[ec];exact qA))
     have n43 : ¬c=43:=fun h=>by subst h;revert hc;decide
     have n45 : ¬c=45:=fun h=>by subst h;revert hc;decide
     have e1:A++101::dg e.toNat=(A++[101])++(dg e.toNat++[]):=by simp
     have e2:A.length+1=(A++[101]).length:=by simp
     have gg:(dg e.toNat)[0]?=some c:=by rw[ec];rfl
     rw[gg];simp only[qa,n43,n45,or_self,zL];rw[e1,e2,rnL_app (dg_isD _) (fun c hc=>by cases hc),rn_app (dg_isD _) (fun c hc=>by cases hc),exV_dg (by omega),qc (dg_ne _),jx,qc rfl];have:((e.toNat:Nat):Int)=e:=by omega
     rw[this];simp
theorem ptL_pt{I F X:List UInt8}{e:Int}(hI:∀c∈I,isD c=true)(hI0:I≠[])(hF:∀c∈F,isD c=true)(hF0:F≠[])(hX:XE X e) :
 ptL (I++46::(F++X))=(I++F,-(F.length:Int)+e,true):=by
 have h46:∀c,(46::(F++X))[0]?=some c→isD c=false:=fun c hc=>by
  have:c=46:=by cases hc;rfl
  subst this;decide
 have hx:∀c,X[0]?=some c→isD c=false:=fun c hc=>(XE_hd hX c hc).1
 have r0:rnL (I++46::(F++X)) 0=I:=rnL_app (A:=[]) hI h46
 have q0:rn (I++46::(F++X)) 0=I.length:=rn_app (A:=[]) hI h46
 have eS:I++46::(F++X)=(I++[46])++(F++X):=by simp
 have el:I.length+1=(I++[46]).length:=by simp
 have r1:rnL (I++46::(F++X)) (I.length+1)=F:=by rw[eS,el];exact rnL_app hF hx
 have q1:rn (I++46::(F++X)) (I.length+1)=((I++[46])++F).length:=by rw[eS,el];exact rn_app hF hx
 have g:(I++46::(F++X))[I.length]?=some 46:=get_app I (46::(F++X)) 0
 have eA:ptA (I++46::(F++X))=(I++F,-(F.length:Int),true,((I++[46])++F).length):=by
  unfold ptA;rw[q0,g,qT rfl,r0,r1,q1,qc hI0,qc hF0];rfl
 unfold ptL;rw[eA];have e3:I++46::(F++X)=(I++[46]++F)++X:=by simp
 rw[e3];exact ptB_X hX _ _ _
theorem ptL_np{I X:List UInt8}{e:Int}(hI:∀c∈I,isD c=true)(hI0:I≠[])(hX:XE X e) :
 ptL (I++X)=(I,0+e,true):=by
 have hx:∀c,X[0]?=some c→isD c=false:=fun c hc=>(XE_hd hX c hc).1
 have r0:rnL (I++X) 0=I:=rnL_app (A:=[]) hI hx
 have q0:rn (I++X) 0=I.length:=rn_app (A:=[]) hI hx
 have g : ¬(I++X)[I.length]?=some 46:=fun h=>by
  have:=get_app I X 0
  rw[jB,h]at this;exact(XE_hd hX 46 this.symm).2 rfl
 have eA:ptA (I++X)=(I,0,true,I.length):=by
  unfold ptA;rw[q0,qI g,r0,qc hI0]
 unfold ptL;rw[eA];exact ptB_X hX _ _ _
theorem dw_hd{c:UInt8}{r:List UInt8}(h:c≠48):(c::r).dropWhile (· == 48)=c::r:=by
 have hb:(c == 48)=false:=by simpa using h
 rw[y9,hb];rfl
theorem dw_zs{l:List UInt8}:∀m,(zs m++l).dropWhile (· == 48)=l.dropWhile (· == 48)
 | 0=>rfl
 | m+1=>by
  have:zs (m+1)=48::zs m:=rfl
  rw[this,jQ,y9];exact dw_zs m
theorem zs_isD(m:Nat):∀c∈zs m,isD c=true:=fun c h=>by
 rw[List.eq_of_mem_replicate h];decide
theorem app_isD{A B:List UInt8}(hA:∀c∈A,isD c=true)(hB:∀c∈B,isD c=true):∀c∈A++B,isD c=true:=fun c h=>by
 rcases qY.1 h with h | h
 · exact hA c h
 · exact hB c h
theorem form_read{d:List UInt8}{q:Int}(hd:∀c∈d,isD c=true)(h0:∃c r,d=c::r∧c≠48)(hl:d.length≤1000)(h1 : -1000≤q)(h2:q≤1000) :
 ∃j:Nat,j≤22∧(ptL (formL d q)).2.2=true∧(ptL (formL d q)).1.dropWhile (· == 48)=d++zs j∧(ptL (formL d q)).2.1=q-j:=by
 obtain⟨c,r,e0,hc⟩:=h0;have dw:∀l,(d++l).dropWhile (· == 48)=d++l:=fun l=>by rw[e0];exact dw_hd hc
 have dw0:d.dropWhile (· == 48)=d:=by rw[e0];exact dw_hd hc
 have hdn:d≠[]:=by rw[e0];simp
 have dl:1≤d.length:=by rw[e0];simp
 have X0:XE [] 0:=.inl ⟨rfl,rfl⟩
 have z0:d++zs 0=d:=by show d++[]=d;simp
 unfold formL;by_cases c1:0≤q∧(d.length:Int)+q≤21
 · rw[qT c1]
   have h:=ptL_pt (I:=d++zs q.toNat) (F:=[48]) (app_isD hd (zs_isD _)) (by simp[hdn]) (by decide) (by decide) X0
   have e:d++zs q.toNat++[46,48]=(d++zs q.toNat)++46::([48]++[]):=by simp
   rw[e,h];refine⟨q.toNat+1,by omega,rfl,?_,?_⟩
   · have:d++zs q.toNat++[48]=d++zs (q.toNat+1):=by
      rw[qO];unfold zs;rw[List.replicate_succ']
     simp only[this,dw]
   · simp only[yE];omega
 · rw[qI c1]
   by_cases c2:q<0∧0<(d.length:Int)+q
   · rw[qT c2]
     generalize hk:((d.length:Int)+q).toNat=k
     have h:=ptL_pt (I:=d.take k) (F:=d.drop k) (fun c hc=>hd c (yk hc)) (fun h=>by have:=congrArg List.length h;simp only[qH,qR]at this;omega) (fun c hc=>hd c (jA hc)) (fun h=>by have:=congrArg List.length h;simp only[qV,qR]at this;omega) X0
     have e:d.take k++[46]++d.drop k=d.take k++46::(d.drop k++[]):=by simp
     rw[e,h];refine⟨0,by omega,rfl,?_,?_⟩
     · simp only[jI,dw0,z0]
     · simp only[qV];omega
   · rw[qI c2]
     by_cases c3:(d.length:Int)+q≤0∧-5≤(d.length:Int)+q
     · rw[qT c3]
       generalize hk:(-((d.length:Int)+q)).toNat=k
       have h:=ptL_pt (I:=[48]) (F:=zs k++d) (by decide) (by decide) (app_isD (zs_isD _) hd) (by simp[hdn]) X0
       have e:[48,46]++zs k++d=[48]++46::((zs k++d)++[]):=by simp
       rw[e,h];refine⟨0,by omega,rfl,?_,?_⟩
       · have:[48]++(zs k++d)=zs (k+1)++d:=rfl
         simp only[this,dw_zs,dw0,z0]
       · simp only[qp,zs_len];omega
     · rw[qI c3]
       have X1:XE (101::itT ((d.length:Int)+q-1)) ((d.length:Int)+q-1):=.inr ⟨rfl,by omega,by omega⟩
       by_cases c4:1<d.length
       · rw[qT c4]
         have h:=ptL_pt (I:=d.take 1) (F:=d.drop 1) (fun c hc=>hd c (yk hc)) (fun h=>by have:=congrArg List.length h;simp only[qH,qR]at this;omega) (fun c hc=>hd c (jA hc)) (fun h=>by have:=congrArg List.length h;simp only[qV,qR]at this;omega) X1
         have e:d.take 1++46::d.drop 1++101::itT ((d.length:Int)+q-1)=d.take 1++46::(d.drop 1++101::itT ((d.length:Int)+q-1)):=by simp
         rw[e,h];refine⟨0,by omega,rfl,?_,?_⟩
         · simp only[jI,dw0,z0]
         · simp only[qV];omega
       · rw[qI c4]
         have ht:d.take 1=d:=qB (by omega)
         have h:=ptL_np hd hdn X1;rw[ht,jx,h];refine⟨0,by omega,rfl,?_,?_⟩
         · simp only[dw0,z0]
         · simp only[];omega
theorem dg_len{n j:Nat}(h:n<10^(j+1)):(dg n).length≤j+1:=by
 induction j generalizing n with
 | zero=>rw[dg_lt (by omega)];simp
 | succ j ih=>
  by_cases h1:n<10
  · rw[dg_lt h1];simp
  · rw[dg_ge (by omega),qp]
    have:=ih (n:=n / 10) (by rw[qS]at h;omega)
    simp only[yE];omega
theorem form_len26{d:List UInt8}{q:Int}(h0:1≤d.length)(hl:d.length≤18)(h1 : -900≤(d.length:Int)+q)(h2:(d.length:Int)+q≤900):(formL d q).length≤26:=by
 have hi:(itT ((d.length:Int)+q-1)).length≤4:=by
  unfold itT;by_cases hn:(d.length:Int)+q-1<0
  · rw[bdT hn,qy]
    have:=dg_len (n:=((d.length:Int)+q-1).natAbs) (j:=2) (by omega)
    omega
  · rw[bdF hn]
    have:=dg_len (n:=((d.length:Int)+q-1).toNat) (j:=2) (by omega)
    omega
 unfold formL;split
 · simp only[qp,zs_len,qy,qR];omega
 · split
   · simp only[qp,qH,qV,qy,qR];omega
   · split
     · simp only[qp,zs_len,qy,qR];omega
     · split
       · simp only[qp,qH,qV,qy,qR];omega
       · simp only[qp,qH,qy,qR];omega
set_option exponentiation.threshold 3000 in
theorem c_up0:2^54*2^2045<10^320*P75:=by rw[P75_eq];decide +kernel
set_option exponentiation.threshold 3000 in
theorem c_lo0:P75<10^326:=by rw[P75_eq];decide +kernel
theorem c_up:∃K T x y:Nat,x=320∧y=2045∧K=10^x∧T=2^54*2^y∧T<K*P75:=⟨_,_,_,_,rfl,rfl,rfl,rfl,c_up0⟩
theorem c_lo:∃K x:Nat,x=326∧K=10^x∧P75<K:=⟨_,_,rfl,rfl,c_lo0⟩
theorem mid2_top{k x:Nat}(h:k≤topN)(hx:x=2045):mid2 k≤2^54*2^x:=by
 rw[mid2_eq];refine yB ?_ (qL (by decide) ?_)
 · unfold kM;split <;> omega
 · unfold kE;unfold topN at h;omega
theorem mid2_pos(k:Nat):1≤mid2 k:=by
 have:=kV_lt (show k<k+1 by omega)
 unfold mid2;omega
theorem at_b{k n:Nat}{q:Int}{l:Nat}(hk:k≤topN)(hk0:k≠0)(h:Nr (n*pT q) (pU q) k)(h1:10^(l-1)≤n)(h2:n<10^l)(hl:1≤l) : -325≤(l:Int)+q∧(l:Int)+q≤320:=by
 obtain⟨a1,a2,_⟩:=h;have a2:=a2 hk;have b2:n*pT q*P75≤pU q*mid2 k:=by rcases a2 with h | h <;> omega
 have b1:pU q*mid2 (k-1)≤n*pT q*P75:=by rcases a1 with h | h | h <;> omega
 have m1:=mid2_pos (k-1)
 constructor
 · obtain⟨K,x,hx,hK,cl⟩:=c_lo
   refine Int.not_lt.1 fun hlt=>?_
   have e1:10^l*pT q*K≤pU q:=by
    rw[hK];unfold pT pU;rw[← qD,← qD];exact qL (by decide) (by omega)
   have e2:n*pT q*K<10^l*pT q*K:=qP (qP h2 (pT_pos q)) (by omega)
   have e3:pU q*1≤pU q*mid2 (k-1):=qJ _ m1
   have e4:n*pT q*P75≤n*pT q*K:=qJ _ (yA cl)
   generalize n*pT q*K=z1 at *
   generalize 10^l*pT q*K=z2 at *
   omega
 · obtain⟨K,T,x,y,hx,hy,hK,hT,cu⟩:=c_up
   have m2:mid2 k≤T:=by rw[hT];exact mid2_top hk hy
   refine Int.not_lt.1 fun hlt=>?_
   have e1:pU q*K≤10^(l-1)*pT q:=by
    rw[hK];unfold pT pU;rw[← qD,← qD];exact qL (by decide) (by omega)
   have e2:10^(l-1)*pT q≤n*pT q:=qt _ h1
   have e3:pU q*K*P75≤n*pT q*P75:=qt _ (je e1 e2)
   have e4:pU q*mid2 k≤pU q*T:=qJ _ m2
   have e5:pU q*T<pU q*(K*P75):=yz cu (pU_pos q)
   rw[qo]at e3;exact absurd (je e3 (je b2 e4)) (Nat.not_le.2 e5)
theorem dv_ge{c:UInt8}{r:List UInt8}(h:isD c=true)(h0:c≠48):10^r.length≤dv (c::r):=by
 have hc:=isD_iff.1 h;have hne:c.toNat≠48:=fun e=>h0 (UInt8.toNat_inj.1 e)
 have e:=dv_app [c] r
 have e1:dv [c]=c.toNat-48:=by unfold dv;simp
 rw[e1]at e;have:1*10^r.length≤(c.toNat-48)*10^r.length:=qt _ (by omega)
 show _≤dv ([c]++r)
 omega
theorem dv_zs(l:List UInt8):∀m,dv (l++zs m)=dv l*10^m
 | 0=>by show dv (l++[])=_;simp
 | m+1=>by
  have:zs (m+1)=zs m++[48]:=by unfold zs;rw[List.replicate_succ']
  rw[this,← qO,dv_snoc,dv_zs l m,qS,qo];rfl
theorem trimR_zsN:∀(n:Nat) (l:List UInt8),l.length=n→∃m,l=trimR 48 l++zs m
 | 0,l,h=>by
  obtain rfl:=yo h
  exact⟨0,rfl⟩
 | n+1,l,h=>by
  rcases yF l with e | ⟨A,c,e⟩
  · subst e;exact⟨0,rfl⟩
  · subst e
    rw[yC]at h ⊢;rw[trimR_snoc];by_cases hc:c=48
    · subst hc
      obtain⟨m,hm⟩:=trimR_zsN n A (by simpa using h)
      refine⟨m+1,?_⟩
      have:zs (m+1)=zs m++[48]:=by unfold zs;rw[List.replicate_succ']
      rw[this,← qO];show A++[48]=trimR 48 A++zs m++[48]
      rw[← hm]
    · have hb:(c == 48)=false:=by simpa using hc
      rw[hb];exact⟨0,by show _=_++[];simp⟩
theorem trimR_zs(l:List UInt8):∃m,l=trimR 48 l++zs m:=trimR_zsN _ l rfl
theorem back_ok{k n:Nat}{q:Int}(hk:k≤topN)(hk0:k≠0)(h:IsD k n q):(formL (lb (ansD n q).1) (ansD n q).2).length≤26∧parL (formL (lb (ansD n q).1) (ansD n q).2)=(((k:Nat):Int),0):=by
 obtain⟨h0,h1,h2,h3,h4⟩:=h;obtain⟨c,r,e0,hc⟩:=dg_pos (n:=n) (by omega)
 obtain⟨m,hm⟩:=trimR_zs (dg n)
 have hT:trimR 48 (dg n)=c::trimR 48 r:=by rw[e0,trimR_hd hc]
 obtain⟨d,hd⟩:∃d,d=trimR 48 (dg n):=⟨_,rfl⟩
 rw[← hd]at hm hT;have hl:(dg n).length=d.length+m:=by rw[hm,qp,zs_len]
 have hv:n=dv d*10^m:=by rw[← dv_zs,← hm,dv_dg]
 have dD:∀c∈d,isD c=true:=fun c hc=>dg_isD n c (by rw[hm];exact qY.2 (.inl hc))
 have l19:(dg n).length≤19:=dg_len (j:=18) (jE h1 (by decide))
 have dl:1≤d.length:=by rw[hT];simp
 have d18:d.length≤18:=by
  by_cases hn:n=10^18
  · subst hn
    rw[hd];decide +kernel
  · have:=dg_len (n:=n) (j:=17) (by omega)
    omega
 have nlo:10^((dg n).length-1)≤n:=by
  have:=dv_ge (r:=r) (dg_isD n c (by rw[e0];exact qA)) hc
  rw[← e0,dv_dg]at this;rw[e0,qy,jU];exact this
 have nhi:n<10^(dg n).length:=by have:=dv_lt (dg n) (dg_isD n);rwa [dv_dg]at this
 have bn:=bl_n h1;have bt:=bl_t (q:=q) (by omega)
 have bu:=bl_u (q:=q) (by omega)
 have bp:=blen_mul n (pT q)
 have hm0:n*pT q≠0:=y6 h0 (by have:=pT_pos q;omega)
 have hu0:pU q≠0:=by have:=pU_pos q;omega
 have p1:=blen_pos hm0;have p2:=blen_pos hu0;have nr:=frac_near hm0 hu0 (by unfold fracE;omega) (by unfold fracE;omega)
 rw[h4]at nr;obtain⟨b1,b2⟩:=at_b hk hk0 nr nlo nhi (by omega)
 have eq:(ansD n q).2=q+m:=by unfold ansD;rw[← hd];show q+(((dg n).length:Nat):Int)-((d.length:Nat):Int)=_;omega
 have ed:lb (ansD n q).1=d:=by unfold ansD;rw[← hd];rfl
 rw[eq,ed];have len:=form_len26 (d:=d) (q:=q+m) dl d18 (by omega) (by omega)
 refine⟨len,?_⟩
 obtain⟨j,j1,r1,r2,r3⟩:=form_read (d:=d) (q:=q+m) dD ⟨c,_,hT,hc⟩ (by omega) (by omega) (by omega)
 unfold parL;rw[qI (by omega),r1,r2,r3];rw[qI (by decide)];have tl:((d++zs j).length:Int)+(q+m-j)=(dg n).length+q:=by rw[qp,zs_len];omega
 have tv:=dv_zs d j;have tn:d++zs j≠[]:=by rw[hT];simp
 have tv0:dv (d++zs j)≠0:=by
  rw[tv];refine y6 (fun h=>?_) (by have:=Nat.pow_pos (n:=j) (show 0<10 by decide);omega)
  rw[h,jN]at hv;exact h0 hv
 have b3:blen (dv (d++zs j))≤4*(d.length+j)+1:=by
  have:=blen_lt10 (dv_lt (d++zs j) (app_isD dD (zs_isD j)))
  rwa [qp,zs_len]at this
 generalize d++zs j=t at *
 generalize hpw:q+m-j=pw at *
 have c1:blen (pT pw)≤1681:=bl_t (by omega)
 have c2:blen (pU pw)≤1689:=by have:=blen_ten (-pw).toNat;unfold pU;omega
 have c3:=blen_mul (dv t) (pT pw)
 have hm1:dv t*pT pw≠0:=y6 tv0 (by have:=pT_pos pw;omega)
 have hu1:pU pw≠0:=by have:=pU_pos pw;omega
 have p3:=blen_pos hm1;have p4:=blen_pos hu1;have nr2:=frac_near hm1 hu1 (by unfold fracE;omega) (by unfold fracE;omega)
 have e:dv t*pT pw*pU q=n*pT q*pU pw:=by
  rw[tv,hv];unfold pT pU;simp only[qo,← qD]
  congr 2;omega
 have ek:fracV false 0 (dv t*pT pw) (pU pw)=k:=nr_uniq nr2 nr e (pU_pos _) (pU_pos _)
 unfold parF;rw[qI (by rintro(h | h);exact tn h;omega),qI (by omega),ek,qI (by unfold topN at hk;omega)]
end Su
end
section
namespace Su
open Go Fly
noncomputable section
def lBac  (f:Int):Option Bool :=
 (bif(decide ((((clsK (bK f.toNat)):Nat):Int)=4))then
 some true
 else
  (bif(decide ((((clsK (bK f.toNat)):Nat):Int)=3))then
  some true
 else
  (dPrint_s f).bind fun x0=>
  (bif(decide ((Int.fdiv f (2^63))=1))then
  (bif(decide (x0=(ByteArray.mk (List.toArray []))))then
  some false
 else
  ((x0)[0]?).bind fun x1=>
  (bif(!(decide ((UInt8.toNat x1:Int)=45)))then
  some false
 else
  (bif((true&&(decide (1≤(ByteArray.size x0:Int))))&&(decide ((ByteArray.size x0:Int)≤(ByteArray.size x0:Int))))then
  (dPar_s (ByteArray.extract x0 1 (Int.toNat (ByteArray.size x0:Int)))).bind fun x2=>
  (bif(decide (x2.1=(absF f.toNat:Int)))then
  (bif(decide (x2.2=0))then
  some (decide ((((ByteArray.size (ByteArray.extract x0 1 (Int.toNat (ByteArray.size x0:Int)))):Nat):Int)≤26))
 else
  some false)
 else
  some false)
 else none)))
 else
  (dPar_s x0).bind fun x3=>
  (bif(decide (x3.1=(absF f.toNat:Int)))then
  (bif(decide (x3.2=0))then
  some (decide ((ByteArray.size x0:Int)≤26))
 else
  some false)
 else
  some false))))
theorem ans_ok{k n:Nat}{q:Int}(h:IsD k n q):okF (lb (ansD n q).1) (ansD n q).2=true:=by
 obtain⟨h0,h1,h2,h3,_⟩:=h;have hl:=dg_len18 h1;have ht:=trimR_len 48 (dg n)
 obtain⟨c,r,e,hc⟩:=dg_pos (n:=n) (by omega)
 have hp:0<(trimR 48 (dg n)).length:=by rw[e,trimR_hd hc];simp
 unfold ansD;refine okF_iff.2 ?_
 simp only[lb_bs];omega
theorem read_0:parL [48,46,48]=(0,0):=by
 have h:ptL [48,46,48]=([48,48],-1,true):=by decide +kernel
 unfold parL;rw[h,qI (by decide)];rw[qI (fun h=>by cases h)];rfl
theorem back_p{f:Int}(hg:inR .u64 f=true)(n4 : ¬((clsK (bK f.toNat):Nat):Int)=4)(n3 : ¬((clsK (bK f.toNat):Nat):Int)=3) :
 ∃L,dPrint_s f=some (bs (sgL f++L))∧L.length≤26∧parL L=(((absF f.toNat:Nat):Int),0):=by
 obtain⟨x,hx,hP⟩:=dDig_val (f:=f) hg
 have hv:=clsK_val (bK f.toNat)
 have ha:absF f.toNat=bK f.toNat:=by
  unfold absF;rw[nanK_not.2 (by revert hv;(repeat' split) <;> omega)];rfl
 rw[ha];rcases hP with⟨c2,c1,rfl⟩ | ⟨hc,n,q,hD,rfl⟩
 · have hc:clsK (bK f.toNat)=0:=by revert hv;(repeat' split) <;> omega
   have h0:bK f.toNat=0:=by rw[hc]at hv;revert hv;(repeat' split) <;> omega
   refine⟨[48,46,48],?_,by decide,?_⟩
   · unfold dPrint_s
     rw[bdF n4,bdF n3,bdT (by rw[hc];rfl)]
   · rw[h0];exact read_0
 · obtain⟨hk,hk0⟩:=cls12 hc
   have n0 : ¬((clsK (bK f.toNat):Nat):Int)=0:=by omega
   obtain⟨b1,b2⟩:=back_ok hk hk0 hD;have f1:dForm_s (ansD n q)=some (bs (formL (lb (ansD n q).1) (ansD n q).2)):=by unfold dForm_s;rw[ans_ok hD];rfl
   refine⟨_,?_,b1,b2⟩
   unfold dPrint_s;rw[bdF n4,bdF n3,bdF n0,hx];simp only[qf,f1,lb_bs]
def lBac_s(_:Int):Option Bool:=some true
theorem lBac_ok(f:Int)(y:Bool)(hg:(d1 (cI .u64)).good f)(h:lBac_s f=some y):lBac f=some y:=by
 have:=soi h;subst this
 unfold lBac;by_cases n4:((clsK (bK f.toNat):Nat):Int)=4
 · rw[bdT n4]
 · rw[bdF n4]
   by_cases n3:((clsK (bK f.toNat):Nat):Int)=3
   · rw[bdT n3]
   · rw[bdF n3]
     obtain⟨L,h1,h2,h3⟩:=back_p hg n4 n3;refine obs h1 ?_
     unfold sgL;by_cases hs:Int.fdiv f (2^63)=1
     · rw[qc hs,qe,qe]
       have e:(bs ([45]++L)).extract 1 (Int.toNat (((bs ([45]++L)).size:Nat):Int))=bs L:=by
        rw[bs_ext,bs_size,qb]
        congr 1
        show List.take (([45]++L).length-1) L=L
        exact qB (by simp)
       rw[e];have g:(bs ([45]++L))[0]?=some 45:=by rw[bs_get];rfl
       refine(bdF (fun h=>by have:=bs_inj.1 (h.trans (mk_bs []));cases this) _ _).trans ?_
       refine obs g ?_
       have hsz:1≤(bs ([45]++L)).size:=by rw[bs_size];simp
       rw[show(!(decide ((UInt8.toNat 45:Int)=45)))=false from rfl,qh];rw[qc (show(1:Int)≤(((bs ([45]++L)).size:Nat):Int) by omega),qc (zx _)];refine obs (dPar_v _) ?_
       rw[lb_bs,h3,bdT rfl,bdT rfl,bs_size,qc (by omega)]
     · rw[qm hs,qh,qh]
       refine obs (dPar_v _) ?_
       rw[lb_bs,jm,h3,bdT rfl,bdT rfl,bs_size,qc (by omega)]
end
end Su
end
