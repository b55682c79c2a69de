/-
  What functions of the program compute, in plain Lean, and that the evaluator finds it.
-/
import Derived.Test.YtldhknmacepeiaaGreatDoorSuXl
import Derived.Test.YtldhknmacepeiaaGreatDoorNT14
import Derived.Lib.ParseIntB
import Derived.Lib.IndexMore
import Derived.Test.YtldhknmacepeiaaGreatDoorSuSd
set_option linter.unusedVariables false
set_option linter.unusedSimpArgs false
set_option maxRecDepth 10000
section
namespace Su
open Go Fly
noncomputable section
def qt8  (s:ByteArray):Option (Int×Int) :=
 (bif(decide (400<(ByteArray.size s:Int)))then
 some ((0:Int),(81:Int))
 else
  (qb7 s).bind fun x0=>
  (bif(!x0.2.2)then
  some ((0:Int),(80:Int))
 else
  (bif(decide (x0.1=(ByteArray.mk (List.toArray []))))then
  (bif(decide (x0.1=(ByteArray.mk (List.toArray []))))then
  (bif(decide (x0.1=(ByteArray.mk (List.toArray []))))then
  some ((0:Int),(0:Int))
 else
  (bif(decide (320<(IntKind.wrap .i64 ((ByteArray.size x0.1:Int)+x0.2.1))))then
  some ((0:Int),(82:Int))
 else
  (ju x0.2.1).bind fun x1=>
  (ye ((bif(Nat.ble (List.length (lb x0.1)) 20000)then(bif(List.isEmpty (lb x0.1))then([],(22:Int))else(bif(List.all (lb x0.1) (isD))then((ofN (dv (lb x0.1))),(0:Int))else([],(22:Int))))else([],(20:Int))).1,x1)).bind fun x2=>
  (ju (IntKind.wrap .i64 (0-x0.2.1))).bind fun x3=>
  (yA (false,x2,x3,(0:Int))).bind fun x4=>
  (bif(decide (x4.1=((9218868437227405312:Nat):Int)))then
  some ((0:Int),(82:Int))
 else
  some (x4.1,(0:Int)))))
 else
  (bif(decide ((IntKind.wrap .i64 ((ByteArray.size x0.1:Int)+x0.2.1))<(-325)))then
  some ((0:Int),(0:Int))
 else
  (bif(decide (320<(IntKind.wrap .i64 ((ByteArray.size x0.1:Int)+x0.2.1))))then
  some ((0:Int),(82:Int))
 else
  (ju x0.2.1).bind fun x5=>
  (ye ((bif(Nat.ble (List.length (lb x0.1)) 20000)then(bif(List.isEmpty (lb x0.1))then([],(22:Int))else(bif(List.all (lb x0.1) (isD))then((ofN (dv (lb x0.1))),(0:Int))else([],(22:Int))))else([],(20:Int))).1,x5)).bind fun x6=>
  (ju (IntKind.wrap .i64 (0-x0.2.1))).bind fun x7=>
  (yA (false,x6,x7,(0:Int))).bind fun x8=>
  (bif(decide (x8.1=((9218868437227405312:Nat):Int)))then
  some ((0:Int),(82:Int))
 else
  some (x8.1,(0:Int))))))
 else
  (qio (x0.1,((48:Nat):Int))).bind fun x9=>
  (bif(decide (x9=(ByteArray.mk (List.toArray []))))then
  (bif(decide (x9=(ByteArray.mk (List.toArray []))))then
  some ((0:Int),(0:Int))
 else
  (bif(decide (320<(IntKind.wrap .i64 ((ByteArray.size x9:Int)+x0.2.1))))then
  some ((0:Int),(82:Int))
 else
  (ju x0.2.1).bind fun x10=>
  (ye ((bif(Nat.ble (List.length (lb x9)) 20000)then(bif(List.isEmpty (lb x9))then([],(22:Int))else(bif(List.all (lb x9) (isD))then((ofN (dv (lb x9))),(0:Int))else([],(22:Int))))else([],(20:Int))).1,x10)).bind fun x11=>
  (ju (IntKind.wrap .i64 (0-x0.2.1))).bind fun x12=>
  (yA (false,x11,x12,(0:Int))).bind fun x13=>
  (bif(decide (x13.1=((9218868437227405312:Nat):Int)))then
  some ((0:Int),(82:Int))
 else
  some (x13.1,(0:Int)))))
 else
  (bif(decide ((IntKind.wrap .i64 ((ByteArray.size x9:Int)+x0.2.1))<(-325)))then
  some ((0:Int),(0:Int))
 else
  (bif(decide (320<(IntKind.wrap .i64 ((ByteArray.size x9:Int)+x0.2.1))))then
  some ((0:Int),(82:Int))
 else
  (ju x0.2.1).bind fun x14=>
  (ye ((bif(Nat.ble (List.length (lb x9)) 20000)then(bif(List.isEmpty (lb x9))then([],(22:Int))else(bif(List.all (lb x9) (isD))then((ofN (dv (lb x9))),(0:Int))else([],(22:Int))))else([],(20:Int))).1,x14)).bind fun x15=>
  (ju (IntKind.wrap .i64 (0-x0.2.1))).bind fun x16=>
  (yA (false,x15,x16,(0:Int))).bind fun x17=>
  (bif(decide (x17.1=((9218868437227405312:Nat):Int)))then
  some ((0:Int),(82:Int))
 else
  some (x17.1,(0:Int)))))))))
def qjP(t:List UInt8)(pw:Int):Int×Int :=
 if t=[]∨(t.length:Int)+pw < -325 then(0,0)else
 if 320<(t.length:Int)+pw then(0,82)else
 if Qg false 0 (dv t*pT pw) (pU pw)=9218868437227405312 then(0,82)else(((Qg false 0 (dv t*pT pw) (pU pw):Nat):Int),0)
def yX(S:List UInt8):Int×Int :=
 if 400<S.length then(0,81)else
 if(ptL S).2.2=false then(0,80)else qjP ((ptL S).1.dropWhile (· == 48)) (ptL S).2.1
theorem qpY{t:List UInt8}{d:List UInt8}(h:d.dropWhile (· == 48)=t)(hd:∀c∈d,isD c=true)(ht:t≠[]):(∀c∈t,isD c=true)∧dv t≠0:=by
 have hs:∀c∈t,isD c=true:=fun c hc=>hd c (by rw[← h]at hc;exact(V8 _).mem hc)
 refine⟨hs,?_⟩
 cases t with
 | nil=>exact absurd rfl ht
 | cons c r=>
  have hc:(c == 48)=false:=by
   have:=List.head?_dropWhile_not (p:=(· == (48:UInt8))) (l:=d)
   rw[h]at this;simpa using this
  have hcD:=jY.1 (hs c zE)
  have hne:c.toNat≠48:=fun e=>by
   have:c=48:=Wl.1 e
   rw[this]at hc;cases hc
  have e:dv (c::r)=(c.toNat-48)*10^r.length+dv r:=by
   have:=qgS [c] r
   have e1:dv [c]=c.toNat-48:=by unfold dv;simp
   rw[e1]at this;exact this
  rw[e];have:1*10^r.length≤(c.toNat-48)*10^r.length:=zD _ (by omega)
  have:=Nat.one_le_pow r.length 10 (by decide)
  omega
theorem qxL{t:List UInt8}{pw:Int}(hs:∀c∈t,isD c=true)(h0:dv t≠0)(hl:t.length≤400)(h1 : -325≤(t.length:Int)+pw)(h2:(t.length:Int)+pw≤320)(K:Int×Int→Option (Int×Int)) :
 ((ju pw).bind fun x1=>(ye (ofN (dv t),x1)).bind fun x2=>(ju (IntKind.i64.wrap (0-pw))).bind fun x3=>(yA (false,x2,x3,(0:Int))).bind K)=K (((Qg false 0 (dv t*pT pw) (pU pw):Nat):Int),qli false 0 (dv t*pT pw) (pU pw)):=by
 have bn:qf (dv t)≤1601:=by have:=Jq (qfw t hs);omega
 have bt:qf (pT pw)≤1681:=qit (by omega)
 have bu:qf (pU pw)≤2941:=by have:=Qf (-pw).toNat;unfold pU;omega
 have bp:=yt (dv t) (pT pw)
 have m1:=qab (u:=dv t) (v:=pT pw) (by omega) (by omega)
 have w:IntKind.i64.wrap (0-pw) = -pw:=by rw[w64 (n:=0-pw) (by omega) (by omega)];omega
 rw[w];refine obs (qls (by omega)) (obs m1 (obs (qlt (by omega)) ?_))
 have hm:dv t*pT pw≠0:=V5 h0 (by have:=J3 pw;omega)
 have hu:pU pw≠0:=by have:=yV pw;omega
 have p1:=jl hm;have p2:=jl hu;refine obs ?_ rfl
 unfold yA;simp only[valN_ofN];rw[Z4 hm,Z4 hu,qda _ (by omega),qda _ (by omega),zp (show qf (dv t*pT pw)≤40000 by omega),zp (show qf (pU pw)≤40000 by omega),zb (show -4000≤jd (dv t*pT pw) (pU pw) by unfold jd;omega),zb (show jd (dv t*pT pw) (pU pw)≤4000 by unfold jd;omega)];rfl
theorem qvI(S:List UInt8)(a:List UInt8×Int×Bool×Nat):(ptB S a).1=a.1:=by unfold ptB;split <;> rfl
theorem qlx(S:List UInt8):∀c∈(ptL S).1,isD c=true:=by
 unfold ptL;rw[qvI];unfold ptA;split
 · intro c hc
   rcases Kf.1 hc with h | h
   · exact qep S _ c h
   · exact qep S _ c h
 · exact qep S _
theorem qz2(S:List UInt8):(ptA S).1.length≤S.length∧-(S.length:Int)≤(ptA S).2.1∧(ptA S).2.1≤0:=by
 have j0:=jQ (S:=S) (i:=0) (by omega)
 have e0:rn S 0=(rnL S 0).length:=by unfold rn;omega
 unfold ptA;split
 · rename_i h
   have hl:=yw h;have j1:=jQ (S:=S) (i:=rn S 0+1) (by omega)
   have e1:rn S (rn S 0+1)=rn S 0+1+(rnL S (rn S 0+1)).length:=rfl
   simp only[zq];omega
 · simp only[]
   omega
theorem qz3(S:List UInt8)(a:List UInt8×Int×Bool×Nat):a.2.1-100000≤(ptB S a).2.1∧(ptB S a).2.1≤a.2.1+100000:=by
 unfold ptB;split
 · have h:∀k,exV (rnL S k)≤100000:=fun k=>J5 _
   simp only[];split
   · have:=h (if S[a.2.2.2+1]?=some 43∨S[a.2.2.2+1]?=some 45 then a.2.2.2+2 else a.2.2.2+1)
     constructor <;> omega
   · have:=h (if S[a.2.2.2+1]?=some 43∨S[a.2.2.2+1]?=some 45 then a.2.2.2+2 else a.2.2.2+1)
     constructor <;> omega
 · simp only[]
   omega
theorem qvJ(S:List UInt8):(ptL S).1.length≤S.length∧-(S.length:Int)-100000≤(ptL S).2.1∧(ptL S).2.1≤100000:=by
 obtain⟨h1,h2,h3⟩:=qz2 S;have h4:=qz3 S (ptA S)
 unfold ptL;rw[qvI];omega
theorem qjQ(l m:List UInt8):decide (bs l=ByteArray.mk (List.toArray m))=decide (l=m):=qr l m
theorem qxM{l:List UInt8}(h:l.length≤400):qio (bs l,((48:Nat):Int))=some (bs (l.dropWhile (· == 48))):=by
 unfold qio;simp only[qC];rw[zp (by omega)];rfl
theorem qt9{t:List UInt8}(hs:∀c∈t,isD c=true)(h0:t≠[])(hl:t.length≤400):(bif(Nat.ble t.length 20000)then(bif(List.isEmpty t)then([],(22:Int))else(bif(List.all t isD)then((ofN (dv t)),(0:Int))else([],(22:Int))))else([],(20:Int)))=(ofN (dv t),(0:Int)):=by
 rw[zp (by omega),zg,Ke.2 hs];cases t with
 | nil=>exact absurd rfl h0
 | cons c r=>rfl
theorem qly:okS []=true:=by rw[qjI];rfl
def qb8(s:ByteArray):Option (Int×Int):=bif okS []then some (yX (lb s))else none
theorem qpZ(s:ByteArray):qb8 s=some (yX (lb s)):=by unfold qb8;rw[qly];rfl
theorem qua(s:ByteArray)(y:Int×Int)(hg:(d1 cS).good s)(h:qb8 s=some y):qt8 s=some y:=by
 clear hg;rw[qpZ]at h;revert h;refine onB (P:=fun s=>some (yX (lb s))=some y→qt8 s=some y) (fun S h=>?_) s
 have:=soi h;subst this
 rw[qC];unfold qt8 yX;rw[qe];by_cases c1:400<S.length
 · rw[zA c1,bdT (by omega)]
 rw[zw c1,bdF (by omega)];have hp:qb7 (bs S)=some (bs (ptL S).1,(ptL S).2.1,(ptL S).2.2):=by unfold qb7;rw[qC,zp (by omega)];rfl
 refine obs hp ?_
 obtain⟨b1,b2,b3⟩:=qvJ S;have hd:=qlx S;generalize ptL S=L at *
 obtain⟨d,pw,ok⟩:=L;simp only[qjQ,qC,qe]at *
 cases ok with
 | false=>rfl
 | true=>
  rw[zw (by decide)];simp only[Wq,zm];by_cases e:d=[]
  · subst e
    rw[bdT rfl,bdT rfl,bdT rfl];unfold qjP;rw[zA (.inl rfl)]
  · rw[bdF e]
    refine obs (qxM (by omega)) ?_
    have tl:(d.dropWhile (· == 48)).length≤d.length:=(V8 _).length_le
    have tp:=@qpY (d.dropWhile (· == 48)) d rfl hd
    generalize d.dropWhile (· == 48)=t at *
    simp only[qjQ,qC,qe];unfold qjP;by_cases e2:t=[]
    · subst e2
      rw[zA (.inl rfl),bdT rfl,bdT rfl]
    · obtain⟨hs,h0⟩:=tp e2
      have w:IntKind.i64.wrap (((t.length:Nat):Int)+pw)=((t.length:Nat):Int)+pw:=w64 (by omega) (by omega)
      rw[bdF e2,w];by_cases a1:((t.length:Nat):Int)+pw < -325
      · rw[bdT a1,zA (.inr a1)]
      · rw[bdF a1,zw (by rintro(h | h);exact e2 h;exact a1 h)]
        by_cases a2:320<((t.length:Nat):Int)+pw
        · rw[bdT a2,zA a2]
        · rw[bdF a2,zw a2,qt9 hs e2 (by omega)]
          refine(qxL hs h0 (by omega) (by omega) (by omega) _).trans ?_
          by_cases a3:Qg false 0 (dv t*pT pw) (pU pw)=9218868437227405312
          · rw[zA a3]
            refine(bdT (by simp only[a3]) _ _)
          · rw[zw a3]
            refine(bdF (by simp only[Int.natCast_inj];exact a3) _ _)
end
end Su
end
section
namespace Su
open Go Fly
def wdP:List (List UInt8×Int):=[([116,105,99,107,115],1),([105,110,112,117,116],2),([118,97,114],3),([105,110,105,116],4),([115,116,101,112],5),([105,102],6),([101,108,115,101],7),([102,111,114],8),([116,114,117,101],9),([102,97,108,115,101],10),([105,110,116],11),([102,108,111,97,116],12),([98,111,111,108],13),([97,98,115],14),([105,110],15)]
def wdN(l:List UInt8):List (List UInt8×Int)→Int
 | []=>0
 | (k,v)::P=>if l=k then v else wdN l P
def YI(l:List UInt8):Bool:=decide (0<wdN l wdP)
def qvK(s:ByteArray):Option Bool:=some (YI (lb s))
abbrev Tk:=Int×Int×ByteArray×Int×Int
noncomputable def qb9(p:Tk×ByteArray×Bool):Option (Tk×Int) :=
 bif Nat.blt 400 p.2.1.size then some (p.1,91)else
 bif p.2.2 then(bif decide ((yX (lb p.2.1)).2=0)then some ((3,p.1.2.1,p.1.2.2.1,p.1.2.2.2.1,(yX (lb p.2.1)).1),0)else some (p.1,93))else
 bif !(lb p.2.1).isEmpty&&(lb p.2.1).all isD then(bif Nat.blt 2147483647 (dv (lb p.2.1))then some (p.1,92)else some ((2,p.1.2.1,p.1.2.2.1,((dv (lb p.2.1):Nat):Int),p.1.2.2.2.2),0))else none
def qer(p:ByteArray×ByteArray):Option Bool:=bif Nat.ble p.1.size 1000000 then some (Lib.contains (lb p.1) (lb p.2))else none
theorem qp0:∀(l:List UInt8) (acc:Nat),(∀c∈l,isD c=true)→acc<18446744073709551616→Lib.parseUintM 18446744073709551615 acc l=if acc*10^l.length+dv l<18446744073709551616 then .ok (acc*10^l.length+dv l)else .range
 | [],acc,_,h=>by
  have e:acc*10^([]:List UInt8).length+dv []=acc:=by show acc*1+0=acc;omega
  rw[e,zA h];rfl
 | c::r,acc,hd,h=>by
  have hc:=jY.1 (hd c zE)
  have e:=qgS [c] r
  have e1:dv [c]=c.toNat-48:=by unfold dv;simp
  rw[e1]at e;have e2:dv (c::r)=(c.toNat-48)*10^r.length+dv r:=e
  have el:acc*10^(c::r).length+dv (c::r)=(acc*10+(c.toNat-48))*10^r.length+dv r:=by
   rw[e2,zu,z6,zW,zx,zF 10];omega
  have hp:=Nat.one_le_pow r.length 10 (by decide)
  have hm:acc*10+(c.toNat-48)≤(acc*10+(c.toNat-48))*10^r.length:=Nat.le_mul_of_pos_right _ hp
  rw[el];unfold Lib.parseUintM;rw[zA hc];by_cases h1:1844674407370955162≤acc
  · rw[zA h1,zw (by omega)]
  · rw[zw h1]
    by_cases h2:18446744073709551615<acc*10+(c.toNat-48)
    · rw[zA h2,zw (by omega)]
    · rw[zw h2]
      exact qp0 r _ (fun c hc=>hd c (zB _ hc)) (by omega)
theorem qp1{l:List UInt8}(h0:l≠[])(hd:∀c∈l,isD c=true):Lib.parseUintB 64 l=if dv l<18446744073709551616 then .ok (dv l)else .range:=by
 unfold Lib.parseUintB;rw[zw h0];have:=qp0 l 0 hd (by omega)
 rw[KY,zG]at this;exact this
end Su
end
section
namespace Su
open Go Fly
noncomputable section
def dm{α β:Type}(d:Dec α)(to:α→β)(fr:β→α)(h1:∀a,fr (to a)=a)(h2:∀b,to (fr b)=b):Dec β where
 enc b:=d.enc (fr b)
 dec l:=(d.dec l).bind fun a=>some (to a)
 good b:=d.good (fr b)
 rep {xs b} h V vs hr:=by
  obtain⟨a,e1,e2⟩:=osm h;have:=soi e2;subst this
  rw[h1];exact d.rep e1 hr
 de b:=by rw[d.de,zh,h2]
 rng {b V vs} hr:=d.rng hr
structure RowD (u k:Nat) where
 d:Dec (U u)
 hv:∀a,view u a = .agg (d.enc a)
 hk:∀a,(d.enc a).length=k
 hn:∀a,((d.enc a).all fun x=>!x.isAgg)=true
section
variable {u k:Nat} (R:RowD u k)
def qxN(x:T):Option (U u):=match x with | .agg l=>R.d.dec l | _=>none
def unR:List T→Option (List (U u))
 | []=>some []
 | x::l=>(qxN R x).bind fun a=>(unR l).bind fun b=>some (a::b)
theorem qjR{x:T}{a:U u}(h:qxN R x=some a){V:qc}{vs:List Value}(hr:RepA V x.cells vs):RepA V (view u a).cells vs∧x.cells.length=k:=by
 cases x with
 | agg l=>
  have h':R.d.dec l=some a:=h
  have h1:=R.d.rep h' hr;have hl:l.length=vs.length:=hr.length
  have hl2:=h1.length;rw[R.hv];exact⟨h1,by show l.length=k;rw[hl,← hl2,R.hk]⟩
 | _=>exact non h
theorem qfz{V:qc}:∀ {l:List T} {a:List (U u)} {vs:List Value},unR R l=some a→RepA V (l.flatMap T.cells) vs →
 RepA V ((a.map (view u)).flatMap T.cells) vs∧(∀x∈(a.map (view u)).flatMap T.cells,x.isAgg=false)∧(∀x∈a.map (view u),x.cells.length=k)∧(∀x∈l,x.cells.length=k)∧a.length=l.length
 | [],a,vs,h,hr=>by have:=soi h;subst this;exact⟨hr,by simp,by simp,by simp,rfl⟩
 | x::l,a,vs,h,hr=>by
  obtain⟨b,h1,h⟩:=osm h;obtain⟨c,h2,h⟩:=osm h;have:=soi h;subst this
  rw[Kx]at hr;obtain⟨v1,v2,rfl,k1,k2⟩:=hr.split;obtain⟨e1,e2⟩:=qjR R h1 k1;obtain⟨f1,f2,f3,f4,f5⟩:=qfz h2 k2;rw[KV,Kx];refine⟨e1.append f1,fun y hy=>?_,fun y hy=>?_,fun y hy=>?_,by simp[f5]⟩
  · rcases Kf.1 hy with hy | hy
    · rw[R.hv]at hy
      exact qfr (R.hn b) y hy
    · exact f2 y hy
  · rcases zS.1 hy with rfl | hy
    · rw[R.hv];exact R.hk b
    · exact f3 y hy
  · rcases zS.1 hy with rfl | hy
    · exact e2
    · exact f4 y hy
theorem qvL{V:qc}:∀ {l:List (U u)} {vs:List Value},RepA V ((l.map (view u)).flatMap T.cells) vs→∀t∈l,R.d.good t
 | [],_,_,t,ht=>by cases ht
 | y::l,vs,h,t,ht=>by
  rw[KV,Kx]at h;obtain⟨v1,v2,rfl,k1,k2⟩:=h.split;rcases zS.1 ht with rfl | ht
  · rw[R.hv]at k1;exact R.d.rng k1
  · exact qvL k2 t ht
theorem qmZ(a:U u):qxN R (view u a)=some a:=by
 rw[R.hv];exact R.d.de a
theorem qlz:∀l:List (U u),unR R (l.map (view u))=some l
 | []=>rfl
 | x::l=>by simp only[KV,unR,qmZ,qlz l,zh]
def cL:Cod (List (U u)) where
 enc l:=.ql u k l
 dec x:=match x with
  | .sl w l=>bif Nat.beq w k then unR R l else none
  | x=>qeJ u k (.t x)
 good l:=(∀t∈l,R.d.good t)∧l.length≤maxLen
 rep {x a} h V v hr:=by
  split at h
  · obtain⟨h1,h2⟩:=qh h
    have:=zf h1;subst this
    cases hr with | @sl _ _ vs ad cap k1 k2 k3 k4 k5 k6=>
    obtain⟨f1,f2,f3,f4,f5⟩:=qfz R h2 k1;rename_i l;have hl:(a.map (view u)).length=l.length:=by rw[zK,f5]
    have:=Rep.sl (V:=V) (l:=a.map (view u)) (a:=ad) (cap:=cap) f1 f2 f3 (by omega) k5 (k6.imp (fun e=>by subst e;exact K8 (by simpa using hl)) id)
    rw[hl]at this;exact .ql this
  · have:=qjx h
    simp only[SV.t.injEq]at this;subst this;exact hr
 de a:=by
  show qeJ u k (.t (.ql u k a))=_
  simp[qeJ]
 rng {a V v} h:=by
  cases h with | ql h=>
  cases h with | @sl _ _ vs ad cap h1 h2 h3 h4 h5 h6=>
  rw[zK]at h4;exact⟨qvL R h1,by omega⟩
end
abbrev TkP:=Int×Int×ByteArray×Int×Int
abbrev dTk:Dec TkP:=dc (cI .u8) (dc (cI .i64) (dc cS (dc (cI .i32) (d1 (cI .u64)))))
def rTk:RowD 19 5:=⟨dTk,fun _=>rfl,fun _=>rfl,fun _=>rfl⟩
abbrev cTk:Cod TkP:=cA dTk
abbrev cRt:Cod (Bool×List (U 1)×List (U 1)):=cA (dc cB (dc (cQ 1 1) (d1 (cQ 1 1))))
end
end Su
end
section
namespace Su
open Go Fly
noncomputable section
end
end Su
end
section
namespace Su
open Go Fly
noncomputable section
def qp2  (s:ByteArray)(i:Int):Option Bool :=
 (bif(decide (i<(ByteArray.size s:Int)))then
 (bif(decide (0≤i))then
 ((s)[i.toNat]?).bind fun x0=>
 (bif(decide (48≤(UInt8.toNat x0:Int)))then
 some (decide ((UInt8.toNat x0:Int)≤57))
 else
  some false)
 else none)
 else
  some false)
def tHP  (s:ByteArray)(p:ByteArray):Option Bool :=
 (bif(decide ((ByteArray.size p:Int)≤(ByteArray.size s:Int)))then
 (bif((true&&(decide (0≤(ByteArray.size p:Int))))&&(decide ((ByteArray.size p:Int)≤(ByteArray.size s:Int))))then
 some (decide ((ByteArray.extract s 0 (Int.toNat (ByteArray.size p:Int)))=p))
 else none)
 else
  some false)
def qdc(s:ByteArray) :=
 bif(true&&(decide (1≤(ByteArray.size s:Int))))then
 (bif(Go.Lib.contains (lb (ByteArray.mk (List.toArray [40,41,91,93,123,125,44,59,58,61,60,62,43,45,42,47,33]))) (lb (ByteArray.extract s 0 1)))then
 (bif(true&&(decide (1≤(ByteArray.size s:Int))))then
 some (ByteArray.extract s 0 1)
 else none)
 else
  some (ByteArray.mk (List.toArray [])))
 else
  none
def qub  (s:ByteArray):Option ByteArray :=
 (bif(decide (1<(ByteArray.size s:Int)))then
 (bif(true&&(decide (2≤(ByteArray.size s:Int))))then
 (bif(Go.Lib.contains (lb (ByteArray.mk (List.toArray [61,61,32,33,61,32,60,61,32,62,61,32,38,38,32,124,124,32,46,46]))) (lb (ByteArray.extract s 0 2)))then
 (bif(true&&(decide (2≤(ByteArray.size s:Int))))then
 (qer ((ByteArray.extract s 0 2),(ByteArray.mk (List.toArray [32])))).bind fun x0=>
 (bif(!x0)then
 (bif(true&&(decide (2≤(ByteArray.size s:Int))))then
 some (ByteArray.extract s 0 2)
 else none)
 else
  (qdc s))
 else none)
 else
  (qdc s))
 else none)
 else
  (qdc s))
def qxO  (c:Int):Option Bool :=
 (bif(decide (97≤(Fly.qR Go.BinOp.or .u8 c 32)))then
 (bif(decide ((Fly.qR Go.BinOp.or .u8 c 32)≤122))then
 some true
 else
  some (decide (c=95)))
 else
  some (decide (c=95)))
abbrev qaD:=(ByteArray×Int×Unit)
def Yp:qaD→Option (qaD ⊕ (Lp qaD Int)):=fun p0=>(bif(decide (p0.2.1<(ByteArray.size p0.1:Int)))then
 (bif(((decide (0≤p0.2.1))&&(decide (p0.2.1≤(ByteArray.size p0.1:Int))))&&(decide ((ByteArray.size p0.1:Int)≤(ByteArray.size p0.1:Int))))then
 (bif(decide (0≤p0.2.1))then
 ((p0.1)[p0.2.1.toNat]?).bind fun x1=>
 (bif(decide (0≤(jb (UInt8.ofNat (Int.toNat (UInt8.toNat x1:Int))) (lb (ByteArray.mk (List.toArray [32,9,10,13]))))))then
 some (.inl (p0.1,(IntKind.wrap .i64 (p0.2.1+1)),()))
 else
  (bif(decide (((2:Nat):Int)≤(((ByteArray.size (ByteArray.extract p0.1 p0.2.1.toNat (Int.toNat (ByteArray.size p0.1:Int)))):Nat):Int)))then
  (bif(true&&(decide (((2:Nat):Int)≤(((ByteArray.size (ByteArray.extract p0.1 p0.2.1.toNat (Int.toNat (ByteArray.size p0.1:Int)))):Nat):Int))))then
  (bif(decide ((ByteArray.extract (ByteArray.extract p0.1 p0.2.1.toNat (Int.toNat (ByteArray.size p0.1:Int))) 0 2)=(ByteArray.mk (List.toArray [47,47]))))then
  (bif(decide ((jb (UInt8.ofNat (Int.toNat 10)) (lb (ByteArray.extract p0.1 p0.2.1.toNat (Int.toNat (ByteArray.size p0.1:Int)))))<0))then
  some (.inr (.ret (ByteArray.size p0.1:Int)))
 else
  some (.inl (p0.1,(IntKind.wrap .i64 (p0.2.1+(jb (UInt8.ofNat (Int.toNat 10)) (lb (ByteArray.extract p0.1 p0.2.1.toNat (Int.toNat (ByteArray.size p0.1:Int))))))),())))
 else
  some (.inr (.ret p0.2.1)))
 else none)
 else
  some (.inr (.ret p0.2.1))))
 else none)
 else none)
 else
  some (.inr (.exit 0 (p0.1,p0.2.1,()))))
def qlA  (fu:Nat)(s:ByteArray)(i:Int):Option Int :=
 (itP fu (Yp) (s,i,())).bind fun x2=>
 (match x2 with
 | .exit i3 p4=>(bif(Nat.beq i3 0)then
  some p4.2.1
 else none)
 | .ret o5=>some o5)
def qbv(S:List UInt8)(i:Nat):Bool:=(S[i]?).any isD
def j4(p:ByteArray×Int):Option Bool:=bif decide (0≤p.2)then some (qbv (lb p.1) p.2.toNat)else none
theorem quc(p:ByteArray×Int)(y:Bool)(hg:(dc cS (d1 (cI .i64))).good p)(h:j4 p=some y):qp2 p.1 p.2=some y:=by
 obtain⟨s,i⟩:=p;clear hg;revert h;refine onB (P:=fun s=>j4 (s,i)=some y→qp2 s i=some y) (fun S h=>?_) s
 obtain⟨h1,h2⟩:=qh h;have:=soi h2;subst this
 have h1:=Ko h1;obtain⟨k,rfl⟩:=Kp h1;clear h h2;show qp2 (bs S) ((k:Nat):Int)=some (qbv S k)
 unfold qp2 qbv;simp only[qe,zd,qq];by_cases hk:k<S.length
 · obtain⟨c,hc⟩:∃c,S[k]?=some c:=⟨_,zt hk⟩
   rw[bdT (by omega),bdT (by omega),hc,zh];show _=some (isD c)
   unfold isD;by_cases h48:48≤c.toNat
   · rw[bdT (by omega),zp h48,Kw]
     congr 1
     by_cases h57:c.toNat≤57
     · rw[zb (by omega),zp h57]
     · rw[zk (by omega)]
       cases h:Nat.ble c.toNat 57 with
       | false=>rfl
       | true=>exact absurd (zo h) h57
   · rw[bdF (by omega)]
     cases h:Nat.ble 48 c.toNat with
     | false=>rfl
     | true=>exact absurd (zo h) h48
 · rw[bdF (by omega),z7 (by omega)];rfl
def qvM(p:ByteArray×ByteArray):Option Bool:=some ((lb p.2).isPrefixOf (lb p.1))
theorem qud(l S:List UInt8):l.isPrefixOf S=decide (l.length≤S.length∧S.take l.length=l):=by
 by_cases h:l <+: S
 · rw[List.isPrefixOf_iff_prefix.2 h,zb ⟨h.length_le,(VX.1 h).symm⟩]
 · rw[zk fun hh=>h (VX.2 hh.2.symm)]
   cases hb:l.isPrefixOf S with
   | false=>rfl
   | true=>exact absurd (List.isPrefixOf_iff_prefix.1 hb) h
theorem qxP(p:ByteArray×ByteArray)(y:Bool)(hg:(dc cS (d1 cS)).good p)(h:qvM p=some y):tHP p.1 p.2=some y:=by
 have:=soi h;subst this
 obtain⟨s,q⟩:=p;clear hg h;refine onB (P:=fun s=>tHP s q=some ((lb q).isPrefixOf (lb s))) (fun S=>?_) s
 refine onB (P:=fun q=>tHP (bs S) q=some ((lb q).isPrefixOf (lb (bs S)))) (fun l=>?_) q
 unfold tHP;simp only[qe,qC,yz,zd,KM,Vv,qr,Kw];rw[qud];by_cases h:l.length≤S.length
 · rw[bdT (by omega),zb (show(0:Int)≤((l.length:Nat):Int) by omega),zb (show((l.length:Nat):Int)≤((S.length:Nat):Int) by omega)]
   show some (decide (S.take l.length=l))=_
   congr 1
   exact decide_eq_decide.2 ⟨fun e=>⟨h,e⟩,fun e=>e.2⟩
 · rw[bdF (by omega),zk (fun e=>h e.1)]
def sg2:List UInt8:=[61,61,32,33,61,32,60,61,32,62,61,32,38,38,32,124,124,32,46,46]
def sg1:List UInt8:=[40,41,91,93,123,125,44,59,58,61,60,62,43,45,42,47,33]
def QK(S:List UInt8):List UInt8 :=
 if 1<S.length∧Lib.contains sg2 (S.take 2)=true∧Lib.contains (S.take 2) [32]=false then S.take 2 else if Lib.contains sg1 (S.take 1)=true then S.take 1 else[]
def qaE(s:ByteArray):Option ByteArray:=bif Nat.ble 1 (lb s).length then some (bs (QK (lb s)))else none
theorem que(s:ByteArray)(y:ByteArray)(hg:(d1 cS).good s)(h:qaE s=some y):qub s=some y:=by
 clear hg;revert h;refine onB (P:=fun s=>qaE s=some y→qub s=some y) (fun S h=>?_) s
 obtain⟨h1,h2⟩:=qh h;have:=soi h2;subst this
 have h1:1≤S.length:=zo h1
 clear h h2;have c2:qer ((bs S).extract 0 2,bs [32])=some (Lib.contains (S.take 2) [32]):=by
  unfold qer;simp only[yz,qC,qe,KM,Vv];rw[zp (by rw[zL];omega)];rfl
 have one:(bif(true&&(decide (1≤(((bs S).size:Nat):Int))))then(bif(Lib.contains (lb (ByteArray.mk (List.toArray sg1))) (lb ((bs S).extract 0 1)))then(bif(true&&(decide (1≤(((bs S).size:Nat):Int))))then some ((bs S).extract 0 1)else none)else some (ByteArray.mk (List.toArray [])))else none)=some (bs (if Lib.contains sg1 (S.take 1)=true then S.take 1 else[])):=by
  rw[zb (by rw[qe];omega)];simp only[Kw,zg,qU,qC,yz,KM,Vv];cases Lib.contains sg1 (S.take 1) <;> rfl
 rw[qC];unfold qub qdc QK;by_cases hl:1<S.length
 · rw[bdT (by rw[qe];omega)]
   have e2:decide ((2:Int)≤(((bs S).size:Nat):Int))=true:=zb (by rw[qe];omega)
   rw[e2];simp only[Kw,zg];have c1:Lib.contains (lb (ByteArray.mk (List.toArray sg2))) (lb ((bs S).extract 0 2))=Lib.contains sg2 (S.take 2):=by
    rw[qU,qC,yz,qC,KM]
   have c1':=c1;unfold sg2 at c1';rw[c1'];cases hc:Lib.contains [61,61,32,33,61,32,60,61,32,62,61,32,38,38,32,124,124,32,46,46] (S.take 2)with
   | false=>
    rw[zw (fun h=>by have:=h.2.1;unfold sg2 at this;rw[hc]at this;cases this)];exact one
   | true=>
    rw[zg];refine obs c2 ?_
    cases hd:Lib.contains (S.take 2) [32]with
    | true=>
     rw[zw (fun h=>by cases h.2.2)];exact one
    | false=>
     rw[zA ⟨hl,by unfold sg2;exact hc,rfl⟩];rw[yz];rfl
 · rw[bdF (by rw[qe];omega),zw (fun h=>hl h.1)]
   exact one
def j9(c:UInt8):Bool:=(Nat.ble 65 c.toNat&&Nat.ble c.toNat 90)||((Nat.ble 97 c.toNat&&Nat.ble c.toNat 122)||Nat.beq c.toNat 95)
def Qt(c:UInt8):Bool:=j9 c||isD c
def YJ(c:Int):Option Bool:=bif decide (0≤c)&&decide (c<256)then some (j9 (UInt8.ofNat c.toNat))else none
theorem quf:(List.range 256).all (fun k=>qxO ((k:Nat):Int) == some (j9 (UInt8.ofNat k)))=true:=by decide +kernel
theorem qug(c:Int)(y:Bool)(hg:(d1 (cI .u8)).good c)(h:YJ c=some y):qxO c=some y:=by
 obtain⟨h1,h2⟩:=qh h;have:=soi h2;subst this
 simp only[zn,zO]at h1;obtain⟨k,rfl⟩:=Kp h1.1;have:=Ke.1 quf k (Wv.2 (by omega))
 rw[zd];exact eq_of_beq this
def YW(c:UInt8):Bool:=c == 32||(c == 9||(c == 10||c == 13))
def sk:Bool→List UInt8→Nat
 | _,[]=>0
 | true,c::r=>if c=10 then 1+sk false r else 1+sk true r
 | false,c::r=>if YW c=true then 1+sk false r else if c=47∧r.head?=some 47 then 1+sk true r else 0
theorem qiv:∀(b:Bool) (l:List UInt8),sk b l≤l.length
 | _,[]=>by unfold sk;exact zI 0
 | true,c::r=>by
  have h1:=qiv true r;have h2:=qiv false r;unfold sk;split <;> simp only[zu] <;> omega
 | false,c::r=>by
  have h1:=qiv true r;have h2:=qiv false r;unfold sk;split
  · simp only[zu];omega
  · split <;> simp only[zu] <;> omega
theorem qp3:∀(l:List UInt8),sk true l=if jb 10 l<0 then l.length else(jb 10 l).toNat+sk false (l.drop (jb 10 l).toNat)
 | []=>rfl
 | c::r=>by
  by_cases h:c=10
  · subst h
    have e0:jb 10 (10::r)=0:=rfl
    rw[e0,zw (by decide)];show sk true (10::r)=0+sk false (10::r)
    rw[sk,zA rfl,sk,zA (by decide),zG]
  · have e:jb 10 (c::r)=if jb 10 r = -1 then -1 else jb 10 r+1:=by
     have hb:(c == 10)=false:=by simpa using h
     show(bif c == 10 then(0:Int)else bif decide (jb 10 r = -1)then -1 else jb 10 r+1)=_
     rw[hb,zm,Qe]
    have lo:=ZT 10 r
    have ih:=qp3 r;have es:sk true (c::r)=1+sk true r:=by rw[sk,zw h]
    rw[es,ih,e];by_cases h1:jb 10 r = -1
    · rw[zA h1,zA (by omega),zA (by omega),zu];omega
    · rw[zw h1,zw (by omega),zw (by omega)]
      obtain⟨k,hk⟩:=Kp (show 0≤jb 10 r by omega)
      rw[hk];show _=(k+1)+sk false ((c::r).drop (k+1))
      rw[List.drop_succ_cons];show 1+(k+sk false (r.drop k))=_
      omega
def JW(p:ByteArray×Int):Option Int:=bif(decide (0≤p.2)&&decide (p.2≤((lb p.1).length:Int)))&&Nat.ble (lb p.1).length 1000000 then some ((p.2.toNat+sk false ((lb p.1).drop p.2.toNat):Nat):Int)else none
theorem qxQ(c:UInt8):decide (0≤jb (UInt8.ofNat c.toNat) (lb (ByteArray.mk (List.toArray [32,9,10,13]))))=YW c:=by
 rw[zy,qU,qC];have h:=Zv c [32,9,10,13]
 by_cases hm:c∈([32,9,10,13]:List UInt8)
 · rw[zb (h.2 hm)]
   unfold YW;simp only[zS,Kr,or_false]at hm;rcases hm with rfl | rfl | rfl | rfl <;> rfl
 · rw[zk (fun e=>hm (h.1 e))]
   unfold YW;simp only[zS,Kr,or_false,not_or]at hm;obtain⟨a,b,c',d⟩:=hm;simp[a,b,c',d]
def endV(r:Lp (ByteArray×Int×Unit) Int):Option Int:=match r with
 | .exit i3 p4=>(bif(Nat.beq i3 0)then some p4.2.1 else none)
 | .ret o5=>some o5
theorem qxR{α:Type}(b:Bool)(a:α):(bif b then a else a)=a:=by cases b <;> rfl
theorem qp4(c:UInt8)(r:List UInt8):(c::r).take 2=[47,47]↔c=47∧r.head?=some 47:=by
 cases r with
 | nil=>simp
 | cons d r=>simp
theorem qxS{S:List UInt8}(hS:S.length≤1000000):∀(d i:Nat),i≤S.length→S.length-i≤d→∃r,(∃n,itP n Yp (bs S,(i:Int),())=some r)∧endV r=some ((i+sk false (S.drop i):Nat):Int):=fun d=>by
 induction d using Nat.strongRecOn with
 | ind d ih=>
  intro i hi hd;by_cases hl:i=S.length
  · refine⟨.exit 0 (bs S,(i:Int),()),yS ?_,?_⟩
    · unfold Yp
      simp only[qe];rw[bdF (by omega)]
    · rw[Wy (by omega)];rfl
  · obtain⟨c,hc⟩:∃c,S[i]?=some c:=⟨_,zt (by omega)⟩
    obtain⟨hlt,ec⟩:=zr.1 hc
    have eR:S.drop i=c::S.drop (i+1):=by rw[zY hlt,ec]
    have w:IntKind.i64.wrap ((i:Int)+1)=((i+1:Nat):Int):=by rw[w64 (by omega) (by omega)];omega
    have ext:(bs S).extract i S.length=bs (S.drop i):=by
     rw[yz,zJ (by rw[zV];omega)]
    have rl:(S.drop i).length=S.length-i:=zV
    have head:Yp (bs S,(i:Int),())=(bif YW c then some (.inl (bs S,((i+1:Nat):Int),()))else
     (bif decide ((2:Int)≤(((S.drop i).length:Nat):Int))then(bif decide (((bs (S.drop i)).extract 0 2)=ByteArray.mk (List.toArray [47,47]))then
       (bif decide (jb 10 (S.drop i)<0)then some (.inr (.ret ((S.length:Nat):Int)))else some (.inl (bs S,IntKind.i64.wrap ((i:Int)+jb 10 (S.drop i)),())))else some (.inr (.ret (i:Int))))else some (.inr (.ret (i:Int))))):=by
     unfold Yp;simp only[qe,zd,qq,hc,zh,w,qxQ,ext,qC];rw[bdT (show(i:Int)<((S.length:Nat):Int) by omega),zb (show(0:Int)≤(i:Int) by omega),zb (show(i:Int)≤((S.length:Nat):Int) by omega),zb (show((S.length:Nat):Int)≤((S.length:Nat):Int) by omega)];simp only[Kw,zg];cases YW c with
     | true=>rfl
     | false=>
      simp only[zm];by_cases h2:(2:Int)≤(((S.drop i).length:Nat):Int)
      · rw[zb (show((2:Nat):Int)≤(((S.drop i).length:Nat):Int) from h2),zb h2];rfl
      · rw[zk (show¬((2:Nat):Int)≤(((S.drop i).length:Nat):Int) from h2),zk h2];rfl
    cases hb:YW c with
    | true=>
     obtain⟨r,h1,h2⟩:=ih (d-1) (by omega) (i+1) (by omega) (by omega)
     refine⟨r,Qj (head.trans (by rw[hb];rfl)) h1,h2.trans ?_⟩
     rw[eR,sk,zA hb]
     congr 2;omega
    | false=>
     have hb' : ¬YW c=true:=by rw[hb];decide
     by_cases hr:c=47∧(S.drop (i+1)).head?=some 47
     · have ht:(S.drop i).take 2=[47,47]:=by rw[eR];exact(qp4 _ _).2 hr
       have h2:(2:Int)≤(((S.drop i).length:Nat):Int):=by
        have:=congrArg List.length ht
        rw[zL]at this;simp only[zu,zM]at this;omega
       have es:sk false (S.drop i)=sk true (S.drop i):=by
        rw[eR];have e1:sk false (c::S.drop (i+1))=1+sk true (S.drop (i+1)):=by rw[sk,zw hb',zA hr]
        have e2:sk true (c::S.drop (i+1))=1+sk true (S.drop (i+1)):=by rw[sk,zw (by rw[hr.1];decide)]
        rw[e1,e2]
       have head2:Yp (bs S,(i:Int),())=(bif decide (jb 10 (S.drop i)<0)then some (.inr (.ret ((S.length:Nat):Int)))else some (.inl (bs S,IntKind.i64.wrap ((i:Int)+jb 10 (S.drop i)),()))):=by
        rw[head,hb,zm,bdT h2,bdT (show(bs (S.drop i)).extract 0 2=ByteArray.mk (List.toArray [47,47]) by rw[yz,KM];exact congrArg bs ht)]
       have lo:=ZT 10 (S.drop i)
       have hk:=qp3 (S.drop i)
       by_cases hn:jb 10 (S.drop i)<0
       · refine⟨.ret ((S.length:Nat):Int),yS (head2.trans (by rw[bdT hn])),?_⟩
         rw[zA hn]at hk;show some ((S.length:Nat):Int)=_
         rw[es,hk,rl]
         congr 2;omega
       · rw[zw hn]at hk
         obtain⟨n,en⟩:=Kp (show 0≤jb 10 (S.drop i) by omega)
         rw[en]at hk head2 hn lo;have n0:n≠0:=fun e=>by
          subst e;rw[eR]at en;have e47:c=47:=hr.1
          subst e47;have:jb 10 (47::S.drop (i+1))=(bif decide (jb 10 (S.drop (i+1)) = -1)then -1 else jb 10 (S.drop (i+1))+1):=rfl
          rw[this,Qe]at en;have lo2:=ZT 10 (S.drop (i+1))
          split at en <;> omega
         have w2:IntKind.i64.wrap ((i:Int)+(n:Int))=((i+n:Nat):Int):=by rw[w64 (by omega) (by omega)];omega
         obtain⟨r,h1,h2⟩:=ih (d-n) (by omega) (i+n) (by omega) (by omega)
         refine⟨r,Qj (head2.trans (by rw[bdF hn,w2])) h1,h2.trans ?_⟩
         rw[es,hk];show some ((i+n+sk false (S.drop (i+n)):Nat):Int)=some ((i+(n+sk false ((S.drop i).drop n)):Nat):Int)
         rw[List.drop_drop]
         congr 2;omega
     · have es:sk false (S.drop i)=0:=by rw[eR,sk,zw hb',zw hr]
       refine⟨.ret (i:Int),yS (head.trans ?_),?_⟩
       · rw[hb,zm]
         have : ¬(bs (S.drop i)).extract 0 2=ByteArray.mk (List.toArray [47,47]):=fun e=>by
          rw[yz,KM]at e;have:=yJ.1 (e.trans (qU [47,47]))
          rw[eR]at this;exact hr ((qp4 _ _).1 this)
         rw[bdF this];exact qxR _ _
       · rw[es];rfl
theorem qp5(p:ByteArray×Int)(y:Int)(hg:(dc cS (d1 (cI .i64))).good p)(h:JW p=some y):∃n,qlA n p.1 p.2=some y:=by
 obtain⟨s,i⟩:=p;clear hg;revert h;refine onB (P:=fun s=>JW (s,i)=some y→∃n,qlA n s i=some y) (fun S h=>?_) s
 obtain⟨h1,h2⟩:=qh h;have:=soi h2;subst this
 simp only[qC,zn,zO]at h1;obtain⟨⟨a1,a2⟩,a3⟩:=h1;have a3:=zo a3;obtain⟨k,rfl⟩:=Kp a1;have a2:((k:Nat):Int)≤((S.length:Nat):Int):=Ko a2
 obtain⟨r,⟨n,hn⟩,hr⟩:=qxS a3 _ k (by omega) (zI _)
 refine⟨n,?_⟩
 simp only[qC,zd];rw[← hr];unfold qlA;exact obs hn rfl
end
end Su
end
