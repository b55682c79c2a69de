/-
  What functions of the program compute, in plain Lean, and that the evaluator finds it.
-/
import Derived.Test.YtldhknmacepeiaaGreatDoorSuXl
import Derived.Test.YtldhknmacepeiaaGreatDoorNT14
import Derived.Lib.ParseIntB
import Derived.Lib.IndexMore
import Derived.Test.YtldhknmacepeiaaGreatDoorSuSd
set_option linter.unusedVariables false
set_option linter.unusedSimpArgs false
set_option maxRecDepth 10000
section
namespace Su
open Go Fly
noncomputable section
def qsX  (s:ByteArray):Option (Int×Int) :=
 (bif(decide (400<(ByteArray.size s:Int)))then
 some ((0:Int),(81:Int))
 else
  (qbC s).bind fun x0=>
  (bif(!x0.2.2)then
  some ((0:Int),(80:Int))
 else
  (bif(decide (x0.1=(ByteArray.mk (List.toArray []))))then
  (bif(decide (x0.1=(ByteArray.mk (List.toArray []))))then
  (bif(decide (x0.1=(ByteArray.mk (List.toArray []))))then
  some ((0:Int),(0:Int))
 else
  (bif(decide (320<(IntKind.wrap .i64 ((ByteArray.size x0.1:Int)+x0.2.1))))then
  some ((0:Int),(82:Int))
 else
  (jQ x0.2.1).bind fun x1=>
  (ye ((bif(Nat.ble (List.length (lb x0.1)) 20000)then(bif(List.isEmpty (lb x0.1))then([],(22:Int))else(bif(List.all (lb x0.1) (isD))then((ofN (dv (lb x0.1))),(0:Int))else([],(22:Int))))else([],(20:Int))).1,x1)).bind fun x2=>
  (jQ (IntKind.wrap .i64 (0-x0.2.1))).bind fun x3=>
  (yN (false,x2,x3,(0:Int))).bind fun x4=>
  (bif(decide (x4.1=((9218868437227405312:Nat):Int)))then
  some ((0:Int),(82:Int))
 else
  some (x4.1,(0:Int)))))
 else
  (bif(decide ((IntKind.wrap .i64 ((ByteArray.size x0.1:Int)+x0.2.1))<(-325)))then
  some ((0:Int),(0:Int))
 else
  (bif(decide (320<(IntKind.wrap .i64 ((ByteArray.size x0.1:Int)+x0.2.1))))then
  some ((0:Int),(82:Int))
 else
  (jQ x0.2.1).bind fun x5=>
  (ye ((bif(Nat.ble (List.length (lb x0.1)) 20000)then(bif(List.isEmpty (lb x0.1))then([],(22:Int))else(bif(List.all (lb x0.1) (isD))then((ofN (dv (lb x0.1))),(0:Int))else([],(22:Int))))else([],(20:Int))).1,x5)).bind fun x6=>
  (jQ (IntKind.wrap .i64 (0-x0.2.1))).bind fun x7=>
  (yN (false,x6,x7,(0:Int))).bind fun x8=>
  (bif(decide (x8.1=((9218868437227405312:Nat):Int)))then
  some ((0:Int),(82:Int))
 else
  some (x8.1,(0:Int))))))
 else
  (qhR (x0.1,((48:Nat):Int))).bind fun x9=>
  (bif(decide (x9=(ByteArray.mk (List.toArray []))))then
  (bif(decide (x9=(ByteArray.mk (List.toArray []))))then
  some ((0:Int),(0:Int))
 else
  (bif(decide (320<(IntKind.wrap .i64 ((ByteArray.size x9:Int)+x0.2.1))))then
  some ((0:Int),(82:Int))
 else
  (jQ x0.2.1).bind fun x10=>
  (ye ((bif(Nat.ble (List.length (lb x9)) 20000)then(bif(List.isEmpty (lb x9))then([],(22:Int))else(bif(List.all (lb x9) (isD))then((ofN (dv (lb x9))),(0:Int))else([],(22:Int))))else([],(20:Int))).1,x10)).bind fun x11=>
  (jQ (IntKind.wrap .i64 (0-x0.2.1))).bind fun x12=>
  (yN (false,x11,x12,(0:Int))).bind fun x13=>
  (bif(decide (x13.1=((9218868437227405312:Nat):Int)))then
  some ((0:Int),(82:Int))
 else
  some (x13.1,(0:Int)))))
 else
  (bif(decide ((IntKind.wrap .i64 ((ByteArray.size x9:Int)+x0.2.1))<(-325)))then
  some ((0:Int),(0:Int))
 else
  (bif(decide (320<(IntKind.wrap .i64 ((ByteArray.size x9:Int)+x0.2.1))))then
  some ((0:Int),(82:Int))
 else
  (jQ x0.2.1).bind fun x14=>
  (ye ((bif(Nat.ble (List.length (lb x9)) 20000)then(bif(List.isEmpty (lb x9))then([],(22:Int))else(bif(List.all (lb x9) (isD))then((ofN (dv (lb x9))),(0:Int))else([],(22:Int))))else([],(20:Int))).1,x14)).bind fun x15=>
  (jQ (IntKind.wrap .i64 (0-x0.2.1))).bind fun x16=>
  (yN (false,x15,x16,(0:Int))).bind fun x17=>
  (bif(decide (x17.1=((9218868437227405312:Nat):Int)))then
  some ((0:Int),(82:Int))
 else
  some (x17.1,(0:Int)))))))))
def qpa(t:List UInt8)(pw:Int):Int×Int :=
 if t=[]∨(t.length:Int)+pw < -325 then(0,0)else
 if 320<(t.length:Int)+pw then(0,82)else
 if qca false 0 (dv t*pT pw) (pU pw)=9218868437227405312 then(0,82)else(((qca false 0 (dv t*pT pw) (pU pw):Nat):Int),0)
def QQ(S:List UInt8):Int×Int :=
 if 400<S.length then(0,81)else
 if(ptL S).2.2=false then(0,80)else qpa ((ptL S).1.dropWhile (· == 48)) (ptL S).2.1
theorem qwg{t:List UInt8}{d:List UInt8}(h:d.dropWhile (· == 48)=t)(hd:∀c∈d,isD c=true)(ht:t≠[]):(∀c∈t,isD c=true)∧dv t≠0:=by
 have hs:∀c∈t,isD c=true:=fun c hc=>hd c (by rw[← h]at hc;exact(Wi _).mem hc)
 refine⟨hs,?_⟩
 cases t with
 | nil=>exact absurd rfl ht
 | cons c r=>
  have hc:(c == 48)=false:=by
   have:=List.head?_dropWhile_not (p:=(· == (48:UInt8))) (l:=d)
   rw[h]at this;simpa using this
  have hcD:=jT.1 (hs c zI)
  have hne:c.toNat≠48:=fun e=>by
   have:c=48:=Wl.1 e
   rw[this]at hc;cases hc
  have e:dv (c::r)=(c.toNat-48)*10^r.length+dv r:=by
   have:=qjg [c] r
   have e1:dv [c]=c.toNat-48:=by unfold dv;simp
   rw[e1]at this;exact this
  rw[e];have:1*10^r.length≤(c.toNat-48)*10^r.length:=zG _ (by omega)
  have:=Nat.one_le_pow r.length 10 (by decide)
  omega
theorem qwh{t:List UInt8}{pw:Int}(hs:∀c∈t,isD c=true)(h0:dv t≠0)(hl:t.length≤400)(h1 : -325≤(t.length:Int)+pw)(h2:(t.length:Int)+pw≤320)(K:Int×Int→Option (Int×Int)) :
 ((jQ pw).bind fun x1=>(ye (ofN (dv t),x1)).bind fun x2=>(jQ (IntKind.i64.wrap (0-pw))).bind fun x3=>(yN (false,x2,x3,(0:Int))).bind K)=K (((qca false 0 (dv t*pT pw) (pU pw):Nat):Int),qkL false 0 (dv t*pT pw) (pU pw)):=by
 have bn:qm (dv t)≤1601:=by have:=Zv (qoR t hs);omega
 have bt:qm (pT pw)≤1681:=bl_t (by omega)
 have bu:qm (pU pw)≤2941:=by have:=YY (-pw).toNat;unfold pU;omega
 have bp:=YX (dv t) (pT pw)
 have m1:=qkH (u:=dv t) (v:=pT pw) (by omega) (by omega)
 have w:IntKind.i64.wrap (0-pw) = -pw:=by rw[w64 (n:=0-pw) (by omega) (by omega)];omega
 rw[w];refine obs (qx7 (by omega)) (obs m1 (obs (qx8 (by omega)) ?_))
 have hm:dv t*pT pw≠0:=Nat.mul_ne_zero h0 (by have:=qv9 pw;omega)
 have hu:pU pw≠0:=by have:=qwa pw;omega
 have p1:=yj hm;have p2:=yj hu;refine obs ?_ rfl
 unfold yN;simp only[valN_ofN];rw[qdB hm,qdB hu,qkS _ (by omega),qkS _ (by omega),zr (show qm (dv t*pT pw)≤40000 by omega),zr (show qm (pU pw)≤40000 by omega),za (show -4000≤jL (dv t*pT pw) (pU pw) by unfold jL;omega),za (show jL (dv t*pT pw) (pU pw)≤4000 by unfold jL;omega)];rfl
theorem qum(S:List UInt8)(a:List UInt8×Int×Bool×Nat):(ptB S a).1=a.1:=by unfold ptB;split <;> rfl
theorem qsY(S:List UInt8):∀c∈(ptL S).1,isD c=true:=by
 unfold ptL;rw[qum];unfold ptA;split
 · intro c hc
   rcases Ka.1 hc with h | h
   · exact Z8 S _ c h
   · exact Z8 S _ c h
 · exact Z8 S _
theorem qyl(S:List UInt8):(ptA S).1.length≤S.length∧-(S.length:Int)≤(ptA S).2.1∧(ptA S).2.1≤0:=by
 have j0:=jM (S:=S) (i:=0) (by omega)
 have e0:rn S 0=(rnL S 0).length:=by unfold rn;omega
 unfold ptA;split
 · rename_i h
   have hl:=yf h;have j1:=jM (S:=S) (i:=rn S 0+1) (by omega)
   have e1:rn S (rn S 0+1)=rn S 0+1+(rnL S (rn S 0+1)).length:=rfl
   simp only[zy];omega
 · simp only[]
   omega
theorem qym(S:List UInt8)(a:List UInt8×Int×Bool×Nat):a.2.1-100000≤(ptB S a).2.1∧(ptB S a).2.1≤a.2.1+100000:=by
 unfold ptB;split
 · have h:∀k,exV (rnL S k)≤100000:=fun k=>JI _
   simp only[];split
   · have:=h (if S[a.2.2.2+1]?=some 43∨S[a.2.2.2+1]?=some 45 then a.2.2.2+2 else a.2.2.2+1)
     constructor <;> omega
   · have:=h (if S[a.2.2.2+1]?=some 43∨S[a.2.2.2+1]?=some 45 then a.2.2.2+2 else a.2.2.2+1)
     constructor <;> omega
 · simp only[]
   omega
theorem qyn(S:List UInt8):(ptL S).1.length≤S.length∧-(S.length:Int)-100000≤(ptL S).2.1∧(ptL S).2.1≤100000:=by
 obtain⟨h1,h2,h3⟩:=qyl S;have h4:=qym S (ptA S)
 unfold ptL;rw[qum];omega
theorem qjl(l m:List UInt8):decide (bs l=ByteArray.mk (List.toArray m))=decide (l=m):=qr l m
theorem qwi{l:List UInt8}(h:l.length≤400):qhR (bs l,((48:Nat):Int))=some (bs (l.dropWhile (· == 48))):=by
 unfold qhR;simp only[qD];rw[zr (by omega)];rfl
theorem qsZ{t:List UInt8}(hs:∀c∈t,isD c=true)(h0:t≠[])(hl:t.length≤400):(bif(Nat.ble t.length 20000)then(bif(List.isEmpty t)then([],(22:Int))else(bif(List.all t isD)then((ofN (dv t)),(0:Int))else([],(22:Int))))else([],(20:Int)))=(ofN (dv t),(0:Int)):=by
 rw[zr (by omega),zg,z7.2 hs];cases t with
 | nil=>exact absurd rfl h0
 | cons c r=>rfl
theorem qkV:okS []=true:=by rw[qgk];rfl
def qbD(s:ByteArray):Option (Int×Int):=bif okS []then some (QQ (lb s))else none
theorem qpb(s:ByteArray):qbD s=some (QQ (lb s)):=by unfold qbD;rw[qkV];rfl
theorem qs0(s:ByteArray)(y:Int×Int)(hg:(d1 cS).good s)(h:qbD s=some y):qsX s=some y:=by
 clear hg;rw[qpb]at h;revert h;refine onB (P:=fun s=>some (QQ (lb s))=some y→qsX s=some y) (fun S h=>?_) s
 have:=soi h;subst this
 rw[qD];unfold qsX QQ;rw[qe];by_cases c1:400<S.length
 · rw[zA c1,bdT (by omega)]
 rw[zx c1,bdF (by omega)];have hp:qbC (bs S)=some (bs (ptL S).1,(ptL S).2.1,(ptL S).2.2):=by unfold qbC;rw[qD,zr (by omega)];rfl
 refine obs hp ?_
 obtain⟨b1,b2,b3⟩:=qyn S;have hd:=qsY S;generalize ptL S=L at *
 obtain⟨d,pw,ok⟩:=L;simp only[qjl,qD,qe]at *
 cases ok with
 | false=>rfl
 | true=>
  rw[zx (by decide)];simp only[Bool.not_true,zm];by_cases e:d=[]
  · subst e
    rw[bdT rfl,bdT rfl,bdT rfl];unfold qpa;rw[zA (.inl rfl)]
  · rw[bdF e]
    refine obs (qwi (by omega)) ?_
    have tl:(d.dropWhile (· == 48)).length≤d.length:=(Wi _).length_le
    have tp:=@qwg (d.dropWhile (· == 48)) d rfl hd
    generalize d.dropWhile (· == 48)=t at *
    simp only[qjl,qD,qe];unfold qpa;by_cases e2:t=[]
    · subst e2
      rw[zA (.inl rfl),bdT rfl,bdT rfl]
    · obtain⟨hs,h0⟩:=tp e2
      have w:IntKind.i64.wrap (((t.length:Nat):Int)+pw)=((t.length:Nat):Int)+pw:=w64 (by omega) (by omega)
      rw[bdF e2,w];by_cases a1:((t.length:Nat):Int)+pw < -325
      · rw[bdT a1,zA (.inr a1)]
      · rw[bdF a1,zx (by rintro(h | h);exact e2 h;exact a1 h)]
        by_cases a2:320<((t.length:Nat):Int)+pw
        · rw[bdT a2,zA a2]
        · rw[bdF a2,zx a2,qsZ hs e2 (by omega)]
          refine(qwh hs h0 (by omega) (by omega) (by omega) _).trans ?_
          by_cases a3:qca false 0 (dv t*pT pw) (pU pw)=9218868437227405312
          · rw[zA a3]
            refine(bdT (by simp only[a3]) _ _)
          · rw[zx a3]
            refine(bdF (by simp only[Int.natCast_inj];exact a3) _ _)
end
end Su
end
section
namespace Su
open Go Fly
def wdP:List (List UInt8×Int):=[([116,105,99,107,115],1),([105,110,112,117,116],2),([118,97,114],3),([105,110,105,116],4),([115,116,101,112],5),([105,102],6),([101,108,115,101],7),([102,111,114],8),([116,114,117,101],9),([102,97,108,115,101],10),([105,110,116],11),([102,108,111,97,116],12),([98,111,111,108],13),([97,98,115],14),([105,110],15)]
def wdN(l:List UInt8):List (List UInt8×Int)→Int
 | []=>0
 | (k,v)::P=>if l=k then v else wdN l P
def ZE(l:List UInt8):Bool:=decide (0<wdN l wdP)
def qun(s:ByteArray):Option Bool:=some (ZE (lb s))
abbrev Tk:=Int×Int×ByteArray×Int×Int
noncomputable def qbE(p:Tk×ByteArray×Bool):Option (Tk×Int) :=
 bif Nat.blt 400 p.2.1.size then some (p.1,91)else
 bif p.2.2 then(bif decide ((QQ (lb p.2.1)).2=0)then some ((3,p.1.2.1,p.1.2.2.1,p.1.2.2.2.1,(QQ (lb p.2.1)).1),0)else some (p.1,93))else
 bif !(lb p.2.1).isEmpty&&(lb p.2.1).all isD then(bif Nat.blt 2147483647 (dv (lb p.2.1))then some (p.1,92)else some ((2,p.1.2.1,p.1.2.2.1,((dv (lb p.2.1):Nat):Int),p.1.2.2.2.2),0))else none
def qdZ(p:ByteArray×ByteArray):Option Bool:=bif Nat.ble p.1.size 1000000 then some (Lib.contains (lb p.1) (lb p.2))else none
theorem qpc:∀(l:List UInt8) (acc:Nat),(∀c∈l,isD c=true)→acc<18446744073709551616→Lib.parseUintM 18446744073709551615 acc l=if acc*10^l.length+dv l<18446744073709551616 then .ok (acc*10^l.length+dv l)else .range
 | [],acc,_,h=>by
  have e:acc*10^([]:List UInt8).length+dv []=acc:=by show acc*1+0=acc;omega
  rw[e,zA h];rfl
 | c::r,acc,hd,h=>by
  have hc:=jT.1 (hd c zI)
  have e:=qjg [c] r
  have e1:dv [c]=c.toNat-48:=by unfold dv;simp
  rw[e1]at e;have e2:dv (c::r)=(c.toNat-48)*10^r.length+dv r:=e
  have el:acc*10^(c::r).length+dv (c::r)=(acc*10+(c.toNat-48))*10^r.length+dv r:=by
   rw[e2,zt,z6,zV,Km,zN 10];omega
  have hp:=Nat.one_le_pow r.length 10 (by decide)
  have hm:acc*10+(c.toNat-48)≤(acc*10+(c.toNat-48))*10^r.length:=Nat.le_mul_of_pos_right _ hp
  rw[el];unfold Lib.parseUintM;rw[zA hc];by_cases h1:1844674407370955162≤acc
  · rw[zA h1,zx (by omega)]
  · rw[zx h1]
    by_cases h2:18446744073709551615<acc*10+(c.toNat-48)
    · rw[zA h2,zx (by omega)]
    · rw[zx h2]
      exact qpc r _ (fun c hc=>hd c (zw _ hc)) (by omega)
theorem qpd{l:List UInt8}(h0:l≠[])(hd:∀c∈l,isD c=true):Lib.parseUintB 64 l=if dv l<18446744073709551616 then .ok (dv l)else .range:=by
 unfold Lib.parseUintB;rw[zx h0];have:=qpc l 0 hd (by omega)
 rw[K8,zD]at this;exact this
end Su
end
section
namespace Su
open Go Fly
noncomputable section
def dm{α β:Type}(d:Dec α)(to:α→β)(fr:β→α)(h1:∀a,fr (to a)=a)(h2:∀b,to (fr b)=b):Dec β where
 enc b:=d.enc (fr b)
 dec l:=(d.dec l).bind fun a=>some (to a)
 good b:=d.good (fr b)
 rep {xs b} h V vs hr:=by
  obtain⟨a,e1,e2⟩:=osm h;have:=soi e2;subst this
  rw[h1];exact d.rep e1 hr
 de b:=by rw[d.de,zh,h2]
 rng {b V vs} hr:=d.rng hr
structure RowD (u k:Nat) where
 d:Dec (U u)
 hv:∀a,view u a = .agg (d.enc a)
 hk:∀a,(d.enc a).length=k
 hn:∀a,((d.enc a).all fun x=>!x.isAgg)=true
section
variable {u k:Nat} (R:RowD u k)
def qwj(x:T):Option (U u):=match x with | .agg l=>R.d.dec l | _=>none
def unR:List T→Option (List (U u))
 | []=>some []
 | x::l=>(qwj R x).bind fun a=>(unR l).bind fun b=>some (a::b)
theorem qjm{x:T}{a:U u}(h:qwj R x=some a){V:qa}{vs:List Value}(hr:RepA V x.cells vs):RepA V (view u a).cells vs∧x.cells.length=k:=by
 cases x with
 | agg l=>
  have h':R.d.dec l=some a:=h
  have h1:=R.d.rep h' hr;have hl:l.length=vs.length:=hr.length
  have hl2:=h1.length;rw[R.hv];exact⟨h1,by show l.length=k;rw[hl,← hl2,R.hk]⟩
 | _=>exact non h
theorem qe6{V:qa}:∀ {l:List T} {a:List (U u)} {vs:List Value},unR R l=some a→RepA V (l.flatMap T.cells) vs →
 RepA V ((a.map (view u)).flatMap T.cells) vs∧(∀x∈(a.map (view u)).flatMap T.cells,x.isAgg=false)∧(∀x∈a.map (view u),x.cells.length=k)∧(∀x∈l,x.cells.length=k)∧a.length=l.length
 | [],a,vs,h,hr=>by have:=soi h;subst this;exact⟨hr,by simp,by simp,by simp,rfl⟩
 | x::l,a,vs,h,hr=>by
  obtain⟨b,h1,h⟩:=osm h;obtain⟨c,h2,h⟩:=osm h;have:=soi h;subst this
  rw[Kw]at hr;obtain⟨v1,v2,rfl,k1,k2⟩:=hr.split;obtain⟨e1,e2⟩:=qjm R h1 k1;obtain⟨f1,f2,f3,f4,f5⟩:=qe6 h2 k2;rw[KT,Kw];refine⟨e1.append f1,fun y hy=>?_,fun y hy=>?_,fun y hy=>?_,by simp[f5]⟩
  · rcases Ka.1 hy with hy | hy
    · rw[R.hv]at hy
      exact qeZ (R.hn b) y hy
    · exact f2 y hy
  · rcases zO.1 hy with rfl | hy
    · rw[R.hv];exact R.hk b
    · exact f3 y hy
  · rcases zO.1 hy with rfl | hy
    · exact e2
    · exact f4 y hy
theorem qup{V:qa}:∀ {l:List (U u)} {vs:List Value},RepA V ((l.map (view u)).flatMap T.cells) vs→∀t∈l,R.d.good t
 | [],_,_,t,ht=>by cases ht
 | y::l,vs,h,t,ht=>by
  rw[KT,Kw]at h;obtain⟨v1,v2,rfl,k1,k2⟩:=h.split;rcases zO.1 ht with rfl | ht
  · rw[R.hv]at k1;exact R.d.rng k1
  · exact qup k2 t ht
theorem qmk(a:U u):qwj R (view u a)=some a:=by
 rw[R.hv];exact R.d.de a
theorem qkW:∀l:List (U u),unR R (l.map (view u))=some l
 | []=>rfl
 | x::l=>by simp only[KT,unR,qmk,qkW l,zh]
def cL:Cod (List (U u)) where
 enc l:=.ql u k l
 dec x:=match x with
  | .sl w l=>bif Nat.beq w k then unR R l else none
  | x=>qei u k (.t x)
 good l:=(∀t∈l,R.d.good t)∧l.length≤maxLen
 rep {x a} h V v hr:=by
  split at h
  · obtain⟨h1,h2⟩:=qh h
    have:=zf h1;subst this
    cases hr with | @sl _ _ vs ad cap k1 k2 k3 k4 k5 k6=>
    obtain⟨f1,f2,f3,f4,f5⟩:=qe6 R h2 k1;rename_i l;have hl:(a.map (view u)).length=l.length:=by rw[zH,f5]
    have:=Rep.sl (V:=V) (l:=a.map (view u)) (a:=ad) (cap:=cap) f1 f2 f3 (by omega) k5 (k6.imp (fun e=>by subst e;exact KH (by simpa using hl)) id)
    rw[hl]at this;exact .ql this
  · have:=qiY h
    simp only[SV.t.injEq]at this;subst this;exact hr
 de a:=by
  show qei u k (.t (.ql u k a))=_
  simp[qei]
 rng {a V v} h:=by
  cases h with | ql h=>
  cases h with | @sl _ _ vs ad cap h1 h2 h3 h4 h5 h6=>
  rw[zH]at h4;exact⟨qup R h1,by omega⟩
end
abbrev TkP:=Int×Int×ByteArray×Int×Int
abbrev dTk:Dec TkP:=dc (cI .u8) (dc (cI .i64) (dc cS (dc (cI .i32) (d1 (cI .u64)))))
def rTk:RowD 19 5:=⟨dTk,fun _=>rfl,fun _=>rfl,fun _=>rfl⟩
abbrev cTk:Cod TkP:=cA dTk
end
end Su
end
section
namespace Su
open Go Fly
noncomputable section
end
end Su
end
section
namespace Su
open Go Fly
noncomputable section
def qpe  (s:ByteArray)(i:Int):Option Bool :=
 (bif(decide (i<(ByteArray.size s:Int)))then
 (bif(decide (0≤i))then
 ((s)[i.toNat]?).bind fun x0=>
 (bif(decide (48≤(UInt8.toNat x0:Int)))then
 some (decide ((UInt8.toNat x0:Int)≤57))
 else
  some false)
 else none)
 else
  some false)
def tHP  (s:ByteArray)(p:ByteArray):Option Bool :=
 (bif(decide ((ByteArray.size p:Int)≤(ByteArray.size s:Int)))then
 (bif((true&&(decide (0≤(ByteArray.size p:Int))))&&(decide ((ByteArray.size p:Int)≤(ByteArray.size s:Int))))then
 some (decide ((ByteArray.extract s 0 (Int.toNat (ByteArray.size p:Int)))=p))
 else none)
 else
  some false)
def qcG(s:ByteArray) :=
 bif(true&&(decide (1≤(ByteArray.size s:Int))))then
 (bif(Go.Lib.contains (lb (ByteArray.mk (List.toArray [40,41,91,93,123,125,44,59,58,61,60,62,43,45,42,47,33]))) (lb (ByteArray.extract s 0 1)))then
 (bif(true&&(decide (1≤(ByteArray.size s:Int))))then
 some (ByteArray.extract s 0 1)
 else none)
 else
  some (ByteArray.mk (List.toArray [])))
 else
  none
def qs1  (s:ByteArray):Option ByteArray :=
 (bif(decide (1<(ByteArray.size s:Int)))then
 (bif(true&&(decide (2≤(ByteArray.size s:Int))))then
 (bif(Go.Lib.contains (lb (ByteArray.mk (List.toArray [61,61,32,33,61,32,60,61,32,62,61,32,38,38,32,124,124,32,46,46]))) (lb (ByteArray.extract s 0 2)))then
 (bif(true&&(decide (2≤(ByteArray.size s:Int))))then
 (qdZ ((ByteArray.extract s 0 2),(ByteArray.mk (List.toArray [32])))).bind fun x0=>
 (bif(!x0)then
 (bif(true&&(decide (2≤(ByteArray.size s:Int))))then
 some (ByteArray.extract s 0 2)
 else none)
 else
  (qcG s))
 else none)
 else
  (qcG s))
 else none)
 else
  (qcG s))
def qwk  (c:Int):Option Bool :=
 (bif(decide (97≤(Fly.qX Go.BinOp.or .u8 c 32)))then
 (bif(decide ((Fly.qX Go.BinOp.or .u8 c 32)≤122))then
 some true
 else
  some (decide (c=95)))
 else
  some (decide (c=95)))
abbrev Z9:=(ByteArray×Int×Unit)
def JY:Z9→Option (Z9 ⊕ (Lp Z9 Int)):=fun p0=>(bif(decide (p0.2.1<(ByteArray.size p0.1:Int)))then
 (bif(((decide (0≤p0.2.1))&&(decide (p0.2.1≤(ByteArray.size p0.1:Int))))&&(decide ((ByteArray.size p0.1:Int)≤(ByteArray.size p0.1:Int))))then
 (bif(decide (0≤p0.2.1))then
 ((p0.1)[p0.2.1.toNat]?).bind fun x1=>
 (bif(decide (0≤(jb (UInt8.ofNat (Int.toNat (UInt8.toNat x1:Int))) (lb (ByteArray.mk (List.toArray [32,9,10,13]))))))then
 some (.inl (p0.1,(IntKind.wrap .i64 (p0.2.1+1)),()))
 else
  (bif(decide (((2:Nat):Int)≤(((ByteArray.size (ByteArray.extract p0.1 p0.2.1.toNat (Int.toNat (ByteArray.size p0.1:Int)))):Nat):Int)))then
  (bif(true&&(decide (((2:Nat):Int)≤(((ByteArray.size (ByteArray.extract p0.1 p0.2.1.toNat (Int.toNat (ByteArray.size p0.1:Int)))):Nat):Int))))then
  (bif(decide ((ByteArray.extract (ByteArray.extract p0.1 p0.2.1.toNat (Int.toNat (ByteArray.size p0.1:Int))) 0 2)=(ByteArray.mk (List.toArray [47,47]))))then
  (bif(decide ((jb (UInt8.ofNat (Int.toNat 10)) (lb (ByteArray.extract p0.1 p0.2.1.toNat (Int.toNat (ByteArray.size p0.1:Int)))))<0))then
  some (.inr (.ret (ByteArray.size p0.1:Int)))
 else
  some (.inl (p0.1,(IntKind.wrap .i64 (p0.2.1+(jb (UInt8.ofNat (Int.toNat 10)) (lb (ByteArray.extract p0.1 p0.2.1.toNat (Int.toNat (ByteArray.size p0.1:Int))))))),())))
 else
  some (.inr (.ret p0.2.1)))
 else none)
 else
  some (.inr (.ret p0.2.1))))
 else none)
 else none)
 else
  some (.inr (.exit 0 (p0.1,p0.2.1,()))))
def qkX  (fu:Nat)(s:ByteArray)(i:Int):Option Int :=
 (itP fu (JY) (s,i,())).bind fun x2=>
 (match x2 with
 | .exit i3 p4=>(bif(Nat.beq i3 0)then
  some p4.2.1
 else none)
 | .ret o5=>some o5)
def yy(S:List UInt8)(i:Nat):Bool:=(S[i]?).any isD
def jV(p:ByteArray×Int):Option Bool:=bif decide (0≤p.2)then some (yy (lb p.1) p.2.toNat)else none
theorem qs2(p:ByteArray×Int)(y:Bool)(hg:(dc cS (d1 (cI .i64))).good p)(h:jV p=some y):qpe p.1 p.2=some y:=by
 obtain⟨s,i⟩:=p;clear hg;revert h;refine onB (P:=fun s=>jV (s,i)=some y→qpe s i=some y) (fun S h=>?_) s
 obtain⟨h1,h2⟩:=qh h;have:=soi h2;subst this
 have h1:=Ko h1;obtain⟨k,rfl⟩:=z8 h1;clear h h2;show qpe (bs S) ((k:Nat):Int)=some (yy S k)
 unfold qpe yy;simp only[qe,zd,qq];by_cases hk:k<S.length
 · obtain⟨c,hc⟩:∃c,S[k]?=some c:=⟨_,zq hk⟩
   rw[bdT (by omega),bdT (by omega),hc,zh];show _=some (isD c)
   unfold isD;by_cases h48:48≤c.toNat
   · rw[bdT (by omega),zr h48,zZ]
     congr 1
     by_cases h57:c.toNat≤57
     · rw[za (by omega),zr h57]
     · rw[zk (by omega)]
       cases h:Nat.ble c.toNat 57 with
       | false=>rfl
       | true=>exact absurd (zo h) h57
   · rw[bdF (by omega)]
     cases h:Nat.ble 48 c.toNat with
     | false=>rfl
     | true=>exact absurd (zo h) h48
 · rw[bdF (by omega),zQ (by omega)];rfl
def quq(p:ByteArray×ByteArray):Option Bool:=some ((lb p.2).isPrefixOf (lb p.1))
theorem qs3(l S:List UInt8):l.isPrefixOf S=decide (l.length≤S.length∧S.take l.length=l):=by
 by_cases h:l <+: S
 · rw[List.isPrefixOf_iff_prefix.2 h,za ⟨h.length_le,(Vn.1 h).symm⟩]
 · rw[zk fun hh=>h (Vn.2 hh.2.symm)]
   cases hb:l.isPrefixOf S with
   | false=>rfl
   | true=>exact absurd (List.isPrefixOf_iff_prefix.1 hb) h
theorem qwl(p:ByteArray×ByteArray)(y:Bool)(hg:(dc cS (d1 cS)).good p)(h:quq p=some y):tHP p.1 p.2=some y:=by
 have:=soi h;subst this
 obtain⟨s,q⟩:=p;clear hg h;refine onB (P:=fun s=>tHP s q=some ((lb q).isPrefixOf (lb s))) (fun S=>?_) s
 refine onB (P:=fun q=>tHP (bs S) q=some ((lb q).isPrefixOf (lb (bs S)))) (fun l=>?_) q
 unfold tHP;simp only[qe,qD,jY,zd,Kh,KJ,qr,zZ];rw[qs3];by_cases h:l.length≤S.length
 · rw[bdT (by omega),za (show(0:Int)≤((l.length:Nat):Int) by omega),za (show((l.length:Nat):Int)≤((S.length:Nat):Int) by omega)]
   show some (decide (S.take l.length=l))=_
   congr 1
   exact decide_eq_decide.2 ⟨fun e=>⟨h,e⟩,fun e=>e.2⟩
 · rw[bdF (by omega),zk (fun e=>h e.1)]
def sg2:List UInt8:=[61,61,32,33,61,32,60,61,32,62,61,32,38,38,32,124,124,32,46,46]
def sg1:List UInt8:=[40,41,91,93,123,125,44,59,58,61,60,62,43,45,42,47,33]
def yF(S:List UInt8):List UInt8 :=
 if 1<S.length∧Lib.contains sg2 (S.take 2)=true∧Lib.contains (S.take 2) [32]=false then S.take 2 else if Lib.contains sg1 (S.take 1)=true then S.take 1 else[]
def qaa(s:ByteArray):Option ByteArray:=bif Nat.ble 1 (lb s).length then some (bs (yF (lb s)))else none
theorem qs4(s:ByteArray)(y:ByteArray)(hg:(d1 cS).good s)(h:qaa s=some y):qs1 s=some y:=by
 clear hg;revert h;refine onB (P:=fun s=>qaa s=some y→qs1 s=some y) (fun S h=>?_) s
 obtain⟨h1,h2⟩:=qh h;have:=soi h2;subst this
 have h1:1≤S.length:=zo h1
 clear h h2;have c2:qdZ ((bs S).extract 0 2,bs [32])=some (Lib.contains (S.take 2) [32]):=by
  unfold qdZ;simp only[jY,qD,qe,Kh,KJ];rw[zr (by rw[zB];omega)];rfl
 have one:(bif(true&&(decide (1≤(((bs S).size:Nat):Int))))then(bif(Lib.contains (lb (ByteArray.mk (List.toArray sg1))) (lb ((bs S).extract 0 1)))then(bif(true&&(decide (1≤(((bs S).size:Nat):Int))))then some ((bs S).extract 0 1)else none)else some (ByteArray.mk (List.toArray [])))else none)=some (bs (if Lib.contains sg1 (S.take 1)=true then S.take 1 else[])):=by
  rw[za (by rw[qe];omega)];simp only[zZ,zg,qQ,qD,jY,Kh,KJ];cases Lib.contains sg1 (S.take 1) <;> rfl
 rw[qD];unfold qs1 qcG yF;by_cases hl:1<S.length
 · rw[bdT (by rw[qe];omega)]
   have e2:decide ((2:Int)≤(((bs S).size:Nat):Int))=true:=za (by rw[qe];omega)
   rw[e2];simp only[zZ,zg];have c1:Lib.contains (lb (ByteArray.mk (List.toArray sg2))) (lb ((bs S).extract 0 2))=Lib.contains sg2 (S.take 2):=by
    rw[qQ,qD,jY,qD,Kh]
   have c1':=c1;unfold sg2 at c1';rw[c1'];cases hc:Lib.contains [61,61,32,33,61,32,60,61,32,62,61,32,38,38,32,124,124,32,46,46] (S.take 2)with
   | false=>
    rw[zx (fun h=>by have:=h.2.1;unfold sg2 at this;rw[hc]at this;cases this)];exact one
   | true=>
    rw[zg];refine obs c2 ?_
    cases hd:Lib.contains (S.take 2) [32]with
    | true=>
     rw[zx (fun h=>by cases h.2.2)];exact one
    | false=>
     rw[zA ⟨hl,by unfold sg2;exact hc,rfl⟩];rw[jY];rfl
 · rw[bdF (by rw[qe];omega),zx (fun h=>hl h.1)]
   exact one
def yT(c:UInt8):Bool:=(Nat.ble 65 c.toNat&&Nat.ble c.toNat 90)||((Nat.ble 97 c.toNat&&Nat.ble c.toNat 122)||Nat.beq c.toNat 95)
def JZ(c:UInt8):Bool:=yT c||isD c
def Yj(c:Int):Option Bool:=bif decide (0≤c)&&decide (c<256)then some (yT (UInt8.ofNat c.toNat))else none
theorem qs5:(List.range 256).all (fun k=>qwk ((k:Nat):Int) == some (yT (UInt8.ofNat k)))=true:=by decide +kernel
theorem qs6(c:Int)(y:Bool)(hg:(d1 (cI .u8)).good c)(h:Yj c=some y):qwk c=some y:=by
 obtain⟨h1,h2⟩:=qh h;have:=soi h2;subst this
 simp only[zn,zL]at h1;obtain⟨k,rfl⟩:=z8 h1.1;have:=z7.1 qs5 k (List.mem_range.2 (by omega))
 rw[zd];exact eq_of_beq this
def qd0(c:UInt8):Bool:=c == 32||(c == 9||(c == 10||c == 13))
def sk:Bool→List UInt8→Nat
 | _,[]=>0
 | true,c::r=>if c=10 then 1+sk false r else 1+sk true r
 | false,c::r=>if qd0 c=true then 1+sk false r else if c=47∧r.head?=some 47 then 1+sk true r else 0
theorem qd1:∀(b:Bool) (l:List UInt8),sk b l≤l.length
 | _,[]=>by unfold sk;exact zE 0
 | true,c::r=>by
  have h1:=qd1 true r;have h2:=qd1 false r;unfold sk;split <;> simp only[zt] <;> omega
 | false,c::r=>by
  have h1:=qd1 true r;have h2:=qd1 false r;unfold sk;split
  · simp only[zt];omega
  · split <;> simp only[zt] <;> omega
theorem qpf:∀(l:List UInt8),sk true l=if jb 10 l<0 then l.length else(jb 10 l).toNat+sk false (l.drop (jb 10 l).toNat)
 | []=>rfl
 | c::r=>by
  by_cases h:c=10
  · subst h
    have e0:jb 10 (10::r)=0:=rfl
    rw[e0,zx (by decide)];show sk true (10::r)=0+sk false (10::r)
    rw[sk,zA rfl,sk,zA (by decide),zD]
  · have e:jb 10 (c::r)=if jb 10 r = -1 then -1 else jb 10 r+1:=by
     have hb:(c == 10)=false:=by simpa using h
     show(bif c == 10 then(0:Int)else bif decide (jb 10 r = -1)then -1 else jb 10 r+1)=_
     rw[hb,zm,Jp]
    have lo:=Zt 10 r
    have ih:=qpf r;have es:sk true (c::r)=1+sk true r:=by rw[sk,zx h]
    rw[es,ih,e];by_cases h1:jb 10 r = -1
    · rw[zA h1,zA (by omega),zA (by omega),zt];omega
    · rw[zx h1,zx (by omega),zx (by omega)]
      obtain⟨k,hk⟩:=z8 (show 0≤jb 10 r by omega)
      rw[hk];show _=(k+1)+sk false ((c::r).drop (k+1))
      rw[List.drop_succ_cons];show 1+(k+sk false (r.drop k))=_
      omega
def JB(p:ByteArray×Int):Option Int:=bif(decide (0≤p.2)&&decide (p.2≤((lb p.1).length:Int)))&&Nat.ble (lb p.1).length 1000000 then some ((p.2.toNat+sk false ((lb p.1).drop p.2.toNat):Nat):Int)else none
theorem qwm(c:UInt8):decide (0≤jb (UInt8.ofNat c.toNat) (lb (ByteArray.mk (List.toArray [32,9,10,13]))))=qd0 c:=by
 rw[zu,qQ,qD];have h:=Y3 c [32,9,10,13]
 by_cases hm:c∈([32,9,10,13]:List UInt8)
 · rw[za (h.2 hm)]
   unfold qd0;simp only[zO,Kp,or_false]at hm;rcases hm with rfl | rfl | rfl | rfl <;> rfl
 · rw[zk (fun e=>hm (h.1 e))]
   unfold qd0;simp only[zO,Kp,or_false,not_or]at hm;obtain⟨a,b,c',d⟩:=hm;simp[a,b,c',d]
def endV(r:Lp (ByteArray×Int×Unit) Int):Option Int:=match r with
 | .exit i3 p4=>(bif(Nat.beq i3 0)then some p4.2.1 else none)
 | .ret o5=>some o5
theorem qwn{α:Type}(b:Bool)(a:α):(bif b then a else a)=a:=by cases b <;> rfl
theorem qpg(c:UInt8)(r:List UInt8):(c::r).take 2=[47,47]↔c=47∧r.head?=some 47:=by
 cases r with
 | nil=>simp
 | cons d r=>simp
theorem qwo{S:List UInt8}(hS:S.length≤1000000):∀(d i:Nat),i≤S.length→S.length-i≤d→∃r,(∃n,itP n JY (bs S,(i:Int),())=some r)∧endV r=some ((i+sk false (S.drop i):Nat):Int):=fun d=>by
 induction d using Nat.strongRecOn with
 | ind d ih=>
  intro i hi hd;by_cases hl:i=S.length
  · refine⟨.exit 0 (bs S,(i:Int),()),yK ?_,?_⟩
    · unfold JY
      simp only[qe];rw[bdF (by omega)]
    · rw[Wh (by omega)];rfl
  · obtain⟨c,hc⟩:∃c,S[i]?=some c:=⟨_,zq (by omega)⟩
    obtain⟨hlt,ec⟩:=zp.1 hc
    have eR:S.drop i=c::S.drop (i+1):=by rw[zM hlt,ec]
    have w:IntKind.i64.wrap ((i:Int)+1)=((i+1:Nat):Int):=by rw[w64 (by omega) (by omega)];omega
    have ext:(bs S).extract i S.length=bs (S.drop i):=by
     rw[jY,zF (by rw[zP];omega)]
    have rl:(S.drop i).length=S.length-i:=zP
    have head:JY (bs S,(i:Int),())=(bif qd0 c then some (.inl (bs S,((i+1:Nat):Int),()))else
     (bif decide ((2:Int)≤(((S.drop i).length:Nat):Int))then(bif decide (((bs (S.drop i)).extract 0 2)=ByteArray.mk (List.toArray [47,47]))then
       (bif decide (jb 10 (S.drop i)<0)then some (.inr (.ret ((S.length:Nat):Int)))else some (.inl (bs S,IntKind.i64.wrap ((i:Int)+jb 10 (S.drop i)),())))else some (.inr (.ret (i:Int))))else some (.inr (.ret (i:Int))))):=by
     unfold JY;simp only[qe,zd,qq,hc,zh,w,qwm,ext,qD];rw[bdT (show(i:Int)<((S.length:Nat):Int) by omega),za (show(0:Int)≤(i:Int) by omega),za (show(i:Int)≤((S.length:Nat):Int) by omega),za (show((S.length:Nat):Int)≤((S.length:Nat):Int) by omega)];simp only[zZ,zg];cases qd0 c with
     | true=>rfl
     | false=>
      simp only[zm];by_cases h2:(2:Int)≤(((S.drop i).length:Nat):Int)
      · rw[za (show((2:Nat):Int)≤(((S.drop i).length:Nat):Int) from h2),za h2];rfl
      · rw[zk (show¬((2:Nat):Int)≤(((S.drop i).length:Nat):Int) from h2),zk h2];rfl
    cases hb:qd0 c with
    | true=>
     obtain⟨r,h1,h2⟩:=ih (d-1) (by omega) (i+1) (by omega) (by omega)
     refine⟨r,yZ (head.trans (by rw[hb];rfl)) h1,h2.trans ?_⟩
     rw[eR,sk,zA hb]
     congr 2;omega
    | false=>
     have hb' : ¬qd0 c=true:=by rw[hb];decide
     by_cases hr:c=47∧(S.drop (i+1)).head?=some 47
     · have ht:(S.drop i).take 2=[47,47]:=by rw[eR];exact(qpg _ _).2 hr
       have h2:(2:Int)≤(((S.drop i).length:Nat):Int):=by
        have:=congrArg List.length ht
        rw[zB]at this;simp only[zt,zU]at this;omega
       have es:sk false (S.drop i)=sk true (S.drop i):=by
        rw[eR];have e1:sk false (c::S.drop (i+1))=1+sk true (S.drop (i+1)):=by rw[sk,zx hb',zA hr]
        have e2:sk true (c::S.drop (i+1))=1+sk true (S.drop (i+1)):=by rw[sk,zx (by rw[hr.1];decide)]
        rw[e1,e2]
       have head2:JY (bs S,(i:Int),())=(bif decide (jb 10 (S.drop i)<0)then some (.inr (.ret ((S.length:Nat):Int)))else some (.inl (bs S,IntKind.i64.wrap ((i:Int)+jb 10 (S.drop i)),()))):=by
        rw[head,hb,zm,bdT h2,bdT (show(bs (S.drop i)).extract 0 2=ByteArray.mk (List.toArray [47,47]) by rw[jY,Kh];exact congrArg bs ht)]
       have lo:=Zt 10 (S.drop i)
       have hk:=qpf (S.drop i)
       by_cases hn:jb 10 (S.drop i)<0
       · refine⟨.ret ((S.length:Nat):Int),yK (head2.trans (by rw[bdT hn])),?_⟩
         rw[zA hn]at hk;show some ((S.length:Nat):Int)=_
         rw[es,hk,rl]
         congr 2;omega
       · rw[zx hn]at hk
         obtain⟨n,en⟩:=z8 (show 0≤jb 10 (S.drop i) by omega)
         rw[en]at hk head2 hn lo;have n0:n≠0:=fun e=>by
          subst e;rw[eR]at en;have e47:c=47:=hr.1
          subst e47;have:jb 10 (47::S.drop (i+1))=(bif decide (jb 10 (S.drop (i+1)) = -1)then -1 else jb 10 (S.drop (i+1))+1):=rfl
          rw[this,Jp]at en;have lo2:=Zt 10 (S.drop (i+1))
          split at en <;> omega
         have w2:IntKind.i64.wrap ((i:Int)+(n:Int))=((i+n:Nat):Int):=by rw[w64 (by omega) (by omega)];omega
         obtain⟨r,h1,h2⟩:=ih (d-n) (by omega) (i+n) (by omega) (by omega)
         refine⟨r,yZ (head2.trans (by rw[bdF hn,w2])) h1,h2.trans ?_⟩
         rw[es,hk];show some ((i+n+sk false (S.drop (i+n)):Nat):Int)=some ((i+(n+sk false ((S.drop i).drop n)):Nat):Int)
         rw[List.drop_drop]
         congr 2;omega
     · have es:sk false (S.drop i)=0:=by rw[eR,sk,zx hb',zx hr]
       refine⟨.ret (i:Int),yK (head.trans ?_),?_⟩
       · rw[hb,zm]
         have : ¬(bs (S.drop i)).extract 0 2=ByteArray.mk (List.toArray [47,47]):=fun e=>by
          rw[jY,Kh]at e;have:=yC.1 (e.trans (qQ [47,47]))
          rw[eR]at this;exact hr ((qpg _ _).1 this)
         rw[bdF this];exact qwn _ _
       · rw[es];rfl
theorem qph(p:ByteArray×Int)(y:Int)(hg:(dc cS (d1 (cI .i64))).good p)(h:JB p=some y):∃n,qkX n p.1 p.2=some y:=by
 obtain⟨s,i⟩:=p;clear hg;revert h;refine onB (P:=fun s=>JB (s,i)=some y→∃n,qkX n s i=some y) (fun S h=>?_) s
 obtain⟨h1,h2⟩:=qh h;have:=soi h2;subst this
 simp only[qD,zn,zL]at h1;obtain⟨⟨a1,a2⟩,a3⟩:=h1;have a3:=zo a3;obtain⟨k,rfl⟩:=z8 a1;have a2:((k:Nat):Int)≤((S.length:Nat):Int):=Ko a2
 obtain⟨r,⟨n,hn⟩,hr⟩:=qwo a3 _ k (by omega) (zE _)
 refine⟨n,?_⟩
 simp only[qD,zd];rw[← hr];unfold qkX;exact obs hn rfl
end
end Su
end
