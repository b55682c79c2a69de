/-
  What functions of the program compute, in plain Lean, and that the evaluator finds it.
-/
import Derived.Test.YtldhknmacepeiaaGreatDoorSuXl
import Derived.Test.YtldhknmacepeiaaGreatDoorNT15
set_option linter.unusedVariables false
set_option linter.unusedSimpArgs false
set_option maxRecDepth 10000
section
namespace Su
open Go Fly
noncomputable section
def jw:Stp (ByteArray×Int×Unit):=fun p0=>(bif(decide (p0.2.1<(ByteArray.size p0.1:Int)))then
 (bif(decide (0≤p0.2.1))then
 ((p0.1)[p0.2.1.toNat]?).bind fun x1=>
 (bif(decide (48≤(UInt8.toNat x1:Int)))then
 (bif(decide ((UInt8.toNat x1:Int)≤57))then
 some (.inl (p0.1,(IntKind.wrap .i64 (p0.2.1+1)),()))
 else
  some (.inr (p0.1,p0.2.1,())))
 else
  some (.inr (p0.1,p0.2.1,())))
 else none)
 else
  some (.inr (p0.1,p0.2.1,())))
def qp6  (fu:Nat)(s:ByteArray)(i:Int):Option (Int×Bool) :=
 (itP fu (jw) (s,i,())).bind fun x2=>
 (bif(((decide (0≤x2.2.1))&&(decide (x2.2.1≤(ByteArray.size s:Int))))&&(decide ((ByteArray.size s:Int)≤(ByteArray.size s:Int))))then
 (bif(List.isPrefixOf (lb (ByteArray.mk (List.toArray [46]))) (lb (ByteArray.extract s x2.2.1.toNat (Int.toNat (ByteArray.size s:Int)))))then
 (j4 (s,(IntKind.wrap .i64 (x2.2.1+1)))).bind fun x3=>
 (bif x3 then
 (itP fu (jw) (s,(IntKind.wrap .i64 (x2.2.1+1)),())).bind fun x6=>
 (bif(decide (x6.2.1<(ByteArray.size s:Int)))then
 (bif(decide (0≤x6.2.1))then
 ((s)[x6.2.1.toNat]?).bind fun x7=>
 (bif(decide ((Fly.qR Go.BinOp.or .u8 (UInt8.toNat x7:Int) 32)=101))then
 (bif(decide ((IntKind.wrap .i64 (x6.2.1+1))<(ByteArray.size s:Int)))then
 (bif(decide (0≤(IntKind.wrap .i64 (x6.2.1+1))))then
 ((s)[(Int.toNat (IntKind.wrap .i64 (x6.2.1+1)))]?).bind fun x8=>
 (bif(decide ((UInt8.toNat x8:Int)=43))then
 (j4 (s,(IntKind.wrap .i64 ((IntKind.wrap .i64 (x6.2.1+1))+1)))).bind fun x9=>
 (bif x9 then
 (itP fu (jw) (s,(IntKind.wrap .i64 ((IntKind.wrap .i64 (x6.2.1+1))+1)),())).bind fun x12=>
 some (x12.2.1,true)
 else
  some (x6.2.1,true))
 else
  (bif(decide (0≤(IntKind.wrap .i64 (x6.2.1+1))))then
  ((s)[(Int.toNat (IntKind.wrap .i64 (x6.2.1+1)))]?).bind fun x13=>
  (bif(decide ((UInt8.toNat x13:Int)=45))then
  (j4 (s,(IntKind.wrap .i64 ((IntKind.wrap .i64 (x6.2.1+1))+1)))).bind fun x14=>
  (bif x14 then
  (itP fu (jw) (s,(IntKind.wrap .i64 ((IntKind.wrap .i64 (x6.2.1+1))+1)),())).bind fun x17=>
  some (x17.2.1,true)
 else
  some (x6.2.1,true))
 else
  (j4 (s,(IntKind.wrap .i64 (x6.2.1+1)))).bind fun x18=>
  (bif x18 then
  (itP fu (jw) (s,(IntKind.wrap .i64 (x6.2.1+1)),())).bind fun x21=>
  some (x21.2.1,true)
 else
  some (x6.2.1,true)))
 else none))
 else none)
 else
  (j4 (s,(IntKind.wrap .i64 (x6.2.1+1)))).bind fun x22=>
  (bif x22 then
  (itP fu (jw) (s,(IntKind.wrap .i64 (x6.2.1+1)),())).bind fun x25=>
  some (x25.2.1,true)
 else
  some (x6.2.1,true)))
 else
  some (x6.2.1,true))
 else none)
 else
  some (x6.2.1,true))
 else
  (bif(decide (x2.2.1<(ByteArray.size s:Int)))then
  (bif(decide (0≤x2.2.1))then
  ((s)[x2.2.1.toNat]?).bind fun x26=>
  (bif(decide ((Fly.qR Go.BinOp.or .u8 (UInt8.toNat x26:Int) 32)=101))then
  (bif(decide ((IntKind.wrap .i64 (x2.2.1+1))<(ByteArray.size s:Int)))then
  (bif(decide (0≤(IntKind.wrap .i64 (x2.2.1+1))))then
  ((s)[(Int.toNat (IntKind.wrap .i64 (x2.2.1+1)))]?).bind fun x27=>
  (bif(decide ((UInt8.toNat x27:Int)=43))then
  (j4 (s,(IntKind.wrap .i64 ((IntKind.wrap .i64 (x2.2.1+1))+1)))).bind fun x28=>
  (bif x28 then
  (itP fu (jw) (s,(IntKind.wrap .i64 ((IntKind.wrap .i64 (x2.2.1+1))+1)),())).bind fun x31=>
  some (x31.2.1,true)
 else
  some (x2.2.1,false))
 else
  (bif(decide (0≤(IntKind.wrap .i64 (x2.2.1+1))))then
  ((s)[(Int.toNat (IntKind.wrap .i64 (x2.2.1+1)))]?).bind fun x32=>
  (bif(decide ((UInt8.toNat x32:Int)=45))then
  (j4 (s,(IntKind.wrap .i64 ((IntKind.wrap .i64 (x2.2.1+1))+1)))).bind fun x33=>
  (bif x33 then
  (itP fu (jw) (s,(IntKind.wrap .i64 ((IntKind.wrap .i64 (x2.2.1+1))+1)),())).bind fun x36=>
  some (x36.2.1,true)
 else
  some (x2.2.1,false))
 else
  (j4 (s,(IntKind.wrap .i64 (x2.2.1+1)))).bind fun x37=>
  (bif x37 then
  (itP fu (jw) (s,(IntKind.wrap .i64 (x2.2.1+1)),())).bind fun x40=>
  some (x40.2.1,true)
 else
  some (x2.2.1,false)))
 else none))
 else none)
 else
  (j4 (s,(IntKind.wrap .i64 (x2.2.1+1)))).bind fun x41=>
  (bif x41 then
  (itP fu (jw) (s,(IntKind.wrap .i64 (x2.2.1+1)),())).bind fun x44=>
  some (x44.2.1,true)
 else
  some (x2.2.1,false)))
 else
  some (x2.2.1,false))
 else none)
 else
  some (x2.2.1,false)))
 else
  (bif(decide (x2.2.1<(ByteArray.size s:Int)))then
  (bif(decide (0≤x2.2.1))then
  ((s)[x2.2.1.toNat]?).bind fun x45=>
  (bif(decide ((Fly.qR Go.BinOp.or .u8 (UInt8.toNat x45:Int) 32)=101))then
  (bif(decide ((IntKind.wrap .i64 (x2.2.1+1))<(ByteArray.size s:Int)))then
  (bif(decide (0≤(IntKind.wrap .i64 (x2.2.1+1))))then
  ((s)[(Int.toNat (IntKind.wrap .i64 (x2.2.1+1)))]?).bind fun x46=>
  (bif(decide ((UInt8.toNat x46:Int)=43))then
  (j4 (s,(IntKind.wrap .i64 ((IntKind.wrap .i64 (x2.2.1+1))+1)))).bind fun x47=>
  (bif x47 then
  (itP fu (jw) (s,(IntKind.wrap .i64 ((IntKind.wrap .i64 (x2.2.1+1))+1)),())).bind fun x50=>
  some (x50.2.1,true)
 else
  some (x2.2.1,false))
 else
  (bif(decide (0≤(IntKind.wrap .i64 (x2.2.1+1))))then
  ((s)[(Int.toNat (IntKind.wrap .i64 (x2.2.1+1)))]?).bind fun x51=>
  (bif(decide ((UInt8.toNat x51:Int)=45))then
  (j4 (s,(IntKind.wrap .i64 ((IntKind.wrap .i64 (x2.2.1+1))+1)))).bind fun x52=>
  (bif x52 then
  (itP fu (jw) (s,(IntKind.wrap .i64 ((IntKind.wrap .i64 (x2.2.1+1))+1)),())).bind fun x55=>
  some (x55.2.1,true)
 else
  some (x2.2.1,false))
 else
  (j4 (s,(IntKind.wrap .i64 (x2.2.1+1)))).bind fun x56=>
  (bif x56 then
  (itP fu (jw) (s,(IntKind.wrap .i64 (x2.2.1+1)),())).bind fun x59=>
  some (x59.2.1,true)
 else
  some (x2.2.1,false)))
 else none))
 else none)
 else
  (j4 (s,(IntKind.wrap .i64 (x2.2.1+1)))).bind fun x60=>
  (bif x60 then
  (itP fu (jw) (s,(IntKind.wrap .i64 (x2.2.1+1)),())).bind fun x63=>
  some (x63.2.1,true)
 else
  some (x2.2.1,false)))
 else
  some (x2.2.1,false))
 else none)
 else
  some (x2.2.1,false)))
 else none)
theorem qxT{S:List UInt8}(hS:S.length≤1000000):∀(d i:Nat),i+d=S.length→yK (d+1) jw (bs S,(i:Int),()) (bs S,((rn S i:Nat):Int),()):=fun d=>by
 induction d with
 | zero=>
  intro i hi;have e:rn S i=i:=by unfold rn;rw[qbu fun c h=>by rw[z7 (by omega)]at h;cases h];rfl
  rw[e];refine yK.stop ?_
  unfold jw;simp only[qe];rw[zk (by omega)];rfl
 | succ d ih=>
  intro i hi;obtain⟨c,hc⟩:∃c,S[i]?=some c:=⟨_,zt (by omega)⟩
  have w:IntKind.i64.wrap ((i:Int)+1)=((i+1:Nat):Int):=by rw[w64 (by omega) (by omega)];omega
  cases hd:isD c with
  | true=>
   have e:rn S i=rn S (i+1):=by unfold rn;rw[qbt hc hd,zu];omega
   have hcc:=jY.1 hd;rw[e];refine yK.next ?_ (ih (i+1) (by omega))
   unfold jw;simp only[qe,zd,qq,hc,zh,w];rw[zb (by omega),zb (by omega),zb (by omega),zb (by omega)];rfl
  | false=>
   have e:rn S i=i:=by unfold rn;rw[qbu fun c' h=>by rw[hc]at h;cases h;exact hd];rfl
   have hcc : ¬(48≤c.toNat∧c.toNat≤57):=fun h=>by rw[jY.2 h]at hd;cases hd
   rw[e];refine(yK.stop (K:=d+1) ?_)
   unfold jw;simp only[qe,zd,qq,hc,zh];rw[zb (by omega),zb (by omega)];by_cases h1:48≤c.toNat
   · rw[zb (show(48:Int)≤((c.toNat:Nat):Int) by omega),zk (show¬((c.toNat:Nat):Int)≤57 by omega)];rfl
   · rw[zk (show¬(48:Int)≤((c.toNat:Nat):Int) by omega)];rfl
def exK(S:List UInt8)(j:Nat):Nat:=if S[j+1]?=some 43∨S[j+1]?=some 45 then j+2 else j+1
def numE(S:List UInt8)(j:Nat)(fl:Bool):Nat×Bool :=
 if(S[j]?=some 101∨S[j]?=some 69)∧qbv S (exK S j)=true then(rn S (exK S j),true)else(j,fl)
def yo(S:List UInt8)(i:Nat):Nat×Bool :=
 if S[rn S i]?=some 46∧qbv S (rn S i+1)=true then numE S (rn S (rn S i+1)) true else numE S (rn S i) false
theorem qxU:(List.range 256).all (fun k=>decide (Fly.qR Go.BinOp.or .u8 ((k:Nat):Int) 32=101) == (Nat.beq k 101||Nat.beq k 69))=true:=by decide +kernel
theorem qvN{a b:Nat}(h:a≠b):Nat.beq a b=false:=by cases hb:Nat.beq a b with | false=>rfl | true=>exact absurd (zf hb) h
theorem or_e(c:UInt8):decide (Fly.qR Go.BinOp.or .u8 ((c.toNat:Nat):Int) 32=101)=decide (c=101∨c=69):=by
 have hlt:=c.toNat_lt;have h:=eq_of_beq (Ke.1 qxU c.toNat (Wv.2 (by omega)))
 rw[h];by_cases h1:c=101
 · subst h1;rfl
 · by_cases h2:c=69
   · subst h2;rfl
   · rw[zk (by rintro(h | h);exact h1 h;exact h2 h),qvN (show c.toNat≠101 from fun e=>h1 (Wl.1 e)),qvN (show c.toNat≠69 from fun e=>h2 (Wl.1 e))];rfl
def qiw(fu:Nat)(s:ByteArray)(j:Int)(fl:Bool):Option (Int×Bool) :=
 (bif(decide (j<(ByteArray.size s:Int)))then
 (bif(decide (0≤j))then
 ((s)[j.toNat]?).bind fun x26=>
 (bif(decide ((Fly.qR Go.BinOp.or .u8 (UInt8.toNat x26:Int) 32)=101))then
 (bif(decide ((IntKind.wrap .i64 (j+1))<(ByteArray.size s:Int)))then
 (bif(decide (0≤(IntKind.wrap .i64 (j+1))))then
 ((s)[(Int.toNat (IntKind.wrap .i64 (j+1)))]?).bind fun x27=>
 (bif(decide ((UInt8.toNat x27:Int)=43))then
 (j4 (s,(IntKind.wrap .i64 ((IntKind.wrap .i64 (j+1))+1)))).bind fun x28=>
 (bif x28 then
 (itP fu (jw) (s,(IntKind.wrap .i64 ((IntKind.wrap .i64 (j+1))+1)),())).bind fun x31=>
 some (x31.2.1,true)
 else
  some (j,fl))
 else
  (bif(decide (0≤(IntKind.wrap .i64 (j+1))))then
  ((s)[(Int.toNat (IntKind.wrap .i64 (j+1)))]?).bind fun x32=>
  (bif(decide ((UInt8.toNat x32:Int)=45))then
  (j4 (s,(IntKind.wrap .i64 ((IntKind.wrap .i64 (j+1))+1)))).bind fun x33=>
  (bif x33 then
  (itP fu (jw) (s,(IntKind.wrap .i64 ((IntKind.wrap .i64 (j+1))+1)),())).bind fun x36=>
  some (x36.2.1,true)
 else
  some (j,fl))
 else
  (j4 (s,(IntKind.wrap .i64 (j+1)))).bind fun x37=>
  (bif x37 then
  (itP fu (jw) (s,(IntKind.wrap .i64 (j+1)),())).bind fun x40=>
  some (x40.2.1,true)
 else
  some (j,fl)))
 else none))
 else none)
 else
  (j4 (s,(IntKind.wrap .i64 (j+1)))).bind fun x41=>
  (bif x41 then
  (itP fu (jw) (s,(IntKind.wrap .i64 (j+1)),())).bind fun x44=>
  some (x44.2.1,true)
 else
  some (j,fl)))
 else
  some (j,fl))
 else none)
 else
  some (j,fl))
theorem qvO(S:List UInt8)(k:Nat):j4 (bs S,((k:Nat):Int))=some (qbv S k):=by
 unfold j4;show(bif decide ((0:Int)≤((k:Nat):Int))then _ else _)=_
 rw[zb (by omega)];rfl
theorem qdd{S:List UInt8}{k:Nat}(h:qbv S k=true):k<S.length:=by
 unfold qbv at h;cases hc:S[k]? with
 | none=>rw[hc]at h;cases h
 | some c=>exact yw hc
theorem qjS{S:List UInt8}(hS:S.length≤1000000){j:Nat}(hj:j≤S.length)(fl:Bool):qiw 2000000 (bs S) (j:Int) fl=some (((numE S j fl).1:Int),(numE S j fl).2):=by
 have w1:IntKind.i64.wrap ((j:Int)+1)=((j+1:Nat):Int):=by rw[w64 (by omega) (by omega)];omega
 have w2:IntKind.i64.wrap (((j+1:Nat):Int)+1)=((j+2:Nat):Int):=by rw[w64 (by omega) (by omega)];omega
 have fin:∀k:Nat,exK S j=k→(S[j]?=some 101∨S[j]?=some 69)→((j4 (bs S,((k:Nat):Int))).bind fun x=>(bif x then(itP 2000000 jw (bs S,((k:Nat):Int),())).bind fun y=>some (y.2.1,true)else some ((j:Int),fl)))=some (((numE S j fl).1:Int),(numE S j fl).2):=fun k hk he=>by
  refine obs (qvO S k) ?_
  unfold numE;rw[hk];cases hd:qbv S k with
  | false=>rw[zw (fun h=>by cases h.2)];rfl
  | true=>
   rw[zA ⟨he,rfl⟩];have hl:=qdd hd;have hr:=qxT hS (S.length-k) k (by omega)
   exact obs (hr 2000000 (by omega)) rfl
 have no : ¬(S[j]?=some 101∨S[j]?=some 69)→numE S j fl=(j,fl):=fun h=>by unfold numE;rw[zw (fun e=>h e.1)]
 unfold qiw;simp only[w1,w2,qe,zd,qq];by_cases hl:j<S.length
 · obtain⟨c,hc⟩:∃c,S[j]?=some c:=⟨_,zt hl⟩
   rw[bdT (by omega),bdT (by omega),hc,zh,or_e];by_cases he:c=101∨c=69
   · rw[bdT he]
     have he':S[j]?=some 101∨S[j]?=some 69:=by rw[hc];rcases he with rfl | rfl;exact .inl rfl;exact .inr rfl
     by_cases hl2:j+1<S.length
     · obtain⟨d,hd⟩:∃d,S[j+1]?=some d:=⟨_,zt hl2⟩
       rw[bdT (by omega),bdT (by omega),hd,zh];by_cases h43:d=43
       · subst h43
         rw[bdT (by rfl)];exact fin (j+2) (by unfold exK;rw[hd,zA (.inl rfl)]) he'
       · rw[bdF (fun e=>h43 (Wl.1 (show d.toNat=43 by omega))),bdT (by omega),zh]
         by_cases h45:d=45
         · subst h45
           rw[bdT (by rfl)];exact fin (j+2) (by unfold exK;rw[hd,zA (.inr rfl)]) he'
         · rw[bdF (fun e=>h45 (Wl.1 (show d.toNat=45 by omega)))]
           refine fin (j+1) ?_ he'
           unfold exK;rw[hd,zw (by rintro(h | h);exact h43 (KR h);exact h45 (KR h))]
     · rw[bdF (by omega)]
       refine fin (j+1) ?_ he'
       unfold exK;rw[z7 (show S.length≤j+1 by omega),zw (by rintro(h | h) <;> cases h)]
   · rw[bdF he,no (by rw[hc];rintro(h | h);exact he (.inl (KR h));exact he (.inr (KR h)))]
 · rw[bdF (by omega),no (by rw[z7 (show S.length≤j by omega)];rintro(h | h) <;> cases h)]
def qca(p:ByteArray×Int):Option (Int×Bool):=bif(decide (0≤p.2)&&decide (p.2≤((lb p.1).length:Int)))&&Nat.ble (lb p.1).length 1000000 then some (((yo (lb p.1) p.2.toNat).1:Int),(yo (lb p.1) p.2.toNat).2)else none
theorem qz4(S:List UInt8)(a:Nat):List.isPrefixOf [46] (S.drop a)=decide (S[a]?=some 46):=by
 by_cases h:a<S.length
 · rw[zY h,zt h]
   show((46:UInt8) == S[a]&&List.isPrefixOf [] (S.drop (a+1)))=_
   by_cases e:S[a]=46
   · rw[e];rfl
   · have hb:((46:UInt8) == S[a])=false:=by simpa using fun e'=>e e'.symm
     rw[hb,zk (fun h=>e (KR h))];rfl
 · rw[Wy (by omega),z7 (by omega)];rfl
theorem quh(p:ByteArray×Int)(y:Int×Bool)(hg:(dc cS (d1 (cI .i64))).good p)(h:qca p=some y):∃n,qp6 n p.1 p.2=some y:=by
 obtain⟨s,i⟩:=p;clear hg;refine⟨2000000,?_⟩
 revert h;refine onB (P:=fun s=>qca (s,i)=some y→qp6 2000000 s i=some y) (fun S h=>?_) s
 obtain⟨h1,h2⟩:=qh h;have:=soi h2;subst this
 simp only[zn]at h1;obtain⟨⟨a1,a2⟩,a3⟩:=h1;have a3:S.length≤1000000:=zo a3
 have a1:=Ko a1;obtain⟨k,rfl⟩:=Kp a1;have a2:((k:Nat):Int)≤((S.length:Nat):Int):=Ko a2
 clear h h2 a1;show qp6 2000000 (bs S) ((k:Nat):Int)=some (((yo S k).1:Int),(yo S k).2)
 have hr:=jQ (S:=S) (i:=k) (by omega)
 have ge:=Qr S k;have e:qp6 2000000 (bs S) ((k:Nat):Int)=((itP 2000000 jw (bs S,((k:Nat):Int),())).bind fun x2=>
  (bif(((decide (0≤x2.2.1))&&(decide (x2.2.1≤((bs S).size:Int))))&&(decide (((bs S).size:Int)≤((bs S).size:Int))))then
    (bif(List.isPrefixOf (lb (ByteArray.mk (List.toArray [46]))) (lb ((bs S).extract x2.2.1.toNat (Int.toNat ((bs S).size:Int)))))then
      ((j4 (bs S,IntKind.i64.wrap (x2.2.1+1))).bind fun x3=>(bif x3 then(itP 2000000 jw (bs S,IntKind.i64.wrap (x2.2.1+1),())).bind (fun x6=>qiw 2000000 (bs S) x6.2.1 true)else qiw 2000000 (bs S) x2.2.1 false))
      else qiw 2000000 (bs S) x2.2.1 false)else none)):=rfl
 rw[e];refine obs (qxT a3 (S.length-k) k (by omega) 2000000 (by omega)) ?_
 have w1:IntKind.i64.wrap (((rn S k:Nat):Int)+1)=((rn S k+1:Nat):Int):=by rw[w64 (by omega) (by omega)];omega
 have ext:(bs S).extract (rn S k) S.length=bs (S.drop (rn S k)):=by
  rw[yz,zJ (by rw[zV];omega)]
 simp only[qe,zd,w1,ext,qU,qC,qz4];rw[zb (show(0:Int)≤((rn S k:Nat):Int) by omega),zb (show((rn S k:Nat):Int)≤((S.length:Nat):Int) by omega),zb (show((S.length:Nat):Int)≤((S.length:Nat):Int) by omega)];simp only[Kw,zg];unfold yo;by_cases h46:S[rn S k]?=some 46
 · rw[bdT h46]
   refine obs (qvO S _) ?_
   cases hd:qbv S (rn S k+1)with
   | false=>
    rw[zw (fun h=>by cases h.2)];exact qjS a3 hr false
   | true=>
    rw[zA ⟨h46,rfl⟩];have hl:=qdd hd;have hr2:=jQ (S:=S) (i:=rn S k+1) (by omega)
    exact obs (qxT a3 (S.length-(rn S k+1)) (rn S k+1) (by omega) 2000000 (by omega)) (qjS a3 hr2 true)
 · rw[bdF h46,zw (fun h=>h46 h.1)]
   exact qjS a3 hr false
end
end Su
end
section
namespace Su
open Go Fly
noncomputable section
def qui:Stp (ByteArray×Int×Unit):=fun p2=>(bif(decide (p2.2.1<(ByteArray.size p2.1:Int)))then
 (bif(decide (0≤p2.2.1))then
 ((p2.1)[p2.2.1.toNat]?).bind fun x3=>
 (YJ (UInt8.toNat x3:Int)).bind fun x4=>
 (bif x4 then
 some (.inl (p2.1,(IntKind.wrap .i64 (p2.2.1+1)),()))
 else
  (bif(decide (48≤(UInt8.toNat x3:Int)))then
  (bif(decide ((UInt8.toNat x3:Int)≤57))then
  some (.inl (p2.1,(IntKind.wrap .i64 (p2.2.1+1)),()))
 else
  some (.inr (p2.1,p2.2.1,())))
 else
  some (.inr (p2.1,p2.2.1,()))))
 else none)
 else
  some (.inr (p2.1,p2.2.1,())))
def qg1(s:ByteArray)(i:Int) :=
 bif(((decide (0≤i))&&(decide (i≤(ByteArray.size s:Int))))&&(decide ((ByteArray.size s:Int)≤(ByteArray.size s:Int))))then
 (qaE (ByteArray.extract s i.toNat (Int.toNat (ByteArray.size s:Int)))).bind fun x8=>
 (bif(decide (x8=(ByteArray.mk (List.toArray []))))then
 some (((5:Int),i,x8,(0:Int),(0:Int)),i,(90:Int))
 else
  some (((5:Int),i,x8,(0:Int),(0:Int)),(IntKind.wrap .i64 (i+(ByteArray.size x8:Int))),(0:Int)))
 else
  none
def qp7  (fu:Nat)(s:ByteArray)(i:Int):Option ((Int×Int×ByteArray×Int×Int)×Int×Int) :=
 (bif(decide (0≤i))then
 ((s)[i.toNat]?).bind fun x0=>
 (YJ (UInt8.toNat x0:Int)).bind fun x1=>
 (bif x1 then
 (itP fu (qui) (s,i,())).bind fun x5=>
 none
 else
  (bif(decide (48≤(UInt8.toNat x0:Int)))then
  (bif(decide ((UInt8.toNat x0:Int)≤57))then
  (qca (s,i)).bind fun x6=>
  (bif(((decide (0≤i))&&(decide (i≤x6.1)))&&(decide (x6.1≤(ByteArray.size s:Int))))then
  (qb9 (((0:Int),i,(ByteArray.empty),(0:Int),(0:Int)),(ByteArray.extract s i.toNat x6.1.toNat),x6.2)).bind fun x7=>
  some (x7.1,x6.1,x7.2)
 else none)
 else
  (qg1 s i))
 else
  (qg1 s i)))
 else none)
def qbw:Stp (ByteArray×Int×Unit):=fun p0=>(bif(decide (p0.2.1<(ByteArray.size p0.1:Int)))then
 (bif(decide (0≤p0.2.1))then
 ((p0.1)[p0.2.1.toNat]?).bind fun x1=>
 (YJ (UInt8.toNat x1:Int)).bind fun x2=>
 (bif x2 then
 some (.inl (p0.1,(IntKind.wrap .i64 (p0.2.1+1)),()))
 else
  (bif(decide (48≤(UInt8.toNat x1:Int)))then
  (bif(decide ((UInt8.toNat x1:Int)≤57))then
  some (.inl (p0.1,(IntKind.wrap .i64 (p0.2.1+1)),()))
 else
  some (.inr (p0.1,p0.2.1,())))
 else
  some (.inr (p0.1,p0.2.1,()))))
 else none)
 else
  some (.inr (p0.1,p0.2.1,())))
def quj  (fu:Nat)(s:ByteArray)(i:Int)(u:Unit):Option Int :=
 (itP fu (qbw) (s,i,())).bind fun x3=>
 some x3.2.1
def spI(S:List UInt8)(i:Nat):Nat:=i+((S.drop i).takeWhile Qt).length
theorem qlB{S:List UInt8}{i:Nat}{c:UInt8}(h:S[i]?=some c)(hc:Qt c=true):spI S i=spI S (i+1):=by
 obtain⟨hi,e⟩:=zr.1 h
 unfold spI;rw[zY hi,e,VL,hc];simp only[if_true,zu];omega
theorem qp8{S:List UInt8}{i:Nat}(h:∀c,S[i]?=some c→Qt c=false):spI S i=i:=by
 unfold spI;by_cases hi:i<S.length
 · rw[zY hi,VL,h _ (zt hi)];rfl
 · rw[Wy (by omega)];rfl
theorem qcb{S:List UInt8}{i:Nat}(h:i≤S.length):spI S i≤S.length:=by
 have:((S.drop i).takeWhile Qt).length≤(S.drop i).length:=WB (List.takeWhile_sublist _)
 rw[zV]at this;unfold spI;omega
theorem qlC(c:UInt8):YJ ((c.toNat:Nat):Int)=some (j9 c):=by
 have:=c.toNat_lt
 unfold YJ;rw[zb (by omega),zb (by omega),zd,zy];rfl
theorem sRun{S:List UInt8}(hS:S.length≤1000000):∀(d i:Nat),i+d=S.length→yK (d+1) qbw (bs S,(i:Int),()) (bs S,((spI S i:Nat):Int),()):=fun d=>by
 induction d with
 | zero=>
  intro i hi;rw[qp8 fun c h=>by rw[z7 (by omega)]at h;cases h];refine yK.stop ?_
  unfold qbw;simp only[qe];rw[zk (by omega)];rfl
 | succ d ih=>
  intro i hi;obtain⟨c,hc⟩:∃c,S[i]?=some c:=⟨_,zt (by omega)⟩
  have w:IntKind.i64.wrap ((i:Int)+1)=((i+1:Nat):Int):=by rw[w64 (by omega) (by omega)];omega
  have head:qbw (bs S,(i:Int),())=bif Qt c then some (.inl (bs S,((i+1:Nat):Int),()))else some (.inr (bs S,(i:Int),())):=by
   unfold qbw;simp only[qe,zd,qq,hc,zh,w,qlC];rw[bdT (by omega),bdT (by omega)];unfold Qt isD;cases j9 c with
   | true=>rfl
   | false=>
    rw[zm,Wp];by_cases h1:48≤c.toNat
    · rw[bdT (by omega),zp h1,Kw]
      by_cases h2:c.toNat≤57
      · rw[bdT (by omega),zp h2];rfl
      · rw[bdF (by omega)]
        cases h:Nat.ble c.toNat 57 with
        | false=>rfl
        | true=>exact absurd (zo h) h2
    · rw[bdF (by omega)]
      cases h:Nat.ble 48 c.toNat with
      | false=>rfl
      | true=>exact absurd (zo h) h1
  cases hd:Qt c with
  | true=>
   rw[qlB hc hd];exact yK.next (head.trans (by rw[hd];rfl)) (ih (i+1) (by omega))
  | false=>
   rw[qp8 fun c' h=>by rw[hc]at h;cases h;exact hd];exact yK.stop (K:=d+1) (head.trans (by rw[hd];rfl))
def qg2(p:ByteArray×Int×Unit):Option Int:=bif(decide (0≤p.2.1)&&decide (p.2.1≤((lb p.1).length:Int)))&&Nat.ble (lb p.1).length 1000000 then some ((spI (lb p.1) p.2.1.toNat:Nat):Int)else none
theorem quk(p:ByteArray×Int×Unit)(y:Int)(hg:(dc cS (dc (cI .i64) (d1 (cF 76)))).good p)(h:qg2 p=some y):∃n,quj n p.1 p.2.1 p.2.2=some y:=by
 obtain⟨s,i,u⟩:=p;clear hg;refine⟨2000000,?_⟩
 revert h;refine onB (P:=fun s=>qg2 (s,i,u)=some y→quj 2000000 s i u=some y) (fun S h=>?_) s
 obtain⟨h1,h2⟩:=qh h;have:=soi h2;subst this
 simp only[zn]at h1;obtain⟨⟨a1,a2⟩,a3⟩:=h1;have a3:S.length≤1000000:=zo a3
 have a1:=Ko a1;obtain⟨k,rfl⟩:=Kp a1;have a2:((k:Nat):Int)≤((S.length:Nat):Int):=Ko a2
 unfold quj;exact obs (sRun a3 (S.length-k) k (by omega) 2000000 (by omega)) rfl
noncomputable def qcc(t:Tk)(l:List UInt8)(fl:Bool):Tk×Int :=
 if 400<l.length then(t,91)else
 if fl=true then(if(yX l).2=0 then((3,t.2.1,t.2.2.1,t.2.2.2.1,(yX l).1),0)else(t,93))else
 if 2147483647<dv l then(t,92)else((2,t.2.1,t.2.2.1,((dv l:Nat):Int),t.2.2.2.2),0)
theorem qz5{t:Tk}{l:List UInt8}{fl:Bool}(h:fl=true∨l≠[]∧∀c∈l,isD c=true):qb9 (t,bs l,fl)=some (qcc t l fl):=by
 unfold qb9 qcc;simp only[qe,qC];have blt:∀a b:Nat,Nat.blt a b=decide (a<b):=fun a b=>by
  by_cases h:a<b
  · rw[zb h,Vp];exact h
  · rw[zk h]
    cases hb:Nat.blt a b with
    | false=>rfl
    | true=>rw[Vp]at hb;exact absurd hb h
 rw[blt,blt,Qe];by_cases h1:400<l.length
 · rw[zA h1,zA h1]
 · rw[zw h1,zw h1]
   cases fl with
   | true=>
    rw[zg,zA rfl];by_cases h2:(yX l).2=0
    · rw[zA h2];exact bdT h2 _ _
    · rw[zw h2];exact bdF h2 _ _
   | false=>
    obtain⟨n0,hd⟩:=h.resolve_left (by decide)
    have e0:l.isEmpty=false:=by cases l with | nil=>exact absurd rfl n0 | cons c r=>rfl
    rw[zm,e0,Ke.2 hd,zw (by decide),Qe];show(if 2147483647<dv l then _ else _)=_
    by_cases h2:2147483647<dv l
    · rw[zA h2,zA h2]
    · rw[zw h2,zw h2]
noncomputable def yg(S:List UInt8)(i:Nat):Tk×(Int×Int) :=
 if(S[i]?).any j9=true then
  ((bif YI ((S.drop i).take (spI S i-i))then 4 else 1,(i:Int),bs ((S.drop i).take (spI S i-i)),0,0),((spI S i:Nat):Int),if 32<spI S i-i then 91 else 0)
 else if(S[i]?).any isD=true then
  ((qcc (0,(i:Int),bs [],0,0) ((S.drop i).take ((yo S i).1-i)) (yo S i).2).1,(((yo S i).1:Nat):Int),(qcc (0,(i:Int),bs [],0,0) ((S.drop i).take ((yo S i).1-i)) (yo S i).2).2)
 else if QK (S.drop i)=[]then((5,(i:Int),bs [],0,0),(i:Int),90)
 else((5,(i:Int),bs (QK (S.drop i)),0,0),((i+(QK (S.drop i)).length:Nat):Int),0)
noncomputable def Jc(p:ByteArray×Int):Option (Tk×Int×Int):=bif(decide (0≤p.2)&&decide (p.2<((lb p.1).length:Int)))&&Nat.ble (lb p.1).length 1000000 then some (yg (lb p.1) p.2.toNat)else none
noncomputable def qg3(p:ByteArray×Int):Option (Tk×Int×Int):=bif((lb p.1)[p.2.toNat]?).any j9 then none else Jc p
theorem ZX(S:List UInt8)(j:Nat)(fl:Bool):j≤(numE S j fl).1∧(fl=true→(numE S j fl).2=true)∧((numE S j fl).2=false→(numE S j fl).1=j):=by
 unfold numE;split
 · have:=Qr S (exK S j)
   unfold exK at *
   refine⟨?_,fun _=>rfl,fun h=>by cases h⟩
   show j≤rn S _
   split at this <;> (simp only[*,if_true,WQ]at *;omega)
 · exact⟨zI _,fun h=>h,fun _=>rfl⟩
theorem qp9{S:List UInt8}{i:Nat}(h:(yo S i).2=false):(yo S i).1=rn S i:=by
 unfold yo at h ⊢
 split
 · rename_i hc
   rw[zA hc]at h;rw[(ZX S _ true).2.1 rfl]at h;cases h
 · rename_i hc
   rw[zw hc]at h;exact(ZX S _ false).2.2 h
theorem qlD{S:List UInt8}{j:Nat}{fl:Bool}(hj:j≤S.length):(numE S j fl).1≤S.length:=by
 unfold numE;split
 · rename_i h
   exact jQ (Vg (qdd h.2))
 · exact hj
theorem qqa{S:List UInt8}{i:Nat}(hi:i≤S.length):i≤(yo S i).1∧(yo S i).1≤S.length:=by
 have h1:=Qr S i;have h2:=jQ hi;unfold yo;split
 · rename_i h
   have h3:=qdd h.2;have h4:=Qr S (rn S i+1)
   have h5:=ZX S (rn S (rn S i+1)) true
   exact⟨by omega,qlD (jQ (by omega))⟩
 · have h5:=ZX S (rn S i) false
   exact⟨by omega,qlD h2⟩
theorem qul(S:List UInt8)(i:Nat):(S.drop i).take (rn S i-i)=rnL S i:=by
 unfold rn;rw[Vk];have h:rnL S i <+: S.drop i:=List.takeWhile_prefix _
 exact(VX.1 h).symm
theorem qum(p:ByteArray×Int)(y:Tk×Int×Int)(hg:(dc cS (d1 (cI .i64))).good p)(h:qg3 p=some y):∃n,qp7 n p.1 p.2=some y:=by
 obtain⟨s,i⟩:=p;clear hg;refine⟨2000000,?_⟩
 revert h;refine onB (P:=fun s=>qg3 (s,i)=some y→qp7 2000000 s i=some y) (fun S h=>?_) s
 have nl:((S[i.toNat]?).any j9)=false:=by
  cases hb:(S[i.toNat]?).any j9 with
  | false=>rfl
  | true=>
   have h:(bif(S[i.toNat]?).any j9 then none else Jc (bs S,i))=some y:=h
   rw[hb]at h;cases h
 have h:Jc (bs S,i)=some y:=by
  have h:(bif(S[i.toNat]?).any j9 then none else Jc (bs S,i))=some y:=h
  rw[nl]at h;exact h
 obtain⟨h1,h2⟩:=qh h;have:=soi h2;subst this
 simp only[zn]at h1;obtain⟨⟨a1,a2⟩,a3⟩:=h1;have a3:S.length≤1000000:=zo a3
 have a1:=Ko a1;obtain⟨k,rfl⟩:=Kp a1;have a2:((k:Nat):Int)<((S.length:Nat):Int):=Ko a2
 clear h h2 a1;rw[zd]at nl;show qp7 2000000 (bs S) ((k:Nat):Int)=some (yg S k)
 obtain⟨c,hc⟩:∃c,S[k]?=some c:=⟨_,zt (by omega)⟩
 have hcl:j9 c=false:=by rw[hc]at nl;exact nl
 have ext:(bs S).extract k S.length=bs (S.drop k):=by
  rw[yz,zJ (by rw[zV];omega)]
 have sg:∀K:ByteArray→Option (Tk×Int×Int),((qaE (bs (S.drop k))).bind K)=K (bs (QK (S.drop k))):=fun K=>by
  refine obs ?_ rfl
  unfold qaE;rw[qC,zp (by rw[zV];omega)];rfl
 have sl:(QK (S.drop k)).length≤2:=by
  unfold QK;split
  · rw[zL];omega
  · split
    · rw[zL];omega
    · simp
 have w:IntKind.i64.wrap (((k:Nat):Int)+(((QK (S.drop k)).length:Nat):Int))=((k+(QK (S.drop k)).length:Nat):Int):=by rw[w64 (by omega) (by omega)];omega
 have sgn:isD c=false→(bif(((decide (0≤((k:Nat):Int)))&&(decide (((k:Nat):Int)≤((S.length:Nat):Int))))&&(decide (((S.length:Nat):Int)≤((S.length:Nat):Int))))then
  ((qaE (bs (S.drop k))).bind fun x8=>(bif(decide (x8=(ByteArray.mk (List.toArray []))))then some (((5:Int),((k:Nat):Int),x8,(0:Int),(0:Int)),((k:Nat):Int),(90:Int))else some (((5:Int),((k:Nat):Int),x8,(0:Int),(0:Int)),(IntKind.i64.wrap (((k:Nat):Int)+((x8).size:Int))),(0:Int))))else none)=some (yg S k):=fun hd=>by
  rw[zb (by omega),zb (by omega),zb (WI _),sg];simp only[Kw,zg,qjQ,qe,w];unfold yg;rw[zw (by rw[nl];decide),zw (by rw[hc];show¬isD c=true;rw[hd];decide)];by_cases e:QK (S.drop k)=[]
  · rw[zA e,bdT e,e]
  · rw[zw e,bdF e]
 unfold qp7 qg1;simp only[qe,zd,qq,hc,zh,qlC,hcl,ext,zm];rw[bdT (by omega)];by_cases h1:48≤c.toNat
 · rw[bdT (by omega)]
   by_cases h2:c.toNat≤57
   · rw[bdT (by omega)]
     have hd:isD c=true:=jY.2 ⟨h1,h2⟩
     have hn:qca (bs S,((k:Nat):Int))=some (((yo S k).1:Int),(yo S k).2):=by
      unfold qca;show(bif(decide ((0:Int)≤((k:Nat):Int))&&decide (((k:Nat):Int)≤((S.length:Nat):Int)))&&Nat.ble S.length 1000000 then _ else _)=_
      rw[zb (by omega),zb (by omega),zp a3];rfl
     obtain⟨n1,n2⟩:=qqa (S:=S) (i:=k) (by omega)
     refine obs hn ?_
     rw[zb (by omega),zb (show((k:Nat):Int)≤(((yo S k).1:Nat):Int) by omega),zb (show(((yo S k).1:Nat):Int)≤((S.length:Nat):Int) by omega)];simp only[Kw,zg,zd,yz];have hv:(yo S k).2=true∨(S.drop k).take ((yo S k).1-k)≠[]∧∀c∈(S.drop k).take ((yo S k).1-k),isD c=true:=by
      cases hb:(yo S k).2 with
      | true=>exact .inl rfl
      | false=>
       rw[qp9 hb,qul];refine .inr ⟨?_,qep S k⟩
       rw[qbt hc hd];simp
     refine obs (qz5 hv) ?_
     unfold yg;rw[zw (by rw[nl];decide),zA (by rw[hc];exact hd)];rfl
   · rw[bdF (by omega)]
     exact sgn (by cases hd:isD c with | false=>rfl | true=>exact absurd (jY.1 hd).2 h2)
 · rw[bdF (by omega)]
   exact sgn (by cases hd:isD c with | false=>rfl | true=>exact absurd (jY.1 hd).1 h1)
end
end Su
end
section
namespace Su
open Go Fly
noncomputable section
end
end Su
end
section
namespace Su
open Go Fly
noncomputable section
def ZY:(ByteArray×Nat×Int×(List T)×Unit)→Option ((ByteArray×Nat×Int×(List T)×Unit) ⊕ (Lp (ByteArray×Nat×Int×(List T)×Unit) ((List (Int×Int×ByteArray×Int×Int))×Int×Int))):=fun p1=>(bif(decide (p1.2.2.1<(ByteArray.size p1.1:Int)))then
 (Jc (p1.1,p1.2.2.1)).bind fun x2=>
 (bif(!(decide (x2.2.2=0)))then
 some (.inr (.ret ([],x2.2.2,p1.2.2.1)))
 else
  (bif((true&&(Nat.beq p1.2.1 p1.2.2.2.1.length))&&(Nat.ble (p1.2.2.2.1.length+(List.length [(T.agg [(T.s (.int .u8 x2.1.1)),(T.s (.int .i64 x2.1.2.1)),(T.s (.string x2.1.2.2.1)),(T.s (.int .i32 x2.1.2.2.2.1)),(T.s (.int .u64 x2.1.2.2.2.2))])])) 549755813888))then
  (JW (p1.1,x2.2.1)).bind fun x3=>
  some (.inl (p1.1,(List.length (p1.2.2.2.1++[(T.agg [(T.s (.int .u8 x2.1.1)),(T.s (.int .i64 x2.1.2.1)),(T.s (.string x2.1.2.2.1)),(T.s (.int .i32 x2.1.2.2.2.1)),(T.s (.int .u64 x2.1.2.2.2.2))])])),x3,(p1.2.2.2.1++[(T.agg [(T.s (.int .u8 x2.1.1)),(T.s (.int .i64 x2.1.2.1)),(T.s (.string x2.1.2.2.1)),(T.s (.int .i32 x2.1.2.2.2.1)),(T.s (.int .u64 x2.1.2.2.2.2))])]),()))
 else none))
 else
  some (.inr (.exit 0 (p1.1,p1.2.1,p1.2.2.1,p1.2.2.2.1,()))))
def qqb  (fu:Nat)(s:ByteArray):Option ((List (Int×Int×ByteArray×Int×Int))×Int×Int) :=
 (bif(decide (16384<(ByteArray.size s:Int)))then
 some ([],(91:Int),(0:Int))
 else
  (JW (s,(0:Int))).bind fun x0=>
  (itP fu (ZY) (s,0,x0,[],())).bind fun x4=>
  (match x4 with
 | .exit i5 p6=>(bif(Nat.beq i5 0)then
  (bif((true&&(Nat.beq p6.2.1 p6.2.2.2.1.length))&&(Nat.ble (p6.2.2.2.1.length+(List.length [(T.agg [(T.s (.int .u8 0)),(T.s (.int .i64 (ByteArray.size p6.1:Int))),(T.s (.string (ByteArray.empty))),(T.s (.int .i32 0)),(T.s (.int .u64 0))])])) 549755813888))then
  (Su.sub (p6.2.2.2.1++[(T.agg [(T.s (.int .u8 0)),(T.s (.int .i64 (ByteArray.size p6.1:Int))),(T.s (.string (ByteArray.empty))),(T.s (.int .i32 0)),(T.s (.int .u64 0))])]) 0 (List.length (p6.2.2.2.1++[(T.agg [(T.s (.int .u8 0)),(T.s (.int .i64 (ByteArray.size p6.1:Int))),(T.s (.string (ByteArray.empty))),(T.s (.int .i32 0)),(T.s (.int .u64 0))])]))).bind fun x7=>
  (unR (rTk) x7).bind fun x8=>
  some (x8,(0:Int),(0:Int))
 else none)
 else none)
 | .ret o9=>some o9))
noncomputable section
def vTk(t:Tk):T:=T.agg [T.s (.int .u8 t.1),T.s (.int .i64 t.2.1),T.s (.string t.2.2.1),T.s (.int .i32 t.2.2.2.1),T.s (.int .u64 t.2.2.2.2)]
theorem qxV(l:List Tk):unR rTk (l.map vTk)=some l:=qlz rTk l
theorem qz6(l:List T):sub l 0 l.length=some l:=JS l
def skE(S:List UInt8)(i:Nat):Nat:=i+sk false (S.drop i)
def J6(S:List UInt8):Tk:=(0,((S.length:Nat):Int),bs [],0,0)
def Q7(S:List UInt8):Nat→Nat→List Tk×(Int×Int)
 | 0,_=>([J6 S],0,0)
 | f+1,i=>if i<S.length then
  (if(yg S i).2.2=0 then(if(Q7 S f (skE S (yg S i).2.1.toNat)).2.1=0 then((yg S i).1::(Q7 S f (skE S (yg S i).2.1.toNat)).1,0,0)else([],(Q7 S f (skE S (yg S i).2.1.toNat)).2))else([],(yg S i).2.2,(i:Int)))else([J6 S],0,0)
def qeO(S:List UInt8):List Tk×(Int×Int):=if 16384<S.length then([],91,0)else Q7 S (S.length+1) (sk false S)
theorem qvP{S:List UInt8}{i:Nat}(h:i≤S.length):i≤skE S i∧skE S i≤S.length:=by
 have:=qiv false (S.drop i)
 rw[zV]at this;unfold skE;omega
theorem qqc{S:List UInt8}{i:Nat}(hi:i<S.length)(h:(yg S i).2.2=0):∃k:Nat,(yg S i).2.1=((k:Nat):Int)∧i<k∧k≤S.length:=by
 obtain⟨c,hc⟩:∃c,S[i]?=some c:=⟨_,zt hi⟩
 unfold yg at h ⊢
 by_cases h1:(S[i]?).any j9=true
 · rw[zA h1]
   have h2:Qt c=true:=by rw[hc]at h1;unfold Qt;rw[show j9 c=true from h1];rfl
   refine⟨_,rfl,?_,qcb (by omega)⟩
   rw[qlB hc h2];unfold spI;omega
 · rw[zw h1]at h ⊢
   by_cases h2:(S[i]?).any isD=true
   · rw[zA h2]
     refine⟨_,rfl,?_,(qqa (by omega)).2⟩
     have h3:isD c=true:=by rw[hc]at h2;exact h2
     have e:rn S i=rn S (i+1):=by unfold rn;rw[qbt hc h3,zu];omega
     have g1:=Qr S (i+1)
     show i<(yo S i).1
     unfold yo;split
     · have:=(ZX S (rn S (rn S i+1)) true).1
       have:=Qr S (rn S i+1)
       omega
     · have:=(ZX S (rn S i) false).1
       omega
   · rw[zw h2]at h ⊢
     by_cases h3:QK (S.drop i)=[]
     · rw[zA h3]at h
       have h:(90:Int)=0:=h
       omega
     · rw[zw h3]
       refine⟨_,rfl,?_,?_⟩
       · have:(QK (S.drop i)).length≠0:=fun e=>h3 (K8 e)
         omega
       · have:(QK (S.drop i)).length≤(S.drop i).length:=by
          unfold QK;split
          · rw[zL];omega
          · split
            · rw[zL];omega
            · simp
         rw[zV]at this;omega
def endX(r:Lp (ByteArray×Nat×Int×(List T)×Unit) ((List (Int×Int×ByteArray×Int×Int))×Int×Int)):Option (List Tk×Int×Int):=match r with
 | .exit i5 p6=>(bif(Nat.beq i5 0)then
  (bif((true&&(Nat.beq p6.2.1 p6.2.2.2.1.length))&&(Nat.ble (p6.2.2.2.1.length+(List.length [(T.agg [(T.s (.int .u8 0)),(T.s (.int .i64 (ByteArray.size p6.1:Int))),(T.s (.string (ByteArray.empty))),(T.s (.int .i32 0)),(T.s (.int .u64 0))])])) 549755813888))then
  (Su.sub (p6.2.2.2.1++[(T.agg [(T.s (.int .u8 0)),(T.s (.int .i64 (ByteArray.size p6.1:Int))),(T.s (.string (ByteArray.empty))),(T.s (.int .i32 0)),(T.s (.int .u64 0))])]) 0 (List.length (p6.2.2.2.1++[(T.agg [(T.s (.int .u8 0)),(T.s (.int .i64 (ByteArray.size p6.1:Int))),(T.s (.string (ByteArray.empty))),(T.s (.int .i32 0)),(T.s (.int .u64 0))])]))).bind fun x7=>
  (unR (rTk) x7).bind fun x8=>
  some (x8,(0:Int),(0:Int))
 else none)
 else none)
 | .ret o9=>some o9
theorem qz7{S:List UInt8}(hS:S.length≤16384){i:Nat}(hi:i<S.length):Jc (bs S,(i:Int))=some (yg S i):=by
 unfold Jc;show(bif(decide ((0:Int)≤(i:Int))&&decide ((i:Int)<((S.length:Nat):Int)))&&Nat.ble S.length 1000000 then _ else _)=_
 rw[zb (by omega),zb (by omega),zp (by omega)];rfl
theorem qqd{S:List UInt8}(hS:S.length≤16384){i:Nat}(hi:i≤S.length):JW (bs S,(i:Int))=some ((skE S i:Nat):Int):=by
 unfold JW;show(bif(decide ((0:Int)≤(i:Int))&&decide ((i:Int)≤((S.length:Nat):Int)))&&Nat.ble S.length 1000000 then _ else _)=_
 rw[zb (by omega),zb (by omega),zp (by omega)];rfl
def qm0(acc:List Tk)(q:List Tk×Int×Int):List Tk×(Int×Int):=if q.2.1=0 then(acc++q.1,0,0)else([],q.2)
theorem qxW{S:List UInt8}:∀(f i:Nat),(Q7 S f i).2.1=0→(Q7 S f i).2=(0,0)
 | 0,_,_=>rfl
 | f+1,i,h=>by
  unfold Q7 at h ⊢
  split
  · rename_i h1
    rw[zA h1]at h;split
    · rename_i h2
      rw[zA h2]at h;split
      · rfl
      · rename_i h3
        rw[zw h3]at h;exact absurd h h3
    · rename_i h2
      rw[zw h2]at h;exact absurd h h2
  · rfl
theorem qun{S:List UInt8}(hS:S.length≤16384):∀(f i:Nat) (acc:List Tk),i≤S.length→S.length<f+i→acc.length≤i →
 ∃r,(∃n,itP n ZY (bs S,(acc.map vTk).length,(i:Int),acc.map vTk,())=some r)∧endX r=some (qm0 acc (Q7 S f i)):=fun f=>by
 induction f with
 | zero=>intro i acc h1 h2;omega
 | succ f ih=>
  intro i acc h1 h2 h3;by_cases hi:i<S.length
  · have head:ZY (bs S,(acc.map vTk).length,(i:Int),acc.map vTk,())=(bif !(decide ((yg S i).2.2=0))then some (.inr (.ret ([],(yg S i).2.2,(i:Int))))else((JW (bs S,(yg S i).2.1)).bind fun x3=>some (.inl (bs S,((acc++[(yg S i).1]).map vTk).length,x3,(acc++[(yg S i).1]).map vTk,())))):=by
     unfold ZY;simp only[qe];rw[bdT (by omega)];refine obs (qz7 hS hi) ?_
     rw[show Nat.beq (acc.map vTk).length (acc.map vTk).length=true from Vh _,zp (by rw[zK];simp only[zu,zM];omega),Ks];rfl
    by_cases he:(yg S i).2.2=0
    · obtain⟨k,e1,e2,e3⟩:=qqc hi he
      obtain⟨g1,g2⟩:=qvP (S:=S) (i:=k) e3
      have head2:ZY (bs S,(acc.map vTk).length,(i:Int),acc.map vTk,())=some (.inl (bs S,((acc++[(yg S i).1]).map vTk).length,((skE S k:Nat):Int),(acc++[(yg S i).1]).map vTk,())):=by
       rw[head,bdN,bdT he,e1,qqd hS e3];rfl
      obtain⟨r,hr1,hr2⟩:=ih (skE S k) (acc++[(yg S i).1]) g2 (by omega) (by rw[zq,VA];omega)
      refine⟨r,Qj head2 hr1,hr2.trans ?_⟩
      congr 1
      rw[Q7,zA hi,zA he,e1,zd];unfold qm0;by_cases hq:(Q7 S f (skE S k)).2.1=0
      · rw[zA hq,zA hq,zA rfl]
        rw[zR];rfl
      · rw[zw hq,zw hq,zw hq]
    · refine⟨.ret ([],(yg S i).2.2,(i:Int)),yS (head.trans (by rw[bdN,bdF he])),?_⟩
      rw[Q7,zA hi,zw he];unfold qm0;rw[zw he];rfl
  · refine⟨.exit 0 (bs S,(acc.map vTk).length,(i:Int),acc.map vTk,()),yS ?_,?_⟩
    · unfold ZY
      simp only[qe];rw[bdF (by omega)]
    · rw[Q7,zw hi]
      unfold qm0;rw[zA rfl];have et:[(T.agg [(T.s (.int .u8 0)),(T.s (.int .i64 (ByteArray.size (bs S):Int))),(T.s (.string (ByteArray.empty))),(T.s (.int .i32 0)),(T.s (.int .u64 0))])]=[J6 S].map vTk:=by rw[qe];rfl
      unfold endX;simp only[et];rw[show Nat.beq 0 0=true from rfl,zg,show Nat.beq (acc.map vTk).length (acc.map vTk).length=true from Vh _,zp (by rw[zK];simp only[zK,zu,zM];omega),← Ks,qz6];refine obs (qxV _) rfl
def JK(s:ByteArray):Option (List Tk×Int×Int):=bif okS []then some (qeO (lb s))else none
theorem qjT(s:ByteArray):JK s=some (qeO (lb s)):=by unfold JK;rw[qly];rfl
theorem qup(s:ByteArray)(y:List Tk×Int×Int)(hg:(d1 cS).good s)(h:JK s=some y):∃n,qqb n s=some y:=by
 clear hg;rw[qjT]at h;revert h;refine onB (P:=fun s=>some (qeO (lb s))=some y→∃n,qqb n s=some y) (fun S h=>?_) s
 have:=soi h;subst this
 rw[qC];unfold qeO;by_cases hS:16384<S.length
 · refine⟨0,?_⟩
   unfold qqb;rw[zA hS,bdT (by rw[qe];omega)]
 · have hS':S.length≤16384:=by omega
   rw[zw hS];have g:=qvP (S:=S) (i:=0) (by omega)
   have e0:skE S 0=sk false S:=by unfold skE;rw[KM,zG]
   obtain⟨r,⟨n,hn⟩,hr⟩:=qun hS' (S.length+1) (skE S 0) [] g.2 (by omega) (by simp)
   refine⟨n,?_⟩
   have hz:qm0 [] (Q7 S (S.length+1) (skE S 0))=Q7 S (S.length+1) (skE S 0):=by
    unfold qm0;by_cases hq:(Q7 S (S.length+1) (skE S 0)).2.1=0
    · rw[zA hq,zH,← qxW _ _ hq]
    · rw[zw hq]
      have:∀f i,(Q7 S f i).2.1≠0→(Q7 S f i).1=[]:=by
       intro f;induction f with
       | zero=>intro i h;exact absurd rfl h
       | succ f ih=>
        intro i h;unfold Q7 at h ⊢
        split
        · rename_i h1
          rw[zA h1]at h;split
          · rename_i h2
            rw[zA h2]at h;split
            · rename_i h3
              rw[zA h3]at h;exact absurd rfl h
            · rfl
          · rfl
        · rename_i h1
          rw[zw h1]at h;exact absurd rfl h
      exact Prod.ext (this _ _ hq).symm rfl
   rw[← e0,← hz,← hr];unfold qqb;rw[bdF (by rw[qe];omega)];refine obs (qqd hS' (i:=0) (by omega)) ?_
   exact obs hn rfl
end
end
end Su
end
section
namespace Su
open Go Fly
noncomputable section
def qxX  (c:Int):Option Bool :=
 (YJ c).bind fun x0=>
 (bif x0 then
 some true
 else
  (bif(decide (48≤c))then
  some (decide (c≤57))
 else
  some false))
def qg4(c:Int):Option Bool:=bif decide (0≤c)&&decide (c<256)then some (Qt (UInt8.ofNat c.toNat))else none
theorem quq(c:Int)(y:Bool)(hg:(d1 (cI .u8)).good c)(h:qg4 c=some y):qxX c=some y:=by
 obtain⟨h1,h2⟩:=qh h;have:=soi h2;subst this
 simp only[zn,zO]at h1;obtain⟨k,rfl⟩:=Kp h1.1;have hk:(UInt8.ofNat k).toNat=k:=by rw[UInt8.toNat_ofNat'];omega
 have hl:YJ ((k:Nat):Int)=some (j9 (UInt8.ofNat k)):=by have:=qlC (UInt8.ofNat k);rwa [hk]at this
 rw[zd];unfold qxX;refine obs hl ?_
 unfold Qt isD;rw[hk];cases j9 (UInt8.ofNat k)with
 | true=>rfl
 | false=>
  simp only[zm,Wp];by_cases h1:48≤k
  · rw[bdT (by omega),zp h1,Kw]
    by_cases h2:k≤57
    · rw[zb (by omega),zp h2]
    · rw[zk (by omega)]
      cases h:Nat.ble k 57 with
      | false=>rfl
      | true=>exact absurd (zo h) h2
  · rw[bdF (by omega)]
    cases h:Nat.ble 48 k with
    | false=>rfl
    | true=>exact absurd (zo h) h1
theorem qz8(c:UInt8):qg4 ((c.toNat:Nat):Int)=some (Qt c):=by
 have:=c.toNat_lt
 unfold qg4;rw[zb (by omega),zb (by omega),zd,zy];rfl
end
end Su
end
section
namespace Su
open Go Fly
noncomputable section
end
end Su
end
section
namespace Su
open Go Fly
noncomputable section
def Low  (neg:Bool)(num:(List Int))(den:(List Int)):Option (Bool×(List Int)×List Int) :=
 (Len num).bind fun x0=>
 (bif(decide (x0=0))then
 some (false,[],(ofN 1))
 else
  (Len den).bind fun x1=>
  (bif(decide (x1=0))then
  some (false,[],(ofN 1))
 else
  (qim (num,den)).bind fun x2=>
  (YP (num,x2)).bind fun x3=>
  (YP (den,x2)).bind fun x4=>
  some (neg,x3.1,x4.1)))
abbrev Rt:=Bool×(List Int×List Int)
def qix(neg:Bool)(n d:Nat):Rt:=if n=0∨d=0 then(false,[],ofN 1)else(neg,ofN (n / Nat.gcd n d),ofN (d / Nat.gcd n d))
def lowL:{f:Bool→Nat→Nat→Rt // ∀b n d,f b n d=qix b n d}:=Classical.choice ⟨⟨_,fun _ _ _=>rfl⟩⟩
def qes(neg:Bool)(n d:Nat):Rt:=lowL.1 neg n d
theorem qg5(neg:Bool)(n d:Nat):qes neg n d=qix neg n d:=lowL.2 neg n d
def okL(a:List Int):Bool:=Nat.ble a.length 1000000
def qet(p:Bool×List Int×List Int):Option Rt:=bif okL p.2.1&&okL p.2.2 then some (qes p.1 (qa p.2.1) (qa p.2.2))else none
theorem qac(v:Nat):qf v=0↔v=0:=by
 constructor
 · intro h
   have:=jM.1 (Nat.le_of_eq h)
   simp at this;exact this
 · intro h;subst h;rfl
theorem qlE{a:List Int}(hw:Wd a)(h:a.length≤1000000):Len a=some (qf (qa a):Int):=by
 have hbl:qf (qa a)≤32*a.length:=jM.2 (by rw[← qbk];exact yN a hw)
 exact qc8 a (by omega)
theorem qvQ{a:List Int}{g:Nat}(h1:a.length≤1000000)(h2:(ofN g).length≤1000000)(hg:g≠0):YP (a,ofN g)=some (ofN (qa a / g),ofN (qa a % g),0):=by
 unfold YP;simp only[valN_ofN];rw[zp h1,zp h2,Ki,zg,zw hg]
theorem qxY(p:Bool×List Int×List Int)(y:Rt)(hg:(dc cB (dc (cQ 1 1) (d1 (cQ 1 1)))).good p)(h:qet p=some y):Low p.1 p.2.1 p.2.2=some y:=by
 obtain⟨neg,a,b⟩:=p;obtain⟨_,⟨ha,la⟩,hb,lb⟩:=hg;obtain⟨hm,h⟩:=qh h;have:=soi h;subst this
 rw[zn]at hm;have hwa:=Wd.of ha;have hwb:=Wd.of hb;have h1:a.length≤1000000:=zo hm.1
 have h2:b.length≤1000000:=zo hm.2
 show Low neg a b=some (qes neg (qa a) (qa b))
 rw[qg5];unfold Low qix;refine obB (qlE hwa h1) ?_
 by_cases ha0:qa a=0
 · rw[zA (.inl ha0),zb (by rw[ha0];rfl),zg]
 · have e1:qf (qa a)≠0:=fun e=>ha0 ((qac _).1 e)
   rw[zk (by omega),zm];refine obB (qlE hwb h2) ?_
   by_cases hb0:qa b=0
   · rw[zA (.inr hb0),zb (by rw[hb0];rfl),zg]
   · have e2:qf (qa b)≠0:=fun e=>hb0 ((qac _).1 e)
     rw[zk (by omega),zm,zw (by omega)];have hgl:Nat.gcd (qa a) (qa b)≤qa a:=Nat.gcd_le_left _ (Nat.pos_of_ne_zero ha0)
     have hg0:Nat.gcd (qa a) (qa b)≠0:=fun e=>ha0 (Nat.gcd_eq_zero_iff.1 e).1
     have hgn:(ofN (Nat.gcd (qa a) (qa b))).length≤1000000:=Kj (qil hgl) (Kj (yH a hwa) h1)
     have hs:qim (a,b)=some (ofN (Nat.gcd (qa a) (qa b))):=by
      unfold qim;simp only[];rw[zp h1,zp h2,Ki,zg]
     exact obB hs (obB (qvQ h1 hgn hg0) (obB (qvQ h2 hgn hg0) rfl))
end
end Su
end
section
namespace Su
open Go Fly
noncomputable section
def RLow  (a:(Bool×(List Int)×List Int)):Option (Bool×(List Int)×List Int) :=
 (qet a).bind fun x0=>
 some x0
def qxZ  (x:Int):Option (Bool×(List Int)×List Int) :=
 (bif(decide (x<0))then
 (qet (true,(ofN (qa [(IntKind.wrap .u32 (IntKind.wrap .u64 (0-(IntKind.wrap .u64 x)))),(IntKind.wrap .u32 (Int.fdiv (IntKind.wrap .u64 (0-(IntKind.wrap .u64 x))) (2^32)))])),(ofN 1))).bind fun x0=>
 some x0
 else
  (qet (false,(ofN (qa [(IntKind.wrap .u32 (IntKind.wrap .u64 x)),(IntKind.wrap .u32 (Int.fdiv (IntKind.wrap .u64 x) (2^32)))])),(ofN 1))).bind fun x1=>
  some x1)
def qur(a:Rt):Bool:=okL a.2.1&&okL a.2.2
def qus(a:Rt):Rt:=qes a.1 (qa a.2.1) (qa a.2.2)
theorem qjU{neg:Bool}{a b:List Int}(h:(okL a&&okL b)=true):qet (neg,a,b)=some (qes neg (qa a) (qa b)):=by
 unfold qet;simp only[];rw[h,zg]
def qeu(a:Rt):Option Rt:=bif qur a then some (qus a)else none
theorem qut(a y:Rt)(hg:(d1 cRt).good a)(h:qeu a=some y):RLow a=some y:=by
 obtain⟨h1,h⟩:=qh h;have:=soi h;subst this
 exact obB (qjU h1) rfl
theorem qfA(r:Nat)(h:r<18446744073709551616):qa [IntKind.u32.wrap (r:Int),IntKind.u32.wrap (Int.fdiv (r:Int) (2^32))]=r:=by
 have e1:IntKind.u32.wrap (r:Int)=((r % 4294967296:Nat):Int):=by rw[wrap_u32];omega
 have e2:Int.fdiv (r:Int) (2^32)=((r / 4294967296:Nat):Int):=by
  have:=JH r 32;rwa [show(2:Nat)^32=4294967296 from rfl]at this
 have e3:IntKind.u32.wrap ((r / 4294967296:Nat):Int)=((r / 4294967296:Nat):Int):=qgG (by omega) (by omega)
 rw[e1,e2,e3];simp only[qa,zd];omega
theorem Yq{r:Nat}(h:r<18446744073709551616):okL (ofN r)=true:=zp (Kj (qgP (k:=2) (by simpa using h)) (by omega))
def qqe(x:Int):Option Rt:=some (qes (decide (x<0)) x.natAbs 1)
theorem quu(x:Int)(y:Rt)(hg:(d1 (cI .i64)).good x)(h:qqe x=some y):qxZ x=some y:=by
 have:=soi h;subst this
 have hx:=QW.1 hg;unfold qxZ;by_cases h0:x<0
 · have e1:IntKind.u64.wrap (0-IntKind.u64.wrap x)=((x.natAbs:Nat):Int):=by rw[wrap_u64,wrap_u64];omega
   rw[zb h0,zg,e1,qfA _ (by omega)];refine obB (qjU (by rw[Yq (by omega),Yq (by omega)];rfl)) ?_
   rw[valN_ofN,valN_ofN]
 · have e1:IntKind.u64.wrap x=((x.natAbs:Nat):Int):=by rw[wrap_u64];omega
   rw[zk h0,zm,e1,qfA _ (by omega)];refine obB (qjU (by rw[Yq (by omega),Yq (by omega)];rfl)) ?_
   rw[valN_ofN,valN_ofN]
end
end Su
end
