/-
  What functions of the program compute, in plain Lean, and that the evaluator finds it.
-/
import Derived.Test.YtldhknmacepeiaaGreatDoorSuXl
import Derived.Test.YtldhknmacepeiaaGreatDoorNT15
set_option linter.unusedVariables false
set_option linter.unusedSimpArgs false
set_option maxRecDepth 10000
section
namespace Su
open Go Fly
noncomputable section
def js:Stp (ByteArray×Int×Unit):=fun p0=>(bif(decide (p0.2.1<(ByteArray.size p0.1:Int)))then
 (bif(decide (0≤p0.2.1))then
 ((p0.1)[p0.2.1.toNat]?).bind fun x1=>
 (bif(decide (48≤(UInt8.toNat x1:Int)))then
 (bif(decide ((UInt8.toNat x1:Int)≤57))then
 some (.inl (p0.1,(IntKind.wrap .i64 (p0.2.1+1)),()))
 else
  some (.inr (p0.1,p0.2.1,())))
 else
  some (.inr (p0.1,p0.2.1,())))
 else none)
 else
  some (.inr (p0.1,p0.2.1,())))
def qpi  (fu:Nat)(s:ByteArray)(i:Int):Option (Int×Bool) :=
 (itP fu (js) (s,i,())).bind fun x2=>
 (bif(((decide (0≤x2.2.1))&&(decide (x2.2.1≤(ByteArray.size s:Int))))&&(decide ((ByteArray.size s:Int)≤(ByteArray.size s:Int))))then
 (bif(List.isPrefixOf (lb (ByteArray.mk (List.toArray [46]))) (lb (ByteArray.extract s x2.2.1.toNat (Int.toNat (ByteArray.size s:Int)))))then
 (jV (s,(IntKind.wrap .i64 (x2.2.1+1)))).bind fun x3=>
 (bif x3 then
 (itP fu (js) (s,(IntKind.wrap .i64 (x2.2.1+1)),())).bind fun x6=>
 (bif(decide (x6.2.1<(ByteArray.size s:Int)))then
 (bif(decide (0≤x6.2.1))then
 ((s)[x6.2.1.toNat]?).bind fun x7=>
 (bif(decide ((Fly.qX Go.BinOp.or .u8 (UInt8.toNat x7:Int) 32)=101))then
 (bif(decide ((IntKind.wrap .i64 (x6.2.1+1))<(ByteArray.size s:Int)))then
 (bif(decide (0≤(IntKind.wrap .i64 (x6.2.1+1))))then
 ((s)[(Int.toNat (IntKind.wrap .i64 (x6.2.1+1)))]?).bind fun x8=>
 (bif(decide ((UInt8.toNat x8:Int)=43))then
 (jV (s,(IntKind.wrap .i64 ((IntKind.wrap .i64 (x6.2.1+1))+1)))).bind fun x9=>
 (bif x9 then
 (itP fu (js) (s,(IntKind.wrap .i64 ((IntKind.wrap .i64 (x6.2.1+1))+1)),())).bind fun x12=>
 some (x12.2.1,true)
 else
  some (x6.2.1,true))
 else
  (bif(decide (0≤(IntKind.wrap .i64 (x6.2.1+1))))then
  ((s)[(Int.toNat (IntKind.wrap .i64 (x6.2.1+1)))]?).bind fun x13=>
  (bif(decide ((UInt8.toNat x13:Int)=45))then
  (jV (s,(IntKind.wrap .i64 ((IntKind.wrap .i64 (x6.2.1+1))+1)))).bind fun x14=>
  (bif x14 then
  (itP fu (js) (s,(IntKind.wrap .i64 ((IntKind.wrap .i64 (x6.2.1+1))+1)),())).bind fun x17=>
  some (x17.2.1,true)
 else
  some (x6.2.1,true))
 else
  (jV (s,(IntKind.wrap .i64 (x6.2.1+1)))).bind fun x18=>
  (bif x18 then
  (itP fu (js) (s,(IntKind.wrap .i64 (x6.2.1+1)),())).bind fun x21=>
  some (x21.2.1,true)
 else
  some (x6.2.1,true)))
 else none))
 else none)
 else
  (jV (s,(IntKind.wrap .i64 (x6.2.1+1)))).bind fun x22=>
  (bif x22 then
  (itP fu (js) (s,(IntKind.wrap .i64 (x6.2.1+1)),())).bind fun x25=>
  some (x25.2.1,true)
 else
  some (x6.2.1,true)))
 else
  some (x6.2.1,true))
 else none)
 else
  some (x6.2.1,true))
 else
  (bif(decide (x2.2.1<(ByteArray.size s:Int)))then
  (bif(decide (0≤x2.2.1))then
  ((s)[x2.2.1.toNat]?).bind fun x26=>
  (bif(decide ((Fly.qX Go.BinOp.or .u8 (UInt8.toNat x26:Int) 32)=101))then
  (bif(decide ((IntKind.wrap .i64 (x2.2.1+1))<(ByteArray.size s:Int)))then
  (bif(decide (0≤(IntKind.wrap .i64 (x2.2.1+1))))then
  ((s)[(Int.toNat (IntKind.wrap .i64 (x2.2.1+1)))]?).bind fun x27=>
  (bif(decide ((UInt8.toNat x27:Int)=43))then
  (jV (s,(IntKind.wrap .i64 ((IntKind.wrap .i64 (x2.2.1+1))+1)))).bind fun x28=>
  (bif x28 then
  (itP fu (js) (s,(IntKind.wrap .i64 ((IntKind.wrap .i64 (x2.2.1+1))+1)),())).bind fun x31=>
  some (x31.2.1,true)
 else
  some (x2.2.1,false))
 else
  (bif(decide (0≤(IntKind.wrap .i64 (x2.2.1+1))))then
  ((s)[(Int.toNat (IntKind.wrap .i64 (x2.2.1+1)))]?).bind fun x32=>
  (bif(decide ((UInt8.toNat x32:Int)=45))then
  (jV (s,(IntKind.wrap .i64 ((IntKind.wrap .i64 (x2.2.1+1))+1)))).bind fun x33=>
  (bif x33 then
  (itP fu (js) (s,(IntKind.wrap .i64 ((IntKind.wrap .i64 (x2.2.1+1))+1)),())).bind fun x36=>
  some (x36.2.1,true)
 else
  some (x2.2.1,false))
 else
  (jV (s,(IntKind.wrap .i64 (x2.2.1+1)))).bind fun x37=>
  (bif x37 then
  (itP fu (js) (s,(IntKind.wrap .i64 (x2.2.1+1)),())).bind fun x40=>
  some (x40.2.1,true)
 else
  some (x2.2.1,false)))
 else none))
 else none)
 else
  (jV (s,(IntKind.wrap .i64 (x2.2.1+1)))).bind fun x41=>
  (bif x41 then
  (itP fu (js) (s,(IntKind.wrap .i64 (x2.2.1+1)),())).bind fun x44=>
  some (x44.2.1,true)
 else
  some (x2.2.1,false)))
 else
  some (x2.2.1,false))
 else none)
 else
  some (x2.2.1,false)))
 else
  (bif(decide (x2.2.1<(ByteArray.size s:Int)))then
  (bif(decide (0≤x2.2.1))then
  ((s)[x2.2.1.toNat]?).bind fun x45=>
  (bif(decide ((Fly.qX Go.BinOp.or .u8 (UInt8.toNat x45:Int) 32)=101))then
  (bif(decide ((IntKind.wrap .i64 (x2.2.1+1))<(ByteArray.size s:Int)))then
  (bif(decide (0≤(IntKind.wrap .i64 (x2.2.1+1))))then
  ((s)[(Int.toNat (IntKind.wrap .i64 (x2.2.1+1)))]?).bind fun x46=>
  (bif(decide ((UInt8.toNat x46:Int)=43))then
  (jV (s,(IntKind.wrap .i64 ((IntKind.wrap .i64 (x2.2.1+1))+1)))).bind fun x47=>
  (bif x47 then
  (itP fu (js) (s,(IntKind.wrap .i64 ((IntKind.wrap .i64 (x2.2.1+1))+1)),())).bind fun x50=>
  some (x50.2.1,true)
 else
  some (x2.2.1,false))
 else
  (bif(decide (0≤(IntKind.wrap .i64 (x2.2.1+1))))then
  ((s)[(Int.toNat (IntKind.wrap .i64 (x2.2.1+1)))]?).bind fun x51=>
  (bif(decide ((UInt8.toNat x51:Int)=45))then
  (jV (s,(IntKind.wrap .i64 ((IntKind.wrap .i64 (x2.2.1+1))+1)))).bind fun x52=>
  (bif x52 then
  (itP fu (js) (s,(IntKind.wrap .i64 ((IntKind.wrap .i64 (x2.2.1+1))+1)),())).bind fun x55=>
  some (x55.2.1,true)
 else
  some (x2.2.1,false))
 else
  (jV (s,(IntKind.wrap .i64 (x2.2.1+1)))).bind fun x56=>
  (bif x56 then
  (itP fu (js) (s,(IntKind.wrap .i64 (x2.2.1+1)),())).bind fun x59=>
  some (x59.2.1,true)
 else
  some (x2.2.1,false)))
 else none))
 else none)
 else
  (jV (s,(IntKind.wrap .i64 (x2.2.1+1)))).bind fun x60=>
  (bif x60 then
  (itP fu (js) (s,(IntKind.wrap .i64 (x2.2.1+1)),())).bind fun x63=>
  some (x63.2.1,true)
 else
  some (x2.2.1,false)))
 else
  some (x2.2.1,false))
 else none)
 else
  some (x2.2.1,false)))
 else none)
theorem qwp{S:List UInt8}(hS:S.length≤1000000):∀(d i:Nat),i+d=S.length→yS (d+1) js (bs S,(i:Int),()) (bs S,((rn S i:Nat):Int),()):=fun d=>by
 induction d with
 | zero=>
  intro i hi;have e:rn S i=i:=by unfold rn;rw[qaV fun c h=>by rw[zQ (by omega)]at h;cases h];rfl
  rw[e];refine yS.stop ?_
  unfold js;simp only[qe];rw[zk (by omega)];rfl
 | succ d ih=>
  intro i hi;obtain⟨c,hc⟩:∃c,S[i]?=some c:=⟨_,zq (by omega)⟩
  have w:IntKind.i64.wrap ((i:Int)+1)=((i+1:Nat):Int):=by rw[w64 (by omega) (by omega)];omega
  cases hd:isD c with
  | true=>
   have e:rn S i=rn S (i+1):=by unfold rn;rw[Y2 hc hd,zt];omega
   have hcc:=jT.1 hd;rw[e];refine yS.next ?_ (ih (i+1) (by omega))
   unfold js;simp only[qe,zd,qq,hc,zh,w];rw[za (by omega),za (by omega),za (by omega),za (by omega)];rfl
  | false=>
   have e:rn S i=i:=by unfold rn;rw[qaV fun c' h=>by rw[hc]at h;cases h;exact hd];rfl
   have hcc : ¬(48≤c.toNat∧c.toNat≤57):=fun h=>by rw[jT.2 h]at hd;cases hd
   rw[e];refine(yS.stop (K:=d+1) ?_)
   unfold js;simp only[qe,zd,qq,hc,zh];rw[za (by omega),za (by omega)];by_cases h1:48≤c.toNat
   · rw[za (show(48:Int)≤((c.toNat:Nat):Int) by omega),zk (show¬((c.toNat:Nat):Int)≤57 by omega)];rfl
   · rw[zk (show¬(48:Int)≤((c.toNat:Nat):Int) by omega)];rfl
def exK(S:List UInt8)(j:Nat):Nat:=if S[j+1]?=some 43∨S[j+1]?=some 45 then j+2 else j+1
def numE(S:List UInt8)(j:Nat)(fl:Bool):Nat×Bool :=
 if(S[j]?=some 101∨S[j]?=some 69)∧yy S (exK S j)=true then(rn S (exK S j),true)else(j,fl)
def jx(S:List UInt8)(i:Nat):Nat×Bool :=
 if S[rn S i]?=some 46∧yy S (rn S i+1)=true then numE S (rn S (rn S i+1)) true else numE S (rn S i) false
theorem qwq:(List.range 256).all (fun k=>decide (Fly.qX Go.BinOp.or .u8 ((k:Nat):Int) 32=101) == (Nat.beq k 101||Nat.beq k 69))=true:=by decide +kernel
theorem qur{a b:Nat}(h:a≠b):Nat.beq a b=false:=by cases hb:Nat.beq a b with | false=>rfl | true=>exact absurd (zf hb) h
theorem or_e(c:UInt8):decide (Fly.qX Go.BinOp.or .u8 ((c.toNat:Nat):Int) 32=101)=decide (c=101∨c=69):=by
 have hlt:=c.toNat_lt;have h:=eq_of_beq (z7.1 qwq c.toNat (List.mem_range.2 (by omega)))
 rw[h];by_cases h1:c=101
 · subst h1;rfl
 · by_cases h2:c=69
   · subst h2;rfl
   · rw[zk (by rintro(h | h);exact h1 h;exact h2 h),qur (show c.toNat≠101 from fun e=>h1 (Wl.1 e)),qur (show c.toNat≠69 from fun e=>h2 (Wl.1 e))];rfl
def qhY(fu:Nat)(s:ByteArray)(j:Int)(fl:Bool):Option (Int×Bool) :=
 (bif(decide (j<(ByteArray.size s:Int)))then
 (bif(decide (0≤j))then
 ((s)[j.toNat]?).bind fun x26=>
 (bif(decide ((Fly.qX Go.BinOp.or .u8 (UInt8.toNat x26:Int) 32)=101))then
 (bif(decide ((IntKind.wrap .i64 (j+1))<(ByteArray.size s:Int)))then
 (bif(decide (0≤(IntKind.wrap .i64 (j+1))))then
 ((s)[(Int.toNat (IntKind.wrap .i64 (j+1)))]?).bind fun x27=>
 (bif(decide ((UInt8.toNat x27:Int)=43))then
 (jV (s,(IntKind.wrap .i64 ((IntKind.wrap .i64 (j+1))+1)))).bind fun x28=>
 (bif x28 then
 (itP fu (js) (s,(IntKind.wrap .i64 ((IntKind.wrap .i64 (j+1))+1)),())).bind fun x31=>
 some (x31.2.1,true)
 else
  some (j,fl))
 else
  (bif(decide (0≤(IntKind.wrap .i64 (j+1))))then
  ((s)[(Int.toNat (IntKind.wrap .i64 (j+1)))]?).bind fun x32=>
  (bif(decide ((UInt8.toNat x32:Int)=45))then
  (jV (s,(IntKind.wrap .i64 ((IntKind.wrap .i64 (j+1))+1)))).bind fun x33=>
  (bif x33 then
  (itP fu (js) (s,(IntKind.wrap .i64 ((IntKind.wrap .i64 (j+1))+1)),())).bind fun x36=>
  some (x36.2.1,true)
 else
  some (j,fl))
 else
  (jV (s,(IntKind.wrap .i64 (j+1)))).bind fun x37=>
  (bif x37 then
  (itP fu (js) (s,(IntKind.wrap .i64 (j+1)),())).bind fun x40=>
  some (x40.2.1,true)
 else
  some (j,fl)))
 else none))
 else none)
 else
  (jV (s,(IntKind.wrap .i64 (j+1)))).bind fun x41=>
  (bif x41 then
  (itP fu (js) (s,(IntKind.wrap .i64 (j+1)),())).bind fun x44=>
  some (x44.2.1,true)
 else
  some (j,fl)))
 else
  some (j,fl))
 else none)
 else
  some (j,fl))
theorem qus(S:List UInt8)(k:Nat):jV (bs S,((k:Nat):Int))=some (yy S k):=by
 unfold jV;show(bif decide ((0:Int)≤((k:Nat):Int))then _ else _)=_
 rw[za (by omega)];rfl
theorem Zw{S:List UInt8}{k:Nat}(h:yy S k=true):k<S.length:=by
 unfold yy at h;cases hc:S[k]? with
 | none=>rw[hc]at h;cases h
 | some c=>exact yf hc
theorem qjn{S:List UInt8}(hS:S.length≤1000000){j:Nat}(hj:j≤S.length)(fl:Bool):qhY 2000000 (bs S) (j:Int) fl=some (((numE S j fl).1:Int),(numE S j fl).2):=by
 have w1:IntKind.i64.wrap ((j:Int)+1)=((j+1:Nat):Int):=by rw[w64 (by omega) (by omega)];omega
 have w2:IntKind.i64.wrap (((j+1:Nat):Int)+1)=((j+2:Nat):Int):=by rw[w64 (by omega) (by omega)];omega
 have fin:∀k:Nat,exK S j=k→(S[j]?=some 101∨S[j]?=some 69)→((jV (bs S,((k:Nat):Int))).bind fun x=>(bif x then(itP 2000000 js (bs S,((k:Nat):Int),())).bind fun y=>some (y.2.1,true)else some ((j:Int),fl)))=some (((numE S j fl).1:Int),(numE S j fl).2):=fun k hk he=>by
  refine obs (qus S k) ?_
  unfold numE;rw[hk];cases hd:yy S k with
  | false=>rw[zx (fun h=>by cases h.2)];rfl
  | true=>
   rw[zA ⟨he,rfl⟩];have hl:=Zw hd;have hr:=qwp hS (S.length-k) k (by omega)
   exact obs (hr 2000000 (by omega)) rfl
 have no : ¬(S[j]?=some 101∨S[j]?=some 69)→numE S j fl=(j,fl):=fun h=>by unfold numE;rw[zx (fun e=>h e.1)]
 unfold qhY;simp only[w1,w2,qe,zd,qq];by_cases hl:j<S.length
 · obtain⟨c,hc⟩:∃c,S[j]?=some c:=⟨_,zq hl⟩
   rw[bdT (by omega),bdT (by omega),hc,zh,or_e];by_cases he:c=101∨c=69
   · rw[bdT he]
     have he':S[j]?=some 101∨S[j]?=some 69:=by rw[hc];rcases he with rfl | rfl;exact .inl rfl;exact .inr rfl
     by_cases hl2:j+1<S.length
     · obtain⟨d,hd⟩:∃d,S[j+1]?=some d:=⟨_,zq hl2⟩
       rw[bdT (by omega),bdT (by omega),hd,zh];by_cases h43:d=43
       · subst h43
         rw[bdT (by rfl)];exact fin (j+2) (by unfold exK;rw[hd,zA (.inl rfl)]) he'
       · rw[bdF (fun e=>h43 (Wl.1 (show d.toNat=43 by omega))),bdT (by omega),zh]
         by_cases h45:d=45
         · subst h45
           rw[bdT (by rfl)];exact fin (j+2) (by unfold exK;rw[hd,zA (.inr rfl)]) he'
         · rw[bdF (fun e=>h45 (Wl.1 (show d.toNat=45 by omega)))]
           refine fin (j+1) ?_ he'
           unfold exK;rw[hd,zx (by rintro(h | h);exact h43 (KP h);exact h45 (KP h))]
     · rw[bdF (by omega)]
       refine fin (j+1) ?_ he'
       unfold exK;rw[zQ (show S.length≤j+1 by omega),zx (by rintro(h | h) <;> cases h)]
   · rw[bdF he,no (by rw[hc];rintro(h | h);exact he (.inl (KP h));exact he (.inr (KP h)))]
 · rw[bdF (by omega),no (by rw[zQ (show S.length≤j by omega)];rintro(h | h) <;> cases h)]
def qbF(p:ByteArray×Int):Option (Int×Bool):=bif(decide (0≤p.2)&&decide (p.2≤((lb p.1).length:Int)))&&Nat.ble (lb p.1).length 1000000 then some (((jx (lb p.1) p.2.toNat).1:Int),(jx (lb p.1) p.2.toNat).2)else none
theorem qyo(S:List UInt8)(a:Nat):List.isPrefixOf [46] (S.drop a)=decide (S[a]?=some 46):=by
 by_cases h:a<S.length
 · rw[zM h,zq h]
   show((46:UInt8) == S[a]&&List.isPrefixOf [] (S.drop (a+1)))=_
   by_cases e:S[a]=46
   · rw[e];rfl
   · have hb:((46:UInt8) == S[a])=false:=by simpa using fun e'=>e e'.symm
     rw[hb,zk (fun h=>e (KP h))];rfl
 · rw[Wh (by omega),zQ (by omega)];rfl
theorem qs7(p:ByteArray×Int)(y:Int×Bool)(hg:(dc cS (d1 (cI .i64))).good p)(h:qbF p=some y):∃n,qpi n p.1 p.2=some y:=by
 obtain⟨s,i⟩:=p;clear hg;refine⟨2000000,?_⟩
 revert h;refine onB (P:=fun s=>qbF (s,i)=some y→qpi 2000000 s i=some y) (fun S h=>?_) s
 obtain⟨h1,h2⟩:=qh h;have:=soi h2;subst this
 simp only[zn]at h1;obtain⟨⟨a1,a2⟩,a3⟩:=h1;have a3:S.length≤1000000:=zo a3
 have a1:=Ko a1;obtain⟨k,rfl⟩:=z8 a1;have a2:((k:Nat):Int)≤((S.length:Nat):Int):=Ko a2
 clear h h2 a1;show qpi 2000000 (bs S) ((k:Nat):Int)=some (((jx S k).1:Int),(jx S k).2)
 have hr:=jM (S:=S) (i:=k) (by omega)
 have ge:=yX S k;have e:qpi 2000000 (bs S) ((k:Nat):Int)=((itP 2000000 js (bs S,((k:Nat):Int),())).bind fun x2=>
  (bif(((decide (0≤x2.2.1))&&(decide (x2.2.1≤((bs S).size:Int))))&&(decide (((bs S).size:Int)≤((bs S).size:Int))))then
    (bif(List.isPrefixOf (lb (ByteArray.mk (List.toArray [46]))) (lb ((bs S).extract x2.2.1.toNat (Int.toNat ((bs S).size:Int)))))then
      ((jV (bs S,IntKind.i64.wrap (x2.2.1+1))).bind fun x3=>(bif x3 then(itP 2000000 js (bs S,IntKind.i64.wrap (x2.2.1+1),())).bind (fun x6=>qhY 2000000 (bs S) x6.2.1 true)else qhY 2000000 (bs S) x2.2.1 false))
      else qhY 2000000 (bs S) x2.2.1 false)else none)):=rfl
 rw[e];refine obs (qwp a3 (S.length-k) k (by omega) 2000000 (by omega)) ?_
 have w1:IntKind.i64.wrap (((rn S k:Nat):Int)+1)=((rn S k+1:Nat):Int):=by rw[w64 (by omega) (by omega)];omega
 have ext:(bs S).extract (rn S k) S.length=bs (S.drop (rn S k)):=by
  rw[jY,zF (by rw[zP];omega)]
 simp only[qe,zd,w1,ext,qQ,qD,qyo];rw[za (show(0:Int)≤((rn S k:Nat):Int) by omega),za (show((rn S k:Nat):Int)≤((S.length:Nat):Int) by omega),za (show((S.length:Nat):Int)≤((S.length:Nat):Int) by omega)];simp only[zZ,zg];unfold jx;by_cases h46:S[rn S k]?=some 46
 · rw[bdT h46]
   refine obs (qus S _) ?_
   cases hd:yy S (rn S k+1)with
   | false=>
    rw[zx (fun h=>by cases h.2)];exact qjn a3 hr false
   | true=>
    rw[zA ⟨h46,rfl⟩];have hl:=Zw hd;have hr2:=jM (S:=S) (i:=rn S k+1) (by omega)
    exact obs (qwp a3 (S.length-(rn S k+1)) (rn S k+1) (by omega) 2000000 (by omega)) (qjn a3 hr2 true)
 · rw[bdF h46,zx (fun h=>h46 h.1)]
   exact qjn a3 hr false
end
end Su
end
section
namespace Su
open Go Fly
noncomputable section
def qs8:Stp (ByteArray×Int×Unit):=fun p2=>(bif(decide (p2.2.1<(ByteArray.size p2.1:Int)))then
 (bif(decide (0≤p2.2.1))then
 ((p2.1)[p2.2.1.toNat]?).bind fun x3=>
 (Yj (UInt8.toNat x3:Int)).bind fun x4=>
 (bif x4 then
 some (.inl (p2.1,(IntKind.wrap .i64 (p2.2.1+1)),()))
 else
  (bif(decide (48≤(UInt8.toNat x3:Int)))then
  (bif(decide ((UInt8.toNat x3:Int)≤57))then
  some (.inl (p2.1,(IntKind.wrap .i64 (p2.2.1+1)),()))
 else
  some (.inr (p2.1,p2.2.1,())))
 else
  some (.inr (p2.1,p2.2.1,()))))
 else none)
 else
  some (.inr (p2.1,p2.2.1,())))
def qgu(s:ByteArray)(i:Int) :=
 bif(((decide (0≤i))&&(decide (i≤(ByteArray.size s:Int))))&&(decide ((ByteArray.size s:Int)≤(ByteArray.size s:Int))))then
 (qaa (ByteArray.extract s i.toNat (Int.toNat (ByteArray.size s:Int)))).bind fun x8=>
 (bif(decide (x8=(ByteArray.mk (List.toArray []))))then
 some (((5:Int),i,x8,(0:Int),(0:Int)),i,(90:Int))
 else
  some (((5:Int),i,x8,(0:Int),(0:Int)),(IntKind.wrap .i64 (i+(ByteArray.size x8:Int))),(0:Int)))
 else
  none
def qpj  (fu:Nat)(s:ByteArray)(i:Int):Option ((Int×Int×ByteArray×Int×Int)×Int×Int) :=
 (bif(decide (0≤i))then
 ((s)[i.toNat]?).bind fun x0=>
 (Yj (UInt8.toNat x0:Int)).bind fun x1=>
 (bif x1 then
 (itP fu (qs8) (s,i,())).bind fun x5=>
 none
 else
  (bif(decide (48≤(UInt8.toNat x0:Int)))then
  (bif(decide ((UInt8.toNat x0:Int)≤57))then
  (qbF (s,i)).bind fun x6=>
  (bif(((decide (0≤i))&&(decide (i≤x6.1)))&&(decide (x6.1≤(ByteArray.size s:Int))))then
  (qbE (((0:Int),i,(ByteArray.empty),(0:Int),(0:Int)),(ByteArray.extract s i.toNat x6.1.toNat),x6.2)).bind fun x7=>
  some (x7.1,x6.1,x7.2)
 else none)
 else
  (qgu s i))
 else
  (qgu s i)))
 else none)
def qaW:Stp (ByteArray×Int×Unit):=fun p0=>(bif(decide (p0.2.1<(ByteArray.size p0.1:Int)))then
 (bif(decide (0≤p0.2.1))then
 ((p0.1)[p0.2.1.toNat]?).bind fun x1=>
 (Yj (UInt8.toNat x1:Int)).bind fun x2=>
 (bif x2 then
 some (.inl (p0.1,(IntKind.wrap .i64 (p0.2.1+1)),()))
 else
  (bif(decide (48≤(UInt8.toNat x1:Int)))then
  (bif(decide ((UInt8.toNat x1:Int)≤57))then
  some (.inl (p0.1,(IntKind.wrap .i64 (p0.2.1+1)),()))
 else
  some (.inr (p0.1,p0.2.1,())))
 else
  some (.inr (p0.1,p0.2.1,()))))
 else none)
 else
  some (.inr (p0.1,p0.2.1,())))
def qs9  (fu:Nat)(s:ByteArray)(i:Int)(u:Unit):Option Int :=
 (itP fu (qaW) (s,i,())).bind fun x3=>
 some x3.2.1
def spI(S:List UInt8)(i:Nat):Nat:=i+((S.drop i).takeWhile JZ).length
theorem qkY{S:List UInt8}{i:Nat}{c:UInt8}(h:S[i]?=some c)(hc:JZ c=true):spI S i=spI S (i+1):=by
 obtain⟨hi,e⟩:=zp.1 h
 unfold spI;rw[zM hi,e,Vu,hc];simp only[if_true,zt];omega
theorem qpk{S:List UInt8}{i:Nat}(h:∀c,S[i]?=some c→JZ c=false):spI S i=i:=by
 unfold spI;by_cases hi:i<S.length
 · rw[zM hi,Vu,h _ (zq hi)];rfl
 · rw[Wh (by omega)];rfl
theorem qbG{S:List UInt8}{i:Nat}(h:i≤S.length):spI S i≤S.length:=by
 have:((S.drop i).takeWhile JZ).length≤(S.drop i).length:=Wg (List.takeWhile_sublist _)
 rw[zP]at this;unfold spI;omega
theorem qkZ(c:UInt8):Yj ((c.toNat:Nat):Int)=some (yT c):=by
 have:=c.toNat_lt
 unfold Yj;rw[za (by omega),za (by omega),zd,zu];rfl
theorem sRun{S:List UInt8}(hS:S.length≤1000000):∀(d i:Nat),i+d=S.length→yS (d+1) qaW (bs S,(i:Int),()) (bs S,((spI S i:Nat):Int),()):=fun d=>by
 induction d with
 | zero=>
  intro i hi;rw[qpk fun c h=>by rw[zQ (by omega)]at h;cases h];refine yS.stop ?_
  unfold qaW;simp only[qe];rw[zk (by omega)];rfl
 | succ d ih=>
  intro i hi;obtain⟨c,hc⟩:∃c,S[i]?=some c:=⟨_,zq (by omega)⟩
  have w:IntKind.i64.wrap ((i:Int)+1)=((i+1:Nat):Int):=by rw[w64 (by omega) (by omega)];omega
  have head:qaW (bs S,(i:Int),())=bif JZ c then some (.inl (bs S,((i+1:Nat):Int),()))else some (.inr (bs S,(i:Int),())):=by
   unfold qaW;simp only[qe,zd,qq,hc,zh,w,qkZ];rw[bdT (by omega),bdT (by omega)];unfold JZ isD;cases yT c with
   | true=>rfl
   | false=>
    rw[zm,VU];by_cases h1:48≤c.toNat
    · rw[bdT (by omega),zr h1,zZ]
      by_cases h2:c.toNat≤57
      · rw[bdT (by omega),zr h2];rfl
      · rw[bdF (by omega)]
        cases h:Nat.ble c.toNat 57 with
        | false=>rfl
        | true=>exact absurd (zo h) h2
    · rw[bdF (by omega)]
      cases h:Nat.ble 48 c.toNat with
      | false=>rfl
      | true=>exact absurd (zo h) h1
  cases hd:JZ c with
  | true=>
   rw[qkY hc hd];exact yS.next (head.trans (by rw[hd];rfl)) (ih (i+1) (by omega))
  | false=>
   rw[qpk fun c' h=>by rw[hc]at h;cases h;exact hd];exact yS.stop (K:=d+1) (head.trans (by rw[hd];rfl))
def qgv(p:ByteArray×Int×Unit):Option Int:=bif(decide (0≤p.2.1)&&decide (p.2.1≤((lb p.1).length:Int)))&&Nat.ble (lb p.1).length 1000000 then some ((spI (lb p.1) p.2.1.toNat:Nat):Int)else none
theorem qta(p:ByteArray×Int×Unit)(y:Int)(hg:(dc cS (dc (cI .i64) (d1 (cF 76)))).good p)(h:qgv p=some y):∃n,qs9 n p.1 p.2.1 p.2.2=some y:=by
 obtain⟨s,i,u⟩:=p;clear hg;refine⟨2000000,?_⟩
 revert h;refine onB (P:=fun s=>qgv (s,i,u)=some y→qs9 2000000 s i u=some y) (fun S h=>?_) s
 obtain⟨h1,h2⟩:=qh h;have:=soi h2;subst this
 simp only[zn]at h1;obtain⟨⟨a1,a2⟩,a3⟩:=h1;have a3:S.length≤1000000:=zo a3
 have a1:=Ko a1;obtain⟨k,rfl⟩:=z8 a1;have a2:((k:Nat):Int)≤((S.length:Nat):Int):=Ko a2
 unfold qs9;exact obs (sRun a3 (S.length-k) k (by omega) 2000000 (by omega)) rfl
noncomputable def qd2(t:Tk)(l:List UInt8)(fl:Bool):Tk×Int :=
 if 400<l.length then(t,91)else
 if fl=true then(if(QQ l).2=0 then((3,t.2.1,t.2.2.1,t.2.2.2.1,(QQ l).1),0)else(t,93))else
 if 2147483647<dv l then(t,92)else((2,t.2.1,t.2.2.1,((dv l:Nat):Int),t.2.2.2.2),0)
theorem qyp{t:Tk}{l:List UInt8}{fl:Bool}(h:fl=true∨l≠[]∧∀c∈l,isD c=true):qbE (t,bs l,fl)=some (qd2 t l fl):=by
 unfold qbE qd2;simp only[qe,qD];have blt:∀a b:Nat,Nat.blt a b=decide (a<b):=fun a b=>by
  by_cases h:a<b
  · rw[za h,Ve];exact h
  · rw[zk h]
    cases hb:Nat.blt a b with
    | false=>rfl
    | true=>rw[Ve]at hb;exact absurd hb h
 rw[blt,blt,Jp];by_cases h1:400<l.length
 · rw[zA h1,zA h1]
 · rw[zx h1,zx h1]
   cases fl with
   | true=>
    rw[zg,zA rfl];by_cases h2:(QQ l).2=0
    · rw[zA h2];exact bdT h2 _ _
    · rw[zx h2];exact bdF h2 _ _
   | false=>
    obtain⟨n0,hd⟩:=h.resolve_left (by decide)
    have e0:l.isEmpty=false:=by cases l with | nil=>exact absurd rfl n0 | cons c r=>rfl
    rw[zm,e0,z7.2 hd,zx (by decide),Jp];show(if 2147483647<dv l then _ else _)=_
    by_cases h2:2147483647<dv l
    · rw[zA h2,zA h2]
    · rw[zx h2,zx h2]
noncomputable def jC(S:List UInt8)(i:Nat):Tk×(Int×Int) :=
 if(S[i]?).any yT=true then
  ((bif ZE ((S.drop i).take (spI S i-i))then 4 else 1,(i:Int),bs ((S.drop i).take (spI S i-i)),0,0),((spI S i:Nat):Int),if 32<spI S i-i then 91 else 0)
 else if(S[i]?).any isD=true then
  ((qd2 (0,(i:Int),bs [],0,0) ((S.drop i).take ((jx S i).1-i)) (jx S i).2).1,(((jx S i).1:Nat):Int),(qd2 (0,(i:Int),bs [],0,0) ((S.drop i).take ((jx S i).1-i)) (jx S i).2).2)
 else if yF (S.drop i)=[]then((5,(i:Int),bs [],0,0),(i:Int),90)
 else((5,(i:Int),bs (yF (S.drop i)),0,0),((i+(yF (S.drop i)).length:Nat):Int),0)
noncomputable def QV(p:ByteArray×Int):Option (Tk×Int×Int):=bif(decide (0≤p.2)&&decide (p.2<((lb p.1).length:Int)))&&Nat.ble (lb p.1).length 1000000 then some (jC (lb p.1) p.2.toNat)else none
noncomputable def qgw(p:ByteArray×Int):Option (Tk×Int×Int):=bif((lb p.1)[p.2.toNat]?).any yT then none else QV p
theorem QH(S:List UInt8)(j:Nat)(fl:Bool):j≤(numE S j fl).1∧(fl=true→(numE S j fl).2=true)∧((numE S j fl).2=false→(numE S j fl).1=j):=by
 unfold numE;split
 · have:=yX S (exK S j)
   unfold exK at *
   refine⟨?_,fun _=>rfl,fun h=>by cases h⟩
   show j≤rn S _
   split at this <;> (simp only[*,if_true,WB]at *;omega)
 · exact⟨zE _,fun h=>h,fun _=>rfl⟩
theorem qpl{S:List UInt8}{i:Nat}(h:(jx S i).2=false):(jx S i).1=rn S i:=by
 unfold jx at h ⊢
 split
 · rename_i hc
   rw[zA hc]at h;rw[(QH S _ true).2.1 rfl]at h;cases h
 · rename_i hc
   rw[zx hc]at h;exact(QH S _ false).2.2 h
theorem qk0{S:List UInt8}{j:Nat}{fl:Bool}(hj:j≤S.length):(numE S j fl).1≤S.length:=by
 unfold numE;split
 · rename_i h
   exact jM (Vt (Zw h.2))
 · exact hj
theorem qjo{S:List UInt8}{i:Nat}(hi:i≤S.length):i≤(jx S i).1∧(jx S i).1≤S.length:=by
 have h1:=yX S i;have h2:=jM hi;unfold jx;split
 · rename_i h
   have h3:=Zw h.2;have h4:=yX S (rn S i+1)
   have h5:=QH S (rn S (rn S i+1)) true
   exact⟨by omega,qk0 (jM (by omega))⟩
 · have h5:=QH S (rn S i) false
   exact⟨by omega,qk0 h2⟩
theorem qtb(S:List UInt8)(i:Nat):(S.drop i).take (rn S i-i)=rnL S i:=by
 unfold rn;rw[VO];have h:rnL S i <+: S.drop i:=Wp _
 exact(Vn.1 h).symm
theorem qtc(p:ByteArray×Int)(y:Tk×Int×Int)(hg:(dc cS (d1 (cI .i64))).good p)(h:qgw p=some y):∃n,qpj n p.1 p.2=some y:=by
 obtain⟨s,i⟩:=p;clear hg;refine⟨2000000,?_⟩
 revert h;refine onB (P:=fun s=>qgw (s,i)=some y→qpj 2000000 s i=some y) (fun S h=>?_) s
 have nl:((S[i.toNat]?).any yT)=false:=by
  cases hb:(S[i.toNat]?).any yT with
  | false=>rfl
  | true=>
   have h:(bif(S[i.toNat]?).any yT then none else QV (bs S,i))=some y:=h
   rw[hb]at h;cases h
 have h:QV (bs S,i)=some y:=by
  have h:(bif(S[i.toNat]?).any yT then none else QV (bs S,i))=some y:=h
  rw[nl]at h;exact h
 obtain⟨h1,h2⟩:=qh h;have:=soi h2;subst this
 simp only[zn]at h1;obtain⟨⟨a1,a2⟩,a3⟩:=h1;have a3:S.length≤1000000:=zo a3
 have a1:=Ko a1;obtain⟨k,rfl⟩:=z8 a1;have a2:((k:Nat):Int)<((S.length:Nat):Int):=Ko a2
 clear h h2 a1;rw[zd]at nl;show qpj 2000000 (bs S) ((k:Nat):Int)=some (jC S k)
 obtain⟨c,hc⟩:∃c,S[k]?=some c:=⟨_,zq (by omega)⟩
 have hcl:yT c=false:=by rw[hc]at nl;exact nl
 have ext:(bs S).extract k S.length=bs (S.drop k):=by
  rw[jY,zF (by rw[zP];omega)]
 have sg:∀K:ByteArray→Option (Tk×Int×Int),((qaa (bs (S.drop k))).bind K)=K (bs (yF (S.drop k))):=fun K=>by
  refine obs ?_ rfl
  unfold qaa;rw[qD,zr (by rw[zP];omega)];rfl
 have sl:(yF (S.drop k)).length≤2:=by
  unfold yF;split
  · rw[zB];omega
  · split
    · rw[zB];omega
    · simp
 have w:IntKind.i64.wrap (((k:Nat):Int)+(((yF (S.drop k)).length:Nat):Int))=((k+(yF (S.drop k)).length:Nat):Int):=by rw[w64 (by omega) (by omega)];omega
 have sgn:isD c=false→(bif(((decide (0≤((k:Nat):Int)))&&(decide (((k:Nat):Int)≤((S.length:Nat):Int))))&&(decide (((S.length:Nat):Int)≤((S.length:Nat):Int))))then
  ((qaa (bs (S.drop k))).bind fun x8=>(bif(decide (x8=(ByteArray.mk (List.toArray []))))then some (((5:Int),((k:Nat):Int),x8,(0:Int),(0:Int)),((k:Nat):Int),(90:Int))else some (((5:Int),((k:Nat):Int),x8,(0:Int),(0:Int)),(IntKind.i64.wrap (((k:Nat):Int)+((x8).size:Int))),(0:Int))))else none)=some (jC S k):=fun hd=>by
  rw[za (by omega),za (by omega),za (Wu _),sg];simp only[zZ,zg,qjl,qe,w];unfold jC;rw[zx (by rw[nl];decide),zx (by rw[hc];show¬isD c=true;rw[hd];decide)];by_cases e:yF (S.drop k)=[]
  · rw[zA e,bdT e,e]
  · rw[zx e,bdF e]
 unfold qpj qgu;simp only[qe,zd,qq,hc,zh,qkZ,hcl,ext,zm];rw[bdT (by omega)];by_cases h1:48≤c.toNat
 · rw[bdT (by omega)]
   by_cases h2:c.toNat≤57
   · rw[bdT (by omega)]
     have hd:isD c=true:=jT.2 ⟨h1,h2⟩
     have hn:qbF (bs S,((k:Nat):Int))=some (((jx S k).1:Int),(jx S k).2):=by
      unfold qbF;show(bif(decide ((0:Int)≤((k:Nat):Int))&&decide (((k:Nat):Int)≤((S.length:Nat):Int)))&&Nat.ble S.length 1000000 then _ else _)=_
      rw[za (by omega),za (by omega),zr a3];rfl
     obtain⟨n1,n2⟩:=qjo (S:=S) (i:=k) (by omega)
     refine obs hn ?_
     rw[za (by omega),za (show((k:Nat):Int)≤(((jx S k).1:Nat):Int) by omega),za (show(((jx S k).1:Nat):Int)≤((S.length:Nat):Int) by omega)];simp only[zZ,zg,zd,jY];have hv:(jx S k).2=true∨(S.drop k).take ((jx S k).1-k)≠[]∧∀c∈(S.drop k).take ((jx S k).1-k),isD c=true:=by
      cases hb:(jx S k).2 with
      | true=>exact .inl rfl
      | false=>
       rw[qpl hb,qtb];refine .inr ⟨?_,Z8 S k⟩
       rw[Y2 hc hd];simp
     refine obs (qyp hv) ?_
     unfold jC;rw[zx (by rw[nl];decide),zA (by rw[hc];exact hd)];rfl
   · rw[bdF (by omega)]
     exact sgn (by cases hd:isD c with | false=>rfl | true=>exact absurd (jT.1 hd).2 h2)
 · rw[bdF (by omega)]
   exact sgn (by cases hd:isD c with | false=>rfl | true=>exact absurd (jT.1 hd).1 h1)
end
end Su
end
section
namespace Su
open Go Fly
noncomputable section
end
end Su
end
section
namespace Su
open Go Fly
noncomputable section
def Zx:(ByteArray×Nat×Int×(List T)×Unit)→Option ((ByteArray×Nat×Int×(List T)×Unit) ⊕ (Lp (ByteArray×Nat×Int×(List T)×Unit) ((List (Int×Int×ByteArray×Int×Int))×Int×Int))):=fun p1=>(bif(decide (p1.2.2.1<(ByteArray.size p1.1:Int)))then
 (QV (p1.1,p1.2.2.1)).bind fun x2=>
 (bif(!(decide (x2.2.2=0)))then
 some (.inr (.ret ([],x2.2.2,p1.2.2.1)))
 else
  (bif((true&&(Nat.beq p1.2.1 p1.2.2.2.1.length))&&(Nat.ble (p1.2.2.2.1.length+(List.length [(T.agg [(T.s (.int .u8 x2.1.1)),(T.s (.int .i64 x2.1.2.1)),(T.s (.string x2.1.2.2.1)),(T.s (.int .i32 x2.1.2.2.2.1)),(T.s (.int .u64 x2.1.2.2.2.2))])])) 549755813888))then
  (JB (p1.1,x2.2.1)).bind fun x3=>
  some (.inl (p1.1,(List.length (p1.2.2.2.1++[(T.agg [(T.s (.int .u8 x2.1.1)),(T.s (.int .i64 x2.1.2.1)),(T.s (.string x2.1.2.2.1)),(T.s (.int .i32 x2.1.2.2.2.1)),(T.s (.int .u64 x2.1.2.2.2.2))])])),x3,(p1.2.2.2.1++[(T.agg [(T.s (.int .u8 x2.1.1)),(T.s (.int .i64 x2.1.2.1)),(T.s (.string x2.1.2.2.1)),(T.s (.int .i32 x2.1.2.2.2.1)),(T.s (.int .u64 x2.1.2.2.2.2))])]),()))
 else none))
 else
  some (.inr (.exit 0 (p1.1,p1.2.1,p1.2.2.1,p1.2.2.2.1,()))))
def qpm  (fu:Nat)(s:ByteArray):Option ((List (Int×Int×ByteArray×Int×Int))×Int×Int) :=
 (bif(decide (16384<(ByteArray.size s:Int)))then
 some ([],(91:Int),(0:Int))
 else
  (JB (s,(0:Int))).bind fun x0=>
  (itP fu (Zx) (s,0,x0,[],())).bind fun x4=>
  (match x4 with
 | .exit i5 p6=>(bif(Nat.beq i5 0)then
  (bif((true&&(Nat.beq p6.2.1 p6.2.2.2.1.length))&&(Nat.ble (p6.2.2.2.1.length+(List.length [(T.agg [(T.s (.int .u8 0)),(T.s (.int .i64 (ByteArray.size p6.1:Int))),(T.s (.string (ByteArray.empty))),(T.s (.int .i32 0)),(T.s (.int .u64 0))])])) 549755813888))then
  (Su.sub (p6.2.2.2.1++[(T.agg [(T.s (.int .u8 0)),(T.s (.int .i64 (ByteArray.size p6.1:Int))),(T.s (.string (ByteArray.empty))),(T.s (.int .i32 0)),(T.s (.int .u64 0))])]) 0 (List.length (p6.2.2.2.1++[(T.agg [(T.s (.int .u8 0)),(T.s (.int .i64 (ByteArray.size p6.1:Int))),(T.s (.string (ByteArray.empty))),(T.s (.int .i32 0)),(T.s (.int .u64 0))])]))).bind fun x7=>
  (unR (rTk) x7).bind fun x8=>
  some (x8,(0:Int),(0:Int))
 else none)
 else none)
 | .ret o9=>some o9))
noncomputable section
def vTk(t:Tk):T:=T.agg [T.s (.int .u8 t.1),T.s (.int .i64 t.2.1),T.s (.string t.2.2.1),T.s (.int .i32 t.2.2.2.1),T.s (.int .u64 t.2.2.2.2)]
theorem qwr(l:List Tk):unR rTk (l.map vTk)=some l:=qkW rTk l
theorem qyq(l:List T):sub l 0 l.length=some l:=Jz l
def skE(S:List UInt8)(i:Nat):Nat:=i+sk false (S.drop i)
def qpn(S:List UInt8):Tk:=(0,((S.length:Nat):Int),bs [],0,0)
def yg(S:List UInt8):Nat→Nat→List Tk×(Int×Int)
 | 0,_=>([qpn S],0,0)
 | f+1,i=>if i<S.length then
  (if(jC S i).2.2=0 then(if(yg S f (skE S (jC S i).2.1.toNat)).2.1=0 then((jC S i).1::(yg S f (skE S (jC S i).2.1.toNat)).1,0,0)else([],(yg S f (skE S (jC S i).2.1.toNat)).2))else([],(jC S i).2.2,(i:Int)))else([qpn S],0,0)
def qab(S:List UInt8):List Tk×(Int×Int):=if 16384<S.length then([],91,0)else yg S (S.length+1) (sk false S)
theorem qcb{S:List UInt8}{i:Nat}(h:i≤S.length):i≤skE S i∧skE S i≤S.length:=by
 have:=qd1 false (S.drop i)
 rw[zP]at this;unfold skE;omega
theorem Y4{S:List UInt8}{i:Nat}(hi:i<S.length)(h:(jC S i).2.2=0):∃k:Nat,(jC S i).2.1=((k:Nat):Int)∧i<k∧k≤S.length:=by
 obtain⟨c,hc⟩:∃c,S[i]?=some c:=⟨_,zq hi⟩
 unfold jC at h ⊢
 by_cases h1:(S[i]?).any yT=true
 · rw[zA h1]
   have h2:JZ c=true:=by rw[hc]at h1;unfold JZ;rw[show yT c=true from h1];rfl
   refine⟨_,rfl,?_,qbG (by omega)⟩
   rw[qkY hc h2];unfold spI;omega
 · rw[zx h1]at h ⊢
   by_cases h2:(S[i]?).any isD=true
   · rw[zA h2]
     refine⟨_,rfl,?_,(qjo (by omega)).2⟩
     have h3:isD c=true:=by rw[hc]at h2;exact h2
     have e:rn S i=rn S (i+1):=by unfold rn;rw[Y2 hc h3,zt];omega
     have g1:=yX S (i+1)
     show i<(jx S i).1
     unfold jx;split
     · have:=(QH S (rn S (rn S i+1)) true).1
       have:=yX S (rn S i+1)
       omega
     · have:=(QH S (rn S i) false).1
       omega
   · rw[zx h2]at h ⊢
     by_cases h3:yF (S.drop i)=[]
     · rw[zA h3]at h
       have h:(90:Int)=0:=h
       omega
     · rw[zx h3]
       refine⟨_,rfl,?_,?_⟩
       · have:(yF (S.drop i)).length≠0:=fun e=>h3 (KH e)
         omega
       · have:(yF (S.drop i)).length≤(S.drop i).length:=by
          unfold yF;split
          · rw[zB];omega
          · split
            · rw[zB];omega
            · simp
         rw[zP]at this;omega
def endX(r:Lp (ByteArray×Nat×Int×(List T)×Unit) ((List (Int×Int×ByteArray×Int×Int))×Int×Int)):Option (List Tk×Int×Int):=match r with
 | .exit i5 p6=>(bif(Nat.beq i5 0)then
  (bif((true&&(Nat.beq p6.2.1 p6.2.2.2.1.length))&&(Nat.ble (p6.2.2.2.1.length+(List.length [(T.agg [(T.s (.int .u8 0)),(T.s (.int .i64 (ByteArray.size p6.1:Int))),(T.s (.string (ByteArray.empty))),(T.s (.int .i32 0)),(T.s (.int .u64 0))])])) 549755813888))then
  (Su.sub (p6.2.2.2.1++[(T.agg [(T.s (.int .u8 0)),(T.s (.int .i64 (ByteArray.size p6.1:Int))),(T.s (.string (ByteArray.empty))),(T.s (.int .i32 0)),(T.s (.int .u64 0))])]) 0 (List.length (p6.2.2.2.1++[(T.agg [(T.s (.int .u8 0)),(T.s (.int .i64 (ByteArray.size p6.1:Int))),(T.s (.string (ByteArray.empty))),(T.s (.int .i32 0)),(T.s (.int .u64 0))])]))).bind fun x7=>
  (unR (rTk) x7).bind fun x8=>
  some (x8,(0:Int),(0:Int))
 else none)
 else none)
 | .ret o9=>some o9
theorem qyr{S:List UInt8}(hS:S.length≤16384){i:Nat}(hi:i<S.length):QV (bs S,(i:Int))=some (jC S i):=by
 unfold QV;show(bif(decide ((0:Int)≤(i:Int))&&decide ((i:Int)<((S.length:Nat):Int)))&&Nat.ble S.length 1000000 then _ else _)=_
 rw[za (by omega),za (by omega),zr (by omega)];rfl
theorem qpo{S:List UInt8}(hS:S.length≤16384){i:Nat}(hi:i≤S.length):JB (bs S,(i:Int))=some ((skE S i:Nat):Int):=by
 unfold JB;show(bif(decide ((0:Int)≤(i:Int))&&decide ((i:Int)≤((S.length:Nat):Int)))&&Nat.ble S.length 1000000 then _ else _)=_
 rw[za (by omega),za (by omega),zr (by omega)];rfl
def qml(acc:List Tk)(q:List Tk×Int×Int):List Tk×(Int×Int):=if q.2.1=0 then(acc++q.1,0,0)else([],q.2)
theorem qws{S:List UInt8}:∀(f i:Nat),(yg S f i).2.1=0→(yg S f i).2=(0,0)
 | 0,_,_=>rfl
 | f+1,i,h=>by
  unfold yg at h ⊢
  split
  · rename_i h1
    rw[zA h1]at h;split
    · rename_i h2
      rw[zA h2]at h;split
      · rfl
      · rename_i h3
        rw[zx h3]at h;exact absurd h h3
    · rename_i h2
      rw[zx h2]at h;exact absurd h h2
  · rfl
theorem qtd{S:List UInt8}(hS:S.length≤16384):∀(f i:Nat) (acc:List Tk),i≤S.length→S.length<f+i→acc.length≤i →
 ∃r,(∃n,itP n Zx (bs S,(acc.map vTk).length,(i:Int),acc.map vTk,())=some r)∧endX r=some (qml acc (yg S f i)):=fun f=>by
 induction f with
 | zero=>intro i acc h1 h2;omega
 | succ f ih=>
  intro i acc h1 h2 h3;by_cases hi:i<S.length
  · have head:Zx (bs S,(acc.map vTk).length,(i:Int),acc.map vTk,())=(bif !(decide ((jC S i).2.2=0))then some (.inr (.ret ([],(jC S i).2.2,(i:Int))))else((JB (bs S,(jC S i).2.1)).bind fun x3=>some (.inl (bs S,((acc++[(jC S i).1]).map vTk).length,x3,(acc++[(jC S i).1]).map vTk,())))):=by
     unfold Zx;simp only[qe];rw[bdT (by omega)];refine obs (qyr hS hi) ?_
     rw[show Nat.beq (acc.map vTk).length (acc.map vTk).length=true from K7 _,zr (by rw[zH];simp only[zt,zU];omega),Kv];rfl
    by_cases he:(jC S i).2.2=0
    · obtain⟨k,e1,e2,e3⟩:=Y4 hi he
      obtain⟨g1,g2⟩:=qcb (S:=S) (i:=k) e3
      have head2:Zx (bs S,(acc.map vTk).length,(i:Int),acc.map vTk,())=some (.inl (bs S,((acc++[(jC S i).1]).map vTk).length,((skE S k:Nat):Int),(acc++[(jC S i).1]).map vTk,())):=by
       rw[head,bdN,bdT he,e1,qpo hS e3];rfl
      obtain⟨r,hr1,hr2⟩:=ih (skE S k) (acc++[(jC S i).1]) g2 (by omega) (by rw[zy,Wt];omega)
      refine⟨r,yZ head2 hr1,hr2.trans ?_⟩
      congr 1
      rw[yg,zA hi,zA he,e1,zd];unfold qml;by_cases hq:(yg S f (skE S k)).2.1=0
      · rw[zA hq,zA hq,zA rfl]
        rw[zR];rfl
      · rw[zx hq,zx hq,zx hq]
    · refine⟨.ret ([],(jC S i).2.2,(i:Int)),yK (head.trans (by rw[bdN,bdF he])),?_⟩
      rw[yg,zA hi,zx he];unfold qml;rw[zx he];rfl
  · refine⟨.exit 0 (bs S,(acc.map vTk).length,(i:Int),acc.map vTk,()),yK ?_,?_⟩
    · unfold Zx
      simp only[qe];rw[bdF (by omega)]
    · rw[yg,zx hi]
      unfold qml;rw[zA rfl];have et:[(T.agg [(T.s (.int .u8 0)),(T.s (.int .i64 (ByteArray.size (bs S):Int))),(T.s (.string (ByteArray.empty))),(T.s (.int .i32 0)),(T.s (.int .u64 0))])]=[qpn S].map vTk:=by rw[qe];rfl
      unfold endX;simp only[et];rw[show Nat.beq 0 0=true from rfl,zg,show Nat.beq (acc.map vTk).length (acc.map vTk).length=true from K7 _,zr (by rw[zH];simp only[zH,zt,zU];omega),← Kv,qyq];refine obs (qwr _) rfl
def qac(s:ByteArray):Option (List Tk×Int×Int):=bif okS []then some (qab (lb s))else none
theorem qgx(s:ByteArray):qac s=some (qab (lb s)):=by unfold qac;rw[qkV];rfl
theorem qte(s:ByteArray)(y:List Tk×Int×Int)(hg:(d1 cS).good s)(h:qac s=some y):∃n,qpm n s=some y:=by
 clear hg;rw[qgx]at h;revert h;refine onB (P:=fun s=>some (qab (lb s))=some y→∃n,qpm n s=some y) (fun S h=>?_) s
 have:=soi h;subst this
 rw[qD];unfold qab;by_cases hS:16384<S.length
 · refine⟨0,?_⟩
   unfold qpm;rw[zA hS,bdT (by rw[qe];omega)]
 · have hS':S.length≤16384:=by omega
   rw[zx hS];have g:=qcb (S:=S) (i:=0) (by omega)
   have e0:skE S 0=sk false S:=by unfold skE;rw[Kh,zD]
   obtain⟨r,⟨n,hn⟩,hr⟩:=qtd hS' (S.length+1) (skE S 0) [] g.2 (by omega) (by simp)
   refine⟨n,?_⟩
   have hz:qml [] (yg S (S.length+1) (skE S 0))=yg S (S.length+1) (skE S 0):=by
    unfold qml;by_cases hq:(yg S (S.length+1) (skE S 0)).2.1=0
    · rw[zA hq,zK,← qws _ _ hq]
    · rw[zx hq]
      have:∀f i,(yg S f i).2.1≠0→(yg S f i).1=[]:=by
       intro f;induction f with
       | zero=>intro i h;exact absurd rfl h
       | succ f ih=>
        intro i h;unfold yg at h ⊢
        split
        · rename_i h1
          rw[zA h1]at h;split
          · rename_i h2
            rw[zA h2]at h;split
            · rename_i h3
              rw[zA h3]at h;exact absurd rfl h
            · rfl
          · rfl
        · rename_i h1
          rw[zx h1]at h;exact absurd rfl h
      exact Prod.ext (this _ _ hq).symm rfl
   rw[← e0,← hz,← hr];unfold qpm;rw[bdF (by rw[qe];omega)];refine obs (qpo hS' (i:=0) (by omega)) ?_
   exact obs hn rfl
end
end
end Su
end
section
namespace Su
open Go Fly
noncomputable section
def qwt  (c:Int):Option Bool :=
 (Yj c).bind fun x0=>
 (bif x0 then
 some true
 else
  (bif(decide (48≤c))then
  some (decide (c≤57))
 else
  some false))
def qgy(c:Int):Option Bool:=bif decide (0≤c)&&decide (c<256)then some (JZ (UInt8.ofNat c.toNat))else none
theorem qtf(c:Int)(y:Bool)(hg:(d1 (cI .u8)).good c)(h:qgy c=some y):qwt c=some y:=by
 obtain⟨h1,h2⟩:=qh h;have:=soi h2;subst this
 simp only[zn,zL]at h1;obtain⟨k,rfl⟩:=z8 h1.1;have hk:(UInt8.ofNat k).toNat=k:=by rw[UInt8.toNat_ofNat'];omega
 have hl:Yj ((k:Nat):Int)=some (yT (UInt8.ofNat k)):=by have:=qkZ (UInt8.ofNat k);rwa [hk]at this
 rw[zd];unfold qwt;refine obs hl ?_
 unfold JZ isD;rw[hk];cases yT (UInt8.ofNat k)with
 | true=>rfl
 | false=>
  simp only[zm,VU];by_cases h1:48≤k
  · rw[bdT (by omega),zr h1,zZ]
    by_cases h2:k≤57
    · rw[za (by omega),zr h2]
    · rw[zk (by omega)]
      cases h:Nat.ble k 57 with
      | false=>rfl
      | true=>exact absurd (zo h) h2
  · rw[bdF (by omega)]
    cases h:Nat.ble 48 k with
    | false=>rfl
    | true=>exact absurd (zo h) h1
theorem qys(c:UInt8):qgy ((c.toNat:Nat):Int)=some (JZ c):=by
 have:=c.toNat_lt
 unfold qgy;rw[za (by omega),za (by omega),zd,zu];rfl
end
end Su
end
section
namespace Su
open Go Fly
noncomputable section
end
end Su
end
