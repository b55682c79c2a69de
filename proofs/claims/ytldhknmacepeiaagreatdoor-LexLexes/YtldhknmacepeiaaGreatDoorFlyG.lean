/-
  A small logic of walks: judgements, operations, regions, loops, calls. No condition.
-/
import Derived.Test.YtldhknmacepeiaaGreatDoorFlyD
set_option linter.unusedVariables false
set_option linter.unusedSimpArgs false
namespace Fly
open Go
def msk(acc:List Nat)(o:Oper):Nat:=o.after.toList.foldl (fun s e=>if Region.binds .any e then s ||| 2^e.on ||| acc.getD e.on 0 else s) 0
def yO:List Oper→List Nat→List Nat
 | [],acc=>acc
 | o::l,acc=>yO l (acc++[msk acc o])
def Qv(ms:List Nat)(i j:Nat):Bool:=(ms.getD i 0).testBit j
theorem qhJ(acc:List Nat)(j:Nat):∀(es:List Edge) (s:Nat),(es.foldl (fun s e=>if Region.binds .any e then s ||| 2^e.on ||| acc.getD e.on 0 else s) s).testBit j=true →
 s.testBit j=true∨∃e∈es,Region.binds .any e=true∧(e.on=j∨(acc.getD e.on 0).testBit j=true)
 | [],s,h=>.inl h
 | e::es,s,h=>by
  simp only[List.foldl_cons]at h;rcases qhJ acc j es _ h with h | ⟨e',he',hb,hx⟩
  · by_cases hb:Region.binds .any e=true
    · rw[zr hb]at h
      simp only[Nat.testBit_or,VT]at h;rcases h with(h | h) | h
      · exact .inl h
      · rw[Nat.testBit_two_pow]at h
        exact .inr ⟨e,by simp,hb,.inl (by simpa using h)⟩
      · exact .inr ⟨e,by simp,hb,.inr h⟩
    · rw[zp hb]at h;exact .inl h
  · exact .inr ⟨e',by simp[he'],hb,hx⟩
theorem qdy{all:List Oper}{Lst:Nat→Prop}(hcl:∀(k:Nat) (o:Oper),all[k]?=some o→Lst k→∀e∈o.after.toList,Region.binds .any e=true→Lst e.on) :
 ∀(l:List Oper) (acc:List Nat),(∀j,l[j]?=all[acc.length+j]?) →
  (∀(i:Nat) (o:Oper),i<acc.length→all[i]?=some o→(∀e∈o.after.toList,Region.binds .any e=true→Lst e.on)→∀j,Qv acc i j=true→Lst j) →
  ∀(i:Nat) (o:Oper),all[i]?=some o→(∀e∈o.after.toList,Region.binds .any e=true→Lst e.on)→∀j,Qv (yO l acc) i j=true→Lst j
 | [],acc,hl,hacc,i,o,ho,hd,j,h=>by
  by_cases hi:i<acc.length
  · exact hacc i o hi ho hd j h
  · simp[yO,Qv,List.getD_eq_getElem?_getD,zA (WA hi)]at h
 | x::l,acc,hl,hacc,i,o,ho,hd,j,h=>by
  refine qdy hcl l (acc++[msk acc x]) (fun j=>?_) (fun i o hi ho hd j h=>?_) i o ho hd j h
  · have:=hl (j+1)
    simp only[Vq]at this;rw[this];simp[Ku,Wz 1 j]
  · simp only[zJ,Vp]at hi
    by_cases hlt:i<acc.length
    · refine hacc i o hlt ho hd j ?_
      simpa[Qv,List.getD_eq_getElem?_getD,Ki hlt]using h
    · have hie:i=acc.length:=by omega
      subst hie;have hx:all[acc.length]?=some x:=by have:=hl 0;simpa using this.symm
      rw[hx]at ho;simp only[zb]at ho;subst ho;have h':(msk acc x).testBit j=true:=by simpa[Qv]using h
      rcases qhJ acc j _ 0 h' with h0 | ⟨e,he,hb,hj | hj⟩
      · simp at h0
      · exact hj ▸ hd e he hb
      · have hlt':e.on<acc.length:=by
         rcases VO e.on acc.length with h1 | h1
         · exact h1
         · simp[List.getD_eq_getElem?_getD,zA h1]at hj
        have hL:=hd e he hb;cases hoe:all[e.on]? with
        | none=>
         have h1:=hl 0
         have:acc.length<all.length:=(zn.1 hx).1
         rw[List.getElem?_eq_none_iff]at hoe;omega
        | some oe=>exact hacc e.on oe hlt' hoe (fun e' he' hb'=>hcl e.on oe hoe hL e' he' hb') j hj
theorem qe7{l:List Oper}{Lst:Nat→Prop}(hcl:∀(k:Nat) (o:Oper),l[k]?=some o→Lst k→∀e∈o.after.toList,Region.binds .any e=true→Lst e.on)
 {i:Nat} {o:Oper} (ho:l[i]?=some o) (hd:∀e∈o.after.toList,Region.binds .any e=true→Lst e.on) {j:Nat} (h:Qv (yO l []) i j=true):Lst j :=
 qdy hcl l [] (by simp) (fun i _ hi=>by simp at hi) i o ho hd j h
theorem gd{xs:Array Bool}{i:Nat}(h:i<xs.size)(b:Bool):xs.getD i b=xs[i]:=by
 rw[Array.getD_eq_getD_getElem?,Array.getElem?_eq_getElem h];rfl
def qgr(l:List Oper):Bool:=l.zipIdx.all fun p=>p.1.after.toList.all fun e=>!Region.binds .any e||Nat.blt e.on p.2
def qkx(l:List Oper)(ms:List Nat)(m:Nat):Bool:=(l.zipIdx.drop m).all fun p=>(List.range p.2).all fun j=>Qv ms p.2 j
theorem JB{l:List Oper}(h:qgr l=true){i:Nat}{o:Oper}(ho:l[i]?=some o):∀e∈o.after.toList,Region.binds .any e=true→e.on<i:=by
 intro e he hb;simp only[qgr,zX]at h;have h1:=h (o,i) (by rw[KP];simpa using ho) 
 have h2:=h1 e he;simpa[hb]using h2
theorem qdz{l:List Oper}{ms:List Nat}{m:Nat}(h:qkx l ms m=true){i:Nat}(hi:m≤i)(hl:i<l.length):∀j,j<i→Qv ms i j=true:=by
 intro j hj;simp only[qkx,zX]at h;have h1:=h (l[i],i) (by
  rw[Vo];exact⟨i-m,by rw[KX,show m+(i-m)=i by omega];simp[hl]⟩)
 exact h1 j (by simpa using hj)
section
variable {P:Program} {n:Nat} {X:Cx} {L:Lo} {V:qb} {G:Own} {K:List KI}
theorem qab{l:List Oper}{ms:List Nat}{m:Nat}(hms:yO l []=ms)(hT:qkx l ms m=true)(hE:qgr l=true){Q:Exit→Act→World→Prop}:∀(fuel k:Nat) (listed:Array Bool) (a:Act) (w:World),m≤k→k+fuel=l.length→listed.size=l.length→(∀j,j<l.length→listed.getD j true=decide (j<k)) →
 wpList P l.toArray Q (l.drop k) a w→wpAny P .any l.toArray Q fuel listed a w
 | 0,k,listed,a,w,hk,hf,hs,hl,h=>by
  have hkl:k=l.length:=by omega
  subst hkl;refine⟨?_,by simpa[wpList]using h⟩
  cases hr:Region.ready .any l.toArray listed with
  | nil=>rfl
  | cons x xs=>
   have hx:x∈Region.ready .any l.toArray listed:=by simp[hr]
   obtain⟨h0,o,ho,_⟩:=mem_ready.1 hx;have hlt:x<l.length:=by have:=(z6.1 ho).1;simpa using this
   rw[hl x hlt]at h0;simp[hlt]at h0
 | fuel+1,k,listed,a,w,hk,hf,hs,hl,h=>by
  have hkl:k<l.length:=by omega
  have hready:∀i∈Region.ready .any l.toArray listed,i=k:=by
   intro i hi;obtain⟨h0,o,ho,hall⟩:=mem_ready.1 hi;have ho':l[i]?=some o:=by simpa using ho
   have hlt:i<l.length:=(zn.1 ho').1
   rw[hl i hlt]at h0;have hge:k≤i:=by simpa using h0
   rcases VO k i with hki | hki
   · have hanc:Qv (yO l []) i k=true:=by rw[hms];exact qdz hT (by omega) hlt k hki
     have:=qe7 (l:=l) (Lst:=fun j=>j<k) (fun k' o' ho'' hL e he hb=>Nat.lt_trans (JB hE ho'' e he hb) hL) ho' (fun e he hb=>by
      have h1:=hall e (by simpa using he) hb
      have hel:e.on<l.length:=by have:=JB hE ho' e he hb;omega
      have h2:=hl e.on hel;rw[show listed.getD e.on true=listed.getD e.on false by rw[gd (by omega),gd (by omega)]]at h2;rw[h1]at h2;simpa using h2.symm) hanc
     omega
   · omega
  have hk':k∈Region.ready .any l.toArray listed:=by
   rw[mem_ready];refine⟨by rw[hl k hkl];simp,l[k],by simp[hkl],fun e he hb=>?_⟩
   have he':=JB hE (i:=k) (o:=l[k]) (by simp[hkl]) e (by simpa using he) hb
   have h2:=hl e.on (by omega)
   rw[show listed.getD e.on true=listed.getD e.on false by rw[gd (by omega),gd (by omega)]]at h2;rw[h2];simpa using he'
  refine⟨fun h0=>by rw[h0]at hk';simp at hk',fun i hi=>?_⟩
  rw[hready i hi];have hd:l.drop k=l[k]::l.drop (k+1):=zG hkl
  rw[hd]at h;have ih:∀a w,wpList P l.toArray Q (l.drop (k+1)) a w→wpAny P .any l.toArray Q fuel (listed.setIfInBounds k true) a w:=fun a w h=>
   qab hms hT hE fuel (k+1) _ a w (by omega) (by omega) (by simpa using hs) (fun j hj=>by
    by_cases hjk:k=j
    · subst hjk;rw[gd (by simp;omega)];simp
    · rw[getD_set_ne true hjk,hl j hj]
      have e1:(j<k+1)=(j<k):=by apply propext;omega
      simp only[e1]) h
  unfold wpOp;have hok:l.toArray[k]?=some l[k]:=by simp[hkl]
  simp only[hok];unfold wpList at h;split
  · rename_i hw
    rw[zr hw]at h;exact h.imp (Oper.wp_mono ih) id
  · rename_i hw
    rw[zp hw]at h;exact ih _ _ h
def qwN(Es:Nat→Own)(b:Nat→Bool):Nat→Own
 | 0=>[]
 | m+1=>qwN Es b m++(bif b m then Es m else[])
def jY(Es:Nat→Own):Nat→Own
 | 0=>[]
 | m+1=>jY Es m++Es m
theorem qe8:∀(l:List Bool) (i:Nat),l[i]?=some false→(l.set i true).count false+1=l.count false
 | [],i,h=>by simp at h
 | x::l,0,h=>by simp at h;subst h;simp
 | x::l,i+1,h=>by
  simp only[Vq]at h;have:=qe8 l i h
  cases x <;> simp <;> omega
structure Inv (n:Nat) (X:Cx) (L:Lo) (V:qb) (G:Own) (l:List Oper) (ms:List Nat) (m:Nat) (Y:Nat→Value→Own→qb→Prop) (listed:Array Bool) (a:Act) (w:World) (vals:Nat→Value) (Es:Nat→Own) (V':qb):Prop where
 sub:Sub V V'
 closed:∀(k:Nat) (o:Oper),l[k]?=some o→listed.getD k false=true→∀e∈o.after.toList,Region.binds .any e=true→listed.getD e.on false=true
 only:∀k,m≤k→listed.getD k false=false
 facts:∀i,i<m→listed.getD i false=true→Y i (vals i) (Es i) V'
 defers:a.defers=[]
 size:a.tmps.size=n
 new:∀(i:Nat) (o:Oper) (d:Tmp),i<m→listed.getD i false=true→l[i]?=some o→o.dst=some d→a.tmps[d]?=some (vals i)
 old:∀t v,lk L t=some v→(∀(i:Nat) (o:Oper),i<m→listed.getD i false=true→l[i]?=some o→o.dst≠some t)→a.tmps[t]?=some v
 holds:Holds X V' (qwN Es (fun i=>listed.getD i false) m++G) w
end
end Fly
