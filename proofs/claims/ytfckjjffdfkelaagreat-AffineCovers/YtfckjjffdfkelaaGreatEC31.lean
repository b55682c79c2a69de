/-
  The evaluator computes what the plain functions say.
-/
import Derived.Test.YtfckjjffdfkelaaGreatNC31
import Derived.Test.YtfckjjffdfkelaaGreatSuTb
import Derived.Test.YtfckjjffdfkelaaGreatEC08
import Derived.Test.YtfckjjffdfkelaaGreatND30
import Derived.Test.YtfckjjffdfkelaaGreatSuP0
import Derived.ChangeSame
import Derived.ChangeOld
import Derived.DataReads
import Derived.Test.YtfckjjffdfkelaaGreatSuE
import Derived.RowKit
import Derived.Test.YtfckjjffdfkelaaGreatFlyM
import Derived.Test.YtfckjjffdfkelaaGreatNB10
set_option maxRecDepth 10000
section
namespace Su
noncomputable section
open Go Go.Proofs Fly
set_option maxRecDepth 100000
theorem qAA (fu:Nat) (a:Fm) (b:Fm):qx tb qj2 (shN tb qj2 fu 9) fu 53 ((dc qu (d1 qu)).enc (a,b)) ((d1 qu)).dec=qzl fu a b:=by kernel_rfl
def qwD:PrimD:=prim (dc qu (d1 qu)) (d1 qu) (ZY)
theorem qE1:OkT 53 qwD:=qi qz qh9 (by kernel_rfl) fun a y hg h=>by
 obtain ⟨n,hn⟩:=qzm a y hg h
 exact ⟨n,9,n,(qAA n a.1 a.2).trans hn⟩
def qnE:qq:=qX [(53,qwD)] qj2
theorem qre:PkT qnE:=qm qh9 (qf qE1 qr)
end
end Su
end
section
namespace Su
open Go Go.Proofs Fly
set_option maxRecDepth 100000
theorem qAB (fu:Nat)  (a:Fm) (b:Fm) (noises:(List Int)) (p:Int) (most:Int) (s:(Bool×(Int×Int))):qx tb qnE (shN tb qnE fu 9) fu 10 ((dc qu (dc qu (dc (cQ 3 1) (dc (cI .i64) (dc (cI .i64) (d1 Yv)))))).enc (a,b,noises,p,most,s)) ((d1 cB)).dec=qzo a b noises p most s:=by kernel_rfl
noncomputable def qE2:PrimD:=prim (dc qu (dc qu (dc (cQ 3 1) (dc (cI .i64) (dc (cI .i64) (d1 Yv)))))) (d1 cB) (qu1)
theorem qE3:OkT 10 qE2:=qi qz qre (by kernel_rfl) fun a y hg h=>⟨0,9,0,(qAB 0 a.1 a.2.1 a.2.2.1 a.2.2.2.1 a.2.2.2.2.1 a.2.2.2.2.2).trans (qzs a y hg h)⟩
end Su
end
section
namespace Su
open Go Fly
def jV (P:Program) (t:Nat):Bool:=match P.underlying t with
 | some (.struct _)=>true
 | _=>false
def qia (P:Program) (S:List Nat) (n:Nat):Nat→List Field→Bool
 | o,[]=>Nat.beq o n
 | o,f::fs=>Nat.beq f.offset o&&(S.contains f.type&&qia P S n (o+P.cellsOf f.type) fs)
def Zx (P:Program) (S:List Nat) (t:Nat):Bool:=match P.underlying t with
 | some .bool=>Nat.beq (P.cellsOf t) 1
 | some (.int _)=>Nat.beq (P.cellsOf t) 1
 | some (.float _)=>Nat.beq (P.cellsOf t) 1
 | some .string=>Nat.beq (P.cellsOf t) 1
 | some (.slice e)=>Nat.beq (P.cellsOf t) 1&&(S.contains e&&Nat.blt 0 (P.cellsOf e))
 | some (.struct fs)=>qia P S (P.cellsOf t) 0 fs.toList
 | _=>false
inductive All2 {α β:Type} (R:α→β→Prop):List α→List β→Prop
 | nil:All2 R [] []
 | cons {a:α} {b:β} {l:List α} {m:List β} (h:R a b) (h':All2 R l m):All2 R (a::l) (b::m)
def Shp (P:Program):Nat→Nat→List T→Prop
 | 0,_,_=>False
 | fuel+1,t,xs=>match P.underlying t with
  | some .bool=>∃ b,xs=[.s (.bool b)]
  | some (.int k)=>∃ n,xs=[.s (.int k n)]∧(Lit.int k n).wf=true
  | some (.float k)=>∃ b,xs=[.s (.float k b)]∧(Lit.float k b).wf=true
  | some .string=>∃ s,xs=[.s (.string s)]∧s.size≤maxLen
  | some (.slice e)=>∃ l,xs=[.sl (P.cellsOf e) l]∧l.length≤maxLen∧∀ x∈l,x.isAgg=jV P e∧Shp P fuel e x.cells
  | some (.struct fs)=>∃ parts:List (List T),xs=parts.flatten∧All2 (fun (f:Field) p=>Shp P fuel f.type p) fs.toList parts
  | _=>False
def hv (w:World):qc:=fun b=>w.heap[b]?
theorem qAC {a:Addr} {m n:Nat} (h:n≠0∨m=0∨a.spot=none):(a.add m).add n=a.add (m+n):=by
 unfold Addr.add
 by_cases hn:n=0
 · subst hn;simp
 · by_cases hm:m=0
   · subst hm;simp [hn]
   · simp [hn,hm,Nat.add_assoc]
theorem qgr {w:World} {a:Addr} {v:Value} (h:w.cell? a=some v):a.spot=none∧rd (hv w) a.block a.off v:=by
 unfold World.cell? at h
 split at h
 · rename_i c e f hb
   cases hs:a.spot with
   | some s=>rw [hs] at h;simp at h
   | none=>rw [hs] at h;exact ⟨rfl,c,e,f,hb,by simpa using h⟩
 · simp at h
theorem qpR (a:Addr) (n:Nat):(a.add n).off=a.off+n∧(a.add n).block=a.block:=by
 unfold Addr.add;split
 · rename_i h;subst h;exact ⟨rfl,rfl⟩
 · exact ⟨rfl,rfl⟩
theorem qpS {w:World} {a:Addr} {k:Nat} (hk:0<k):∀ (css:List (List Value)) (s:Nat),(∀ i cs,css[i]?=some cs→w.cells? 0 (a.add ((s+i)*k)) k=some cs)→∀ j c,css.flatten[j]?=some c→rd (hv w) a.block (a.off+s*k+j) c∧w.cell? (a.add (s*k+j))=some c
 | [],s,h,j,c,hj=>by simp at hj
 | c0::css,s,h,j,c,hj=>by
  obtain ⟨_,hl,hc⟩:=World.cells?_some (h 0 c0 rfl)
  simp only [Nat.add_zero] at hc
  rw [List.flatten_cons] at hj
  rcases Nat.lt_or_ge j k with hjk | hjk
  · rw [List.getElem?_append_left (by omega)] at hj
    have h1:=hc j hjk
    rw [hj] at h1
    have h3:w.cell? (a.add (s*k+j))=some c:=by
     by_cases hj0:j=0
     · subst hj0
       have:(a.add (s*k)).add 0=a.add (s*k):=by unfold Addr.add;simp
       rw [this] at h1;exact h1
     · rw [qAC (.inl hj0)] at h1;exact h1
    obtain ⟨_,h2⟩:=qgr h3
    rw [(qpR _ _).1,(qpR _ _).2] at h2
    exact ⟨by rw [Nat.add_assoc];exact h2,h3⟩
  · rw [List.getElem?_append_right (by omega),hl] at hj
    have h2:=qpS hk css (s+1) (fun i cs hi=>by
     have:=h (i+1) cs (by simpa using hi)
     rw [show s+1+i=s+(i+1) by omega];exact this) (j-k) c hj
    have e1:(s+1)*k+(j-k)=s*k+j:=by rw [Nat.add_mul];omega
    rw [Nat.add_assoc,e1] at h2
    exact ⟨by rw [Nat.add_assoc];exact h2.1,h2.2⟩
end Su
end
section
namespace Su
open Go Fly
theorem qnF {β γ:Type} {f:Nat→Option (List β)} {g:List β→Option γ} {n:Nat} {r:List γ} (h:(List.range n).mapM (fun i=>(f i).bind g)=some r) :
 ∃ css:List (List β),css.length=n∧∀ (i:Nat) (cs:List β),css[i]?=some cs→f i=some cs∧∃ y,y∈r∧g cs=some y:=by
 have hl:r.length=n:=by simpa using mapM_some_length h
 refine ⟨(List.range n).map fun i=>(f i).getD [],by simp,fun i cs hi=>?_⟩
 have hin:i<n:=by
  have:=(List.getElem?_eq_some_iff.1 hi).1
  simpa using this
 have h1:=mapM_some_get h i i (by simp [hin])
 rw [List.getElem?_eq_getElem (by omega)] at h1
 obtain ⟨c,hc,hg⟩:=Option.bind_eq_some_iff.1 h1
 have:cs=c:=by
  rw [List.getElem?_map,List.getElem?_range hin] at hi
  simp [hc] at hi;exact hi.symm
 subst this
 exact ⟨hc,_,List.getElem_mem _,hg⟩
theorem qpT {α β:Type} {R:α→β→Prop}:∀ {l:List α},(∀ x∈l,∃ y,R x y)→∃ m,All2 R l m
 | [],_=>⟨[],.nil⟩
 | x::l,h=>by
  obtain ⟨y,hy⟩:=h x (List.mem_cons_self ..)
  obtain ⟨m,hm⟩:=qpT (l:=l) fun z hz=>h z (List.mem_cons_of_mem _ hz)
  exact ⟨y::m,.cons hy hm⟩
theorem All2.length {α β:Type} {R:α→β→Prop} {l:List α} {m:List β} (h:All2 R l m):l.length=m.length:=by
 induction h with
 | nil=>rfl
 | cons _ _ ih=>simp [ih]
theorem All2.right {α β:Type} {R:α→β→Prop} {l:List α} {m:List β} (h:All2 R l m):∀ y∈m,∃ x,R x y:=by
 induction h with
 | nil=>intro y hy;simp at hy
 | cons hr _ ih =>
  intro y hy
  rcases List.mem_cons.1 hy with rfl | hy
  · exact ⟨_,hr⟩
  · exact ih y hy
section
variable {H:Type} {enc:TypeId×Value→H} {P:Program} {w:World} {S:List Nat}
def qAD (enc:TypeId×Value→H) (P:Program) (w:World) (fuel t:Nat) (cs:List Value) (x:DataW H×List MemPlace):Prop :=
 (∃ xs,RepA (hv w) xs cs∧(∀ y∈xs,y.isAgg=false)∧xs.length=P.cellsOf t∧Shp P fuel t xs)∧∀ sp:Nat→Bool,(∀ p∈x.2,sp p.block=true)→DataW.trod enc P w 0 sp true fuel t cs=some x
theorem qpU {fuel t:Nat} {xs:List T} (h:Shp P fuel t xs) (hg:jV P t=false) (hok:Zx P S t=true):∃ x,xs=[x]∧x.isAgg=false∧x.cells=[x]:=by
 cases fuel with
 | zero=>exact absurd h (by simp [Shp])
 | succ fuel =>
  unfold Shp at h
  unfold jV at hg
  split at h
  · obtain ⟨b,rfl⟩:=h;exact ⟨_,rfl,rfl,rfl⟩
  · obtain ⟨b,rfl,_⟩:=h;exact ⟨_,rfl,rfl,rfl⟩
  · obtain ⟨b,rfl,_⟩:=h;exact ⟨_,rfl,rfl,rfl⟩
  · obtain ⟨b,rfl,_⟩:=h;exact ⟨_,rfl,rfl,rfl⟩
  · obtain ⟨b,rfl,_⟩:=h;exact ⟨_,rfl,rfl,rfl⟩
  · rename_i hu;rw [hu] at hg;simp at hg
  · exact absurd h (by simp)
theorem qrf {fuel e:Nat} {cs:List Value} {x:DataW H×List MemPlace} (hok:Zx P S e=true) (h:qAD enc P w fuel e cs x) :
 ∃ z:T,RepA (hv w) z.cells cs∧(∀ y∈z.cells,y.isAgg=false)∧z.cells.length=P.cellsOf e∧z.isAgg=jV P e∧Shp P fuel e z.cells:=by
 obtain ⟨⟨xs,h1,h2,h3,h4⟩,_⟩:=h
 cases hg:jV P e with
 | true=>exact ⟨.agg xs,h1,h2,h3,rfl,h4⟩
 | false =>
  obtain ⟨z,rfl,hz,hzc⟩:=qpU h4 hg hok
  exact ⟨z,by rw [hzc];exact h1,by rw [hzc];exact h2,by rw [hzc];exact h3,hz,by rw [hzc];exact h4⟩
theorem qib {fuel e:Nat}:∀ {css:List (List Value)} {l:List T},All2 (fun cs z=>RepA (hv w) z.cells cs∧(∀ y∈z.cells,y.isAgg=false)∧z.cells.length=P.cellsOf e∧z.isAgg=jV P e∧Shp P fuel e z.cells) css l →
 RepA (hv w) (l.flatMap T.cells) css.flatten∧(∀ y∈l.flatMap T.cells,y.isAgg=false)
 | _,_,.nil=>⟨.nil,by simp⟩
 | _,_,.cons h h'=>by
  obtain ⟨h1,h2⟩:=qib h'
  rw [List.flatMap_cons,List.flatten_cons]
  refine ⟨h.1.append h1,fun y hy=>?_⟩
  rcases List.mem_append.1 hy with hy | hy
  · exact h.2.1 y hy
  · exact h2 y hy
theorem qgs {fuel:Nat} {cs:List Value} (ih:∀ t∈S,∀ (cs:List Value) (x:DataW H×List MemPlace),DataW.trod enc P w 0 (fun _=>true) true fuel t cs=some x→qAD enc P w fuel t cs x):∀ (fs:List Field) (o:Nat) (ys:List (DataW H×List MemPlace)),
 qia P S cs.length o fs=true→fs.mapM (fun f=>DataW.trod enc P w 0 (fun _=>true) true fuel f.type ((cs.drop f.offset).take (P.cellsOf f.type)))=some ys →
 ∃ parts:List (List T),RepA (hv w) parts.flatten (cs.drop o)∧(∀ y∈parts.flatten,y.isAgg=false)∧All2 (fun (f:Field) p=>Shp P fuel f.type p) fs parts
 | [],o,ys,ht,_=>by
  have:=Nat.eq_of_beq_eq_true ht;subst this
  rw [List.drop_of_length_le (Nat.le_refl _)]
  exact ⟨[],.nil,by simp,.nil⟩
 | f::fs,o,ys,ht,h=>by
  simp only [qia,Bool.and_eq_true] at ht
  obtain ⟨h1,h2,h3⟩:=ht
  have:=Nat.eq_of_beq_eq_true h1;subst this
  rw [List.mapM_cons] at h
  obtain ⟨y,hy,h⟩:=qb (a:=DataW.trod enc P w 0 (fun _=>true) true fuel f.type ((cs.drop f.offset).take (P.cellsOf f.type))) h
  obtain ⟨ys',hys,_⟩:=qb (a:=fs.mapM (fun f=>DataW.trod enc P w 0 (fun _=>true) true fuel f.type ((cs.drop f.offset).take (P.cellsOf f.type)))) h
  obtain ⟨⟨xs,a1,a2,a3,a4⟩,_⟩:=ih f.type (by simpa using h2) _ _ hy
  obtain ⟨parts,b1,b2,b3⟩:=qgs ih fs _ _ h3 hys
  refine ⟨xs::parts,?_,fun z hz=>?_,.cons a4 b3⟩
  · rw [List.flatten_cons,← List.take_append_drop (P.cellsOf f.type) (cs.drop f.offset),List.drop_drop]
    exact a1.append b1
  · rw [List.flatten_cons] at hz
    rcases List.mem_append.1 hz with hz | hz
    · exact a2 z hz
    · exact b2 z hz
theorem qrg (hS:∀ t∈S,Zx P S t=true):∀ (fuel t:Nat),t∈S→∀ (cs:List Value) (x:DataW H×List MemPlace),DataW.trod enc P w 0 (fun _=>true) true fuel t cs=some x→qAD enc P w fuel t cs x:=by
 intro fuel
 induction fuel with
 | zero=>intro t _ cs x h;simp [DataW.trod] at h
 | succ fuel ih =>
  intro t htS cs x h
  have hok:=hS t htS
  have one:∀ (v:Value),qml v=true→cs=[v]→Nat.beq (P.cellsOf t) 1=true→Shp P (fuel+1) t [.s v]→(∀ sp:Nat→Bool,(∀ p∈x.2,sp p.block=true)→DataW.trod enc P w 0 sp true (fuel+1) t cs=some x)→qAD enc P w (fuel+1) t cs x:=by
   rintro v hv' rfl h1 h2 h3
   exact ⟨⟨[.s v],.cons (.s hv') .nil,by simp [T.isAgg],by rw [Nat.eq_of_beq_eq_true h1];rfl,h2⟩,h3⟩
  have hh:=h
  rw [DataW.trod_step] at h
  unfold DataW.trodStep at h
  split at h
  case h_1 b hu =>
   refine one _ rfl rfl (by simpa [Zx,hu] using hok) (by simp only [Shp,hu];exact ⟨b,rfl⟩) fun sp _=>?_
   rw [DataW.trod_step] at hh ⊢;unfold DataW.trodStep at hh ⊢;simp only [hu] at hh ⊢;exact hh
  case h_2 k k' n hu =>
   split at h
   · rename_i hc
     obtain ⟨rfl,hw⟩:=hc
     refine one (.int k' n) (show qml (.int k' n)=true from hw) rfl (by simpa [Zx,hu] using hok) (by simp only [Shp,hu];exact ⟨n,rfl,hw⟩) fun sp _=>?_
     rw [DataW.trod_step] at hh ⊢;unfold DataW.trodStep at hh ⊢;simp only [hu] at hh ⊢;exact hh
   · simp at h
  case h_3 k k' b hu =>
   split at h
   · rename_i hc
     obtain ⟨rfl,hw⟩:=hc
     refine one _ rfl rfl (by simpa [Zx,hu] using hok) (by simp only [Shp,hu];exact ⟨b,rfl,hw⟩) fun sp _=>?_
     rw [DataW.trod_step] at hh ⊢;unfold DataW.trodStep at hh ⊢;simp only [hu] at hh ⊢;exact hh
   · simp at h
  case h_4 st hu =>
   split at h
   · rename_i hc
     refine one _ (by show Nat.ble _ _=true;rw [Nat.ble_eq];exact hc) rfl (by simpa [Zx,hu] using hok) (by simp only [Shp,hu];exact ⟨st,rfl,hc⟩) fun sp _=>?_
     rw [DataW.trod_step] at hh ⊢;unfold DataW.trodStep at hh ⊢;simp only [hu] at hh ⊢;exact hh
   · simp at h
  case h_7 e hu =>
   simp only [Zx,hu,Bool.and_eq_true] at hok
   refine ⟨⟨[.sl (P.cellsOf e) []],.cons (.sl (l:=[]) (vs:=[]) .nil (by simp) (by simp) (by simp) (by simp [maxLen]) (.inl rfl)) .nil,by simp [T.isAgg],by rw [Nat.eq_of_beq_eq_true hok.1];rfl,?_⟩,fun sp _=>?_⟩
   · simp only [Shp,hu];exact ⟨[],rfl,by simp,by simp⟩
   · rw [DataW.trod_step] at hh ⊢;unfold DataW.trodStep at hh ⊢;simp only [hu] at hh ⊢;exact hh
  case h_8 e a len cap hu =>
   simp only [Zx,hu,Bool.and_eq_true,List.contains_iff_mem] at hok
   obtain ⟨ho1,ho2,ho3⟩:=hok
   have hk:0<P.cellsOf e:=by rw [Nat.blt_eq] at ho3;exact ho3
   simp only [] at h
   split at h
   · rename_i hc
     obtain ⟨hc0,hc1,hc2⟩:=hc
     simp only [Option.map_eq_some_iff,Option.bind_eq_some_iff] at h
     obtain ⟨elems,he,rest,hrest,rfl⟩:=h
     have hlen:elems.length=len:=by simpa using mapM_some_length he
     obtain ⟨css,hcl,hcs⟩:=qnF he
     have hz:∀ cs∈css,∃ z:T,RepA (hv w) z.cells cs∧(∀ y∈z.cells,y.isAgg=false)∧z.cells.length=P.cellsOf e∧z.isAgg=jV P e∧Shp P fuel e z.cells:=by
      intro cs hm
      obtain ⟨i,hi⟩:=List.mem_iff_getElem?.1 hm
      obtain ⟨_,y,_,hy⟩:=hcs i cs hi
      exact qrf (hS e ho2) (ih e ho2 _ _ hy)
     obtain ⟨l,hl⟩:=qpT hz
     obtain ⟨r1,r2⟩:=qib hl
     have hll:l.length=len:=by rw [← hl.length,hcl]
     have hrd:=qpS (w:=w) (a:=a) hk css 0 fun i cs hi=>by rw [Nat.zero_add];exact (hcs i cs hi).1
     refine ⟨⟨[.sl (P.cellsOf e) l],.cons ?_ .nil,by simp [T.isAgg],by rw [Nat.eq_of_beq_eq_true ho1];rfl,?_⟩,fun sp hsp=>?_⟩
     · rw [← hll]
       refine .sl r1 r2 (fun x hx=>?_) (by rw [hll];exact hc1) hc2 ?_
       · obtain ⟨cs,hx1⟩:=hl.right x hx
         exact hx1.2.2.1
       · cases hl0:css with
         | nil=>rw [hl0] at hcl;left;rw [← List.length_eq_zero_iff];rw [hll,← hcl];rfl
         | cons c0 css' =>
          right
          have h0:=(hcs 0 c0 (by rw [hl0];rfl)).1
          obtain ⟨_,hcl0,hcc⟩:=World.cells?_some h0
          have h00:=hcc 0 hk
          have hc00:c0[0]?=some (c0[0]'(by omega)):=by rw [List.getElem?_eq_getElem]
          rw [hc00] at h00
          have hsp:a.spot=none:=by
           have e0:(a.add (0*P.cellsOf e)).add 0=a:=by unfold Addr.add;simp
           rw [e0] at h00
           exact (qgr h00).1
          refine ⟨a.block,a.off,by cases a;simp at hsp;subst hsp;rfl,fun j c hj=>?_⟩
          rw [← hl0] at hj
          have:=(hrd j c hj).1
          simpa using this
     · simp only [Shp,hu]
       refine ⟨l,rfl,by omega,fun x hx=>?_⟩
       obtain ⟨cs,hx1⟩:=hl.right x hx
       exact ⟨hx1.2.2.2.1,hx1.2.2.2.2⟩
     · rw [DataW.trod_step]
       unfold DataW.trodStep
       simp only [hu]
       rw [if_pos ⟨hc0,hc1,hc2⟩]
       simp only [Option.map_eq_some_iff,Option.bind_eq_some_iff]
       have elem:∀ (i:Nat) (y:DataW H×List MemPlace),y∈elems++rest→(w.cells? 0 (a.add (i*P.cellsOf e)) (P.cellsOf e)).bind (DataW.trod enc P w 0 (fun _=>true) true fuel e)=some y →
        (w.cells? 0 (a.add (i*P.cellsOf e)) (P.cellsOf e)).bind (DataW.trod enc P w 0 sp true fuel e)=some y:=by
        intro i y hy h1
        obtain ⟨cs,h2,h3⟩:=Option.bind_eq_some_iff.1 h1
        refine Option.bind_eq_some_iff.2 ⟨cs,h2,(ih e ho2 _ _ h3).2 sp fun p hp=>hsp p ?_⟩
        exact List.mem_append_right _ (List.mem_flatMap.2 ⟨y,hy,hp⟩)
       refine ⟨elems,mapM_carry he fun i y _ hy h1=>elem i y (List.mem_append_left _ hy) h1,rest,?_,rfl⟩
       simp only [if_true] at hrest
       by_cases h0:cap-len=0
       · rw [h0] at hrest ⊢
         simp at hrest
         subst hrest
         split <;> rfl
       · have hrl:rest.length=cap-len:=by simpa using mapM_some_length hrest
         have:sp a.block=true:=hsp (.cell a.block (a.off+0)) (List.mem_append_left _ (MemPlace.mem_row.2 ⟨0,Nat.mul_pos (by omega) hk,rfl⟩))
         rw [if_pos this]
         exact mapM_carry hrest fun i y _ hy h1=>elem _ y (List.mem_append_right _ hy) h1
   · simp at h
  case h_9 fs hu =>
   simp only [Zx,hu] at hok
   split at h
   · rename_i hc
     simp only [Option.map_eq_some_iff] at h
     obtain ⟨ys,hy,rfl⟩:=h
     rw [← hc] at hok
     obtain ⟨parts,b1,b2,b3⟩:=qgs ih fs.toList 0 ys hok hy
     rw [List.drop_zero] at b1
     refine ⟨⟨parts.flatten,b1,b2,by rw [b1.length,hc],?_⟩,fun sp hsp=>?_⟩
     · simp only [Shp,hu];exact ⟨parts,rfl,b3⟩
     · rw [DataW.trod_step]
       unfold DataW.trodStep
       simp only [hu]
       rw [if_pos hc]
       simp only [Option.map_eq_some_iff]
       have inS:∀ (N:Nat) (l:List Field) (o:Nat),qia P S N o l=true→∀ f∈l,f.type∈S:=by
        intro N l
        induction l with
        | nil=>intro o _ f hf;simp at hf
        | cons g l ihl =>
         intro o ht f hf
         simp only [qia,Bool.and_eq_true] at ht
         rcases List.mem_cons.1 hf with rfl | hf
         · simpa using ht.2.1
         · exact ihl _ ht.2.2 f hf
       refine ⟨ys,mapM_carry hy fun f y hf hym h1=>(ih f.type (inS _ _ _ hok f hf) _ _ h1).2 sp fun p hp=>hsp p (List.mem_flatMap.2 ⟨y,hym,hp⟩),rfl⟩
   · simp at h
  all_goals first
   | (rename_i hu;simp [Zx,hu] at hok;done)
   | (rename_i hu _;simp [Zx,hu] at hok;done)
   | (simp at h;done)
end
end Su
end
section
namespace Su
open Go Fly Go.RowKit Go.ChangeShapes
section
variable {H:Type} {enc:TypeId×Value→H} {P:Program} {w:World} {S:List Nat}
def qgI (P:Program) (t:Nat) (x:T):Prop:=x.isAgg=jV P t∧∃ fuel,Shp P fuel t x.cells
theorem qAE {r:Reach} {b0:Nat} {t:Nat} {cs:Array Value} (hok:Zx P S t=true) (hg:jV P t=false) (h:Value.okWide P w r b0 t (.agg cs)):False:=by
 unfold Zx at hok
 unfold Value.okWide Cell.okWide Cell.ok at h
 unfold jV at hg
 split at hok
 all_goals rename_i hu
 all_goals first
  | (simp [hu] at hok;done)
  | (simp [hu] at hg;done)
  | (simp [hu] at h;done)
theorem qwE (hS:∀ t∈S,Zx P S t=true) {r:Reach} {b0 t:Nat} {v:Value} {d:DataW H} {p:List MemPlace} (ht:t∈S) (hval:Value.okWide P w r b0 t v) (h:DataW.Trod enc P w 0 (fun _=>true) true t v d p) :
 (∃ x,Rep (hv w) x v∧qgI P t x)∧∀ sp:Nat→Bool,(∀ q∈p,sp q.block=true)→DataW.Trod enc P w 0 sp true t v d p:=by
 obtain ⟨fuel,hf⟩:=h
 have hgood:=qrg hS fuel t ht _ _ hf
 refine ⟨?_,fun sp hsp=>⟨fuel,hgood.2 sp hsp⟩⟩
 obtain ⟨⟨xs,h1,h2,h3,h4⟩,_⟩:=hgood
 cases hg:jV P t with
 | true =>
  have:∃ cs,v = .agg cs:=by
   unfold jV at hg
   split at hg
   · rename_i fs hu
     unfold Value.okWide at hval
     rw [hu] at hval
     obtain ⟨cs,rfl,_⟩:=hval
     exact ⟨cs,rfl⟩
   · simp at hg
  obtain ⟨cs,rfl⟩:=this
  simp only [Value.cells] at h1
  exact ⟨.agg xs,.agg h1 h2,by rw [hg];rfl,fuel,h4⟩
 | false =>
  obtain ⟨z,rfl,hz,hzc⟩:=qpU h4 hg (hS t ht)
  have hvc:v.cells = #[v]:=by
   cases v with
   | agg cs=>exact absurd hval fun h=>qAE (hS t ht) hg h
   | _=>rfl
  rw [hvc] at h1
  cases h1 with
  | cons h1 _=>exact ⟨z,h1,by rw [hz,hg],fuel,by rw [hzc];exact h4⟩
theorem qbT (hS:∀ t∈S,Zx P S t=true) {r:Reach} {b0:Nat}:∀ (ts:List Nat) (vs:List Value) (ds:List (DataW H)) (p:List MemPlace),(∀ t∈ts,t∈S)→(∀ (j:Nat) t v,ts[j]?=some t→vs[j]?=some v→Value.okWide P w r b0 t v) →
 DataW.TrodAll enc P w 0 (fun _=>true) true ts vs ds p →
 (∃ xs,RepA (hv w) xs vs∧All2 (qgI P) ts xs)∧∀ sp:Nat→Bool,(∀ q∈p,sp q.block=true)→DataW.TrodAll enc P w 0 sp true ts vs ds p
 | [],vs,ds,p,_,_,h=>by
  obtain ⟨rfl,rfl,rfl⟩:=trodAll_nil h
  exact ⟨⟨[],.nil,.nil⟩,fun _ _=>rfl⟩
 | t::ts,vs,ds,p,hts,hval,h=>by
  obtain ⟨v,vs1,d,ds1,a,b,rfl,rfl,rfl,h1,h2⟩:=trodAll_cons h
  obtain ⟨⟨x,a1,a2⟩,a3⟩:=qwE hS (hts t (List.mem_cons_self ..)) (hval 0 t v rfl rfl) h1
  obtain ⟨⟨xs,b1,b2⟩,b3⟩:=qbT hS ts vs1 ds1 b (fun u hu=>hts u (List.mem_cons_of_mem _ hu)) (fun j t v hj hv=>hval (j+1) t v (by simpa using hj) (by simpa using hv)) h2
  exact ⟨⟨x::xs,.cons a1 b1,.cons a2 b2⟩,fun sp hsp=>⟨a,b,a3 sp fun q hq=>hsp q (List.mem_append_left _ hq),b3 sp fun q hq=>hsp q (List.mem_append_right _ hq),rfl⟩⟩
theorem qbq {w':World} {base:Nat} {sp:Nat→Bool}:∀ (ts:List Nat) (vs:List Value) (ds:List (DataW H)) (p:List MemPlace),DataW.TrodAll enc P w base sp true ts vs ds p→(∀ q∈p,w.sameAt w' q)→DataW.TrodAll enc P w' base sp true ts vs ds p
 | [],vs,ds,p,h,_=>by
  obtain ⟨rfl,rfl,rfl⟩:=trodAll_nil h
  exact rfl
 | t::ts,vs,ds,p,h,hs=>by
  obtain ⟨v,vs1,d,ds1,a,b,rfl,rfl,rfl,h1,h2⟩:=trodAll_cons h
  obtain ⟨fuel,hf⟩:=h1
  exact ⟨a,b,⟨fuel,DataW.trod_carry _ _ _ _ hf fun q hq=>hs q (List.mem_append_left _ hq)⟩,qbq ts vs1 ds1 b h2 fun q hq=>hs q (List.mem_append_right _ hq),rfl⟩
end
end Su
end
section
namespace Su
open Go Fly Go.RowKit Go.ChangeShapes
section
variable {H:Type} {enc:TypeId×Value→H} {P:Program} {S:List Nat}
theorem qen {w:World} {base:Nat} {sp:Nat→Bool} {held:Bool}:∀ {ts:List Nat} {vs:List Value} {ds:List (DataW H)} {p:List MemPlace},DataW.TrodAll enc P w base sp held ts vs ds p→ds.length=ts.length
 | [],_,_,_,h=>by obtain ⟨rfl,rfl,rfl⟩:=trodAll_nil h;rfl
 | _::_,_,_,_,h=>by
  obtain ⟨v,vs1,d,ds1,a,b,rfl,rfl,rfl,h1,h2⟩:=trodAll_cons h
  simp [qen h2]
theorem qAF {W W':World} {may:MemPlace→Prop} (ho:W'.os=W.os) (hp:W'.output=W.output) (hb:∀ b,b<W.heap.size→W'.heap[b]?=W.heap[b]?):W.keptBut W' may:=by
 refine ⟨ho,hp,fun i hi=>?_⟩
 rw [hb i hi]
 cases W.heap[i]? with
 | none=>rfl
 | some o=>cases o <;> first | exact ⟨rfl,rfl,rfl,fun _ _=>rfl⟩ | exact .inr ⟨rfl,rfl⟩ | rfl
theorem qrh {fn:Func} {s:ChangeSpec} {apart fresh handsOn again:Bool} (hS:∀ t∈S,Zx P S t=true) (hpar:∀ t∈fn.params.toList,t∈S) {tb:Nat} (hres:fn.resultTypes = #[tb]) (htb:P.underlying tb=some .bool) (hvars:s.vars=[])
 (hsn:∀ ds:List (DataW H),ds.length=fn.params.size→s.fn H ds = { results:=[.lit (.bool true)],args:=ds }) {W:World} {args:Array Value} {ds gs:List (DataW H)} {before:List MemPlace} {b0:Nat} {r:Reach}
 (hval:∀ (j:Nat) t v,fn.params[j]?=some t→args[j]?=some v→Value.okWide P W r b0 t v) (hW:DataW.Whole enc P fn.params.toList s.vars apart W args.toList ds gs before) {W':World} (ho:W'.os=W.os) (hp:W'.output=W.output) (hb:∀ b,b<W.heap.size→W'.heap[b]?=W.heap[b]?) :
 s.post enc P fn apart fresh handsOn again W args (.bool true) W':=by
 have hW0:=hW
 have hlt:=hW.lt
 obtain ⟨p,q,hA,hV,rfl,hz,hn⟩:=hW
 have hlen:ds.length=fn.params.size:=by rw [qen hA];simp
 have hV0:gs=[]∧q=[]:=by
  rw [hvars] at hV
  cases gs with
  | nil=>exact ⟨rfl,hV⟩
  | cons g l=>exact absurd hV (by intro h;cases h)
 obtain ⟨rfl,rfl⟩:=hV0
 have same:∀ x∈p,W.sameAt W' x:=by
  intro x hx
  have h1:=hlt x (List.mem_append_left _ hx)
  cases x with
  | cell b off=>simp only [World.sameAt,World.cell?];rw [hb b h1]
  | map b=>exact hb b h1
 have hargs:=(qbT hS _ _ _ _ hpar (fun j t v hj hv=>hval j t v (by simpa using hj) (by simpa using hv)) hA).2
 have hcarry:∀ sp:Nat→Bool,(∀ x∈p,sp x.block=true)→DataW.TrodAll enc P W' 0 sp true fn.params.toList args.toList ds p:=fun sp hsp=>qbq _ _ _ _ (hargs sp hsp) same
 have hfn:=hsn ds hlen
 have hresult:∀ (bs:Nat) (sp:Nat→Bool) (hd:Bool),DataW.TrodAll enc P W' bs sp hd fn.resultTypes.toList ((Value.bool true).resultList fn.resultTypes.size) [.lit (.bool true)] []:=by
  intro bs sp hd
  rw [hres]
  exact trodAll_mk1 (shut_bool htb true)
 have hold:∀ x∈p,(fun b=>decide (b<W.heap.size)) x.block=true:=fun x hx=>by simpa using hlt x (List.mem_append_left _ hx)
 have hvs:∀ sp,DataW.TrodVars enc P W' sp s.vars (s.fn H (ds++[])).vars []:=fun sp=>by rw [List.append_nil,hfn,hvars];rfl
 refine ⟨ds,[],p++[],[],p,[],hW0,?_,?_,hvs _,qAF ho hp hb,fun _=>⟨?_,?_⟩⟩
 · rw [List.append_nil,hfn];exact hresult _ _ _
 · rw [List.append_nil,hfn];exact hcarry _ hold
 · intro j t r0 h1 h2
   rw [hres] at h1 h2
   have:(Value.bool true).resultList #[tb].size=[.bool true]:=rfl
   rw [this] at h2
   cases j with
   | zero =>
    simp at h1 h2
    subst h1 h2
    unfold Value.okWide
    rw [htb]
    simp [Cell.okWide,Cell.ok,htb]
   | succ j=>simp at h1
 · refine ⟨_,[],([]++p)++[],⟨[]++p,[],trodAll_append (hcarry _ fun _ _=>rfl) (hresult _ _ _),?_,rfl,?_,?_⟩,?_⟩
   · have:=hvs (fun _=>true)
     rw [List.append_nil,hfn] at this;exact this
   · intro b off hm
     have hm':MemPlace.cell b off∈p:=by simpa using hm
     have h1:b<W.heap.size:=hlt _ (List.mem_append_left _ hm')
     have h2:=hz b off (by simpa using hm')
     unfold World.frozen? at h2 ⊢
     rw [hb b h1];exact h2
   · intro ha;simpa using hn ha
   · intro x hx _;simpa using hx
theorem qwF {fn:Func} {f:FuncId} {s:ChangeSpec} {apart fresh handsOn again:Bool} (hS:∀ t∈S,Zx P S t=true) (hpar:∀ t∈fn.params.toList,t∈S) {tb:Nat} (hres:fn.resultTypes = #[tb]) (htb:P.underlying tb=some .bool) (hvars:s.vars=[])
 (hsn:∀ ds:List (DataW H),ds.length=fn.params.size→s.fn H ds = { results:=[.lit (.bool true)],args:=ds }) {W:World} {args:Array Value} {ds gs:List (DataW H)} {before:List MemPlace} {b0:Nat} {r:Reach}
 (hval:∀ (j:Nat) t v,fn.params[j]?=some t→args[j]?=some v→Value.okWide P W r b0 t v) (hW:DataW.Whole enc P fn.params.toList s.vars apart W args.toList ds gs before)
 (h:∀ xs,RepA (hv W) xs args.toList→All2 (qgI P) fn.params.toList xs→yq P f args (hv W) [] fun v _ _=>v = .bool true) :
 Calls P f args W fun e W'=>∃ v,e = .returned v∧s.post enc P fn apart fresh handsOn again W args v W':=by
 obtain ⟨p,q,hA,hV,hpq,hz,hn⟩:=id hW
 obtain ⟨⟨xs,h1,h2⟩,_⟩:=qbT hS _ _ _ _ hpar (fun j t v hj hv=>hval j t v (by simpa using hj) (by simpa using hv)) hA
 refine (h xs h1 h2 W (fun _ _ h=>h) (fun _ h=>by cases h) (fun _ h=>by cases h) List.nodup_nil).mono ?_
 rintro e W' ⟨v,V',G',rfl,hh,rfl⟩
 exact ⟨_,rfl,qrh hS hpar hres htb hvars hsn hval hW hh.ext.os hh.ext.output fun b hb=>hh.ext.block b hb (by simp [keys])⟩
end
end Su
end
section
namespace Su
open Go Fly
section
variable {P:Program}
def qic (P:Program) (t:Nat):Option (List Nat):=match P.underlying t with
 | some (.struct fs)=>some (fs.toList.map (·.type))
 | _=>none
theorem qma {α β γ:Type} {R:γ→β→Prop} {f:α→γ}:∀ {l:List α} {m:List β},All2 (fun a b=>R (f a) b) l m→All2 R (l.map f) m
 | _,_,.nil=>.nil
 | _,_,.cons h h'=>.cons h (qma h')
theorem qmb {α β:Type} {R R':α→β→Prop} (hi:∀ a b,R a b→R' a b):∀ {l:List α} {m:List β},All2 R l m→All2 R' l m
 | _,_,.nil=>.nil
 | _,_,.cons h h'=>.cons (hi _ _ h) (qmb hi h')
theorem qmc {α β:Type} {R:α→β→Prop}:∀ {l l':List α} {m m':List β},All2 R l m→All2 R l' m'→All2 R (l++l') (m++m')
 | _,_,_,_,.nil,h'=>h'
 | _,_,_,_,.cons h h1,h'=>.cons h (qmc h1 h')
def Sh1 (P:Program) (t:Nat) (xs:List T):Prop:=∃ fuel,Shp P fuel t xs
theorem qid {ts:List Nat} {t:Nat} {xs:List T} (hu:qic P t=some ts) (h:Sh1 P t xs):∃ parts,xs=List.flatten parts∧All2 (Sh1 P) ts parts:=by
 obtain ⟨fuel,h⟩:=h
 cases fuel with
 | zero=>exact absurd h (by simp [Shp])
 | succ fuel =>
  unfold qic at hu
  split at hu
  · rename_i fs hs
    simp only [Option.some.injEq] at hu;subst hu
    simp only [Shp,hs] at h
    obtain ⟨parts,h1,h2⟩:=h
    exact ⟨parts,h1,qma (f:=fun f:Field=>f.type) (qmb (fun _ _ h=>⟨_,h⟩) h2)⟩
  · simp at hu
def R1 {α:Type} (P:Program) (c:Cod α) (t:Nat):Prop:=∀ xs,Sh1 P t xs→∃ x a,xs=[x]∧c.dec x=some a
def RD {α:Type} (P:Program) (d:Dec α) (ts:List Nat):Prop:=∀ parts,All2 (Sh1 P) ts parts→∃ a,d.dec parts.flatten=some a
theorem qgt {κ:IntKind} {t:Nat} (hu:P.underlying t=some (.int κ)):R1 P (cI κ) t:=by
 rintro xs ⟨fuel,h⟩
 cases fuel with
 | zero=>exact absurd h (by simp [Shp])
 | succ fuel =>
  simp only [Shp,hu] at h
  obtain ⟨n,rfl,_⟩:=h
  exact ⟨_,n,rfl,by show asI κ (.t (.s (.int κ n)))=some n;simp [asI]⟩
theorem qAG {t:Nat} (hu:P.underlying t=some .bool):R1 P cB t:=by
 rintro xs ⟨fuel,h⟩
 cases fuel with
 | zero=>exact absurd h (by simp [Shp])
 | succ fuel =>
  simp only [Shp,hu] at h
  obtain ⟨n,rfl⟩:=h
  exact ⟨_,n,rfl,rfl⟩
theorem qmd {e t:Nat} {xs:List T} (hu:P.underlying t=some (.slice e)) (h:Sh1 P t xs):∃ l,xs=[.sl (P.cellsOf e) l]∧∀ x∈l,x.isAgg=jV P e∧Sh1 P e x.cells:=by
 obtain ⟨fuel,h⟩:=h
 cases fuel with
 | zero=>exact absurd h (by simp [Shp])
 | succ fuel=>simp only [Shp,hu] at h;obtain ⟨l,h,_,h2⟩:=h;exact ⟨l,h,fun x hx=>⟨(h2 x hx).1,_,(h2 x hx).2⟩⟩
theorem qwG {x:T} (h:x.isAgg=true):x = .agg x.cells:=by cases x <;> first | rfl | (simp [T.isAgg] at h)
theorem qE4 {e t i f:Nat} (hu:P.underlying t=some (.slice e)) (hw:Nat.beq (P.cellsOf e) 2=true) (hg:jV P e=true) (he:qic P e=some [i,f]) (hi:P.underlying i=some (.int .i64)) (hf:P.underlying f=some (.int .u64)):R1 P ZJ t:=by
 intro xs h
 obtain ⟨l,rfl,hl⟩:=qmd hu h
 have:∃ a,yt l=some a:=by
  clear h
  induction l with
  | nil=>exact ⟨[],rfl⟩
  | cons x l ih =>
   obtain ⟨b,hb⟩:=ih fun y hy=>hl y (List.mem_cons_of_mem _ hy)
   obtain ⟨h1,h2⟩:=hl x (List.mem_cons_self ..)
   rw [hg] at h1
   obtain ⟨parts,h3,h4⟩:=qid he h2
   cases h4 with | cons p1 h4=>cases h4 with | cons p2 h4=>cases h4 with | nil =>
   obtain ⟨x1,i,rfl,e1⟩:=qgt hi _ p1
   obtain ⟨x2,c,rfl,e2⟩:=qgt hf _ p2
   refine ⟨(⟨i,c⟩:Tm)::b,?_⟩
   have e1:asI .i64 (.t x1)=some i:=e1
   have e2:asI .u64 (.t x2)=some c:=e2
   have:qmQ x=some (⟨i,c⟩:Tm):=by
    rw [qwG h1,h3]
    show ((asI .i64 (.t x1)).bind fun i=>(asI .u64 (.t x2)).bind fun c=>some (⟨i,c⟩:Tm))=_
    rw [e1,e2];rfl
   show ((qmQ x).bind fun a=>(yt l).bind fun b=>some (a::b))=_
   rw [this,hb];rfl
 obtain ⟨a,ha⟩:=this
 exact ⟨_,a,rfl,by show (bif Nat.beq (P.cellsOf e) 2 then yt l else none)=_;rw [hw];exact ha⟩
theorem r1_q {u e t:Nat} {hu5:u≤5} (hu:P.underlying t=some (.slice e)) (hw:Nat.beq (P.cellsOf e) 1=true) (h1:∀ xs,Sh1 P e xs→∃ x a,xs=[x]∧qfT u x=some a) (hg:jV P e=false):R1 P (cQ u 1 hu5) t:=by
 intro xs h
 obtain ⟨l,rfl,hl⟩:=qmd hu h
 have:∃ a,jz u l=some a:=by
  clear h
  induction l with
  | nil=>exact ⟨[],rfl⟩
  | cons x l ih =>
   obtain ⟨b,hb⟩:=ih fun y hy=>hl y (List.mem_cons_of_mem _ hy)
   obtain ⟨h2,h3⟩:=hl x (List.mem_cons_self ..)
   rw [hg] at h2
   obtain ⟨y,a,e1,e2⟩:=h1 _ h3
   have e3:x=y:=by cases x <;> first | (cases h2;done) | (exact (List.cons.inj e1).1)
   subst e3
   exact ⟨a::b,by simp only [jz,e2,hb,Option.bind_some]⟩
 obtain ⟨a,ha⟩:=this
 exact ⟨_,a,rfl,by show (bif Nat.beq (P.cellsOf e) 1 then jz u l else none)=_;rw [hw];exact ha⟩
theorem qE5 {t:Nat} (hu:P.underlying t=some (.int .i64)):∀ xs,Sh1 P t xs→∃ x a,xs=[x]∧qfT 3 x=some a:=fun xs h=>qgt hu xs h
theorem qBL {α:Type} {c:Cod α} {t:Nat} (h:R1 P c t):RD P (d1 c) [t]:=by
 intro parts hp
 cases hp with | cons p1 hp=>cases hp with | nil =>
 obtain ⟨x,a,rfl,e⟩:=h _ p1
 exact ⟨a,e⟩
theorem qme {α β:Type} {c:Cod α} {d:Dec β} {t:Nat} {ts:List Nat} (h:R1 P c t) (h':RD P d ts):RD P (dc c d) (t::ts):=by
 intro parts hp
 cases hp with | cons p1 hp =>
 obtain ⟨x,a,rfl,e⟩:=h _ p1
 obtain ⟨b,e'⟩:=h' _ hp
 refine ⟨(a,b),?_⟩
 show ((c.dec x).bind fun a=>(d.dec ([]++_)).bind fun b=>some (a,b))=_
 rw [e,List.nil_append,e'];rfl
theorem qBM {α:Type} {d:Dec α} {t:Nat} {ts' ts:List Nat} (hu:qic P t=some ts') (h:RD P d (ts'++ts)):RD P d (t::ts):=by
 intro parts hp
 cases hp with | cons p1 hp =>
 obtain ⟨parts',rfl,h2⟩:=qid hu p1
 obtain ⟨a,e⟩:=h _ (qmc h2 hp)
 exact ⟨a,by rw [List.flatten_append] at e;exact e⟩
theorem qwH {α:Type} {d:Dec α} {hf} {t:Nat} {x:T} (hg:jV P t=true) (h:RD P d [t]) (hx:qgI P t x):∃ a,(cA d hf).dec x=some a:=by
 obtain ⟨h0,fuel,h1⟩:=hx
 rw [hg] at h0
 obtain ⟨a,e⟩:=h [x.cells] (.cons ⟨fuel,h1⟩ .nil)
 rw [qwG h0]
 exact ⟨a,by show d.dec x.cells=some a;simpa using e⟩
theorem qwI {α:Type} {c:Cod α} {t:Nat} {x:T} (hg:jV P t=false) (h:R1 P c t) (hx:qgI P t x):∃ a,c.dec x=some a:=by
 obtain ⟨h0,fuel,h1⟩:=hx
 rw [hg] at h0
 obtain ⟨y,a,e,e2⟩:=h x.cells ⟨fuel,h1⟩
 have e3:x=y:=by cases x <;> first | (cases h0;done) | (exact (List.cons.inj e).1)
 subst e3
 exact ⟨a,e2⟩
theorem qaN {α β:Type} {c:Cod α} {d:Dec β} {x:T} {l:List T} {a:α} {b:β} (h:c.dec x=some a) (h':d.dec l=some b):(dc c d).dec (x::l)=some (a,b):=by
 show ((c.dec x).bind fun a=>(d.dec l).bind fun b=>some (a,b))=_
 rw [h,h'];rfl
end
end Su
end
section
set_option maxRecDepth 10000
namespace Su
open Go Fly Go.Proofs
theorem qGa:R1 Tryz.prog (cI .i64) 3:=qgt (by kernel_rfl)
theorem qpV:R1 Tryz.prog (cI .u64) 45:=qgt (by kernel_rfl)
theorem t_b:R1 Tryz.prog cB 4:=qAG (by kernel_rfl)
theorem t_is:R1 Tryz.prog (cQ 3 1) 25:=r1_q (e:=3) (by kernel_rfl) (by kernel_rfl) (qE5 (by kernel_rfl)) (by kernel_rfl)
theorem qGb:R1 Tryz.prog ZJ 60:=qE4 (e:=103) (i:=3) (f:=45) (by kernel_rfl) (by kernel_rfl) (by kernel_rfl) (by kernel_rfl) (by kernel_rfl) (by kernel_rfl)
theorem qE6:qic Tryz.prog 59=some [4,45,45]:=by kernel_rfl
theorem qE7:qic Tryz.prog 62=some [4,45,60,45]:=by kernel_rfl
theorem qpW {x:T} (h:qgI Tryz.prog 62 x):∃ a,qu.dec x=some a :=
 qwH (by kernel_rfl) (qBM qE7 (qme t_b (qme qpV (qme qGb (qBL qpV))))) h
theorem qAH {x:T} (h:qgI Tryz.prog 59 x):∃ a,Yv.dec x=some a :=
 qwH (by kernel_rfl) (qBM qE6 (qme t_b (qme qpV (qBL qpV)))) h
theorem qGc {x:T} (h:qgI Tryz.prog 25 x):∃ a,(cQ 3 1).dec x=some a:=qwI (by kernel_rfl) t_is h
theorem qwJ {x:T} (h:qgI Tryz.prog 3 x):∃ a,(cI .i64).dec x=some a:=qwI (by kernel_rfl) qGa h
theorem gok {V:qc}:GOK tb V:=fun _ _ h=>by cases h
theorem qAI {α:Type} {f:Nat} {d:Dec α} {g:α→Option Bool} (hp:OkT f (prim d (d1 cB) g)) (hg:∀ a,g a=some true) {V:qc} {args:Array Value} {xs:List T} (hr:RepA V xs args.toList) {a:α} (ha:d.dec xs=some a) :
 yq Tryz.prog f args V [] fun v _ _=>v = .bool true:=by
 have h:(∀ xs y,(d.dec xs).bind g=some y→∀ V vs,GOK tb V→RepA V xs vs→yq Tryz.prog f vs.toArray V [] fun v V' _=>∃ rvs,RepA V' ((d1 cB).enc y) rvs∧v=YJ rvs)∧_:=hp.2
 have hF:=h.1 xs true (by rw [ha];exact hg a) V args.toList gok hr
 rw [Array.toArray_toList] at hF
 intro w a1 a2 a3 a4
 refine (hF w a1 a2 a3 a4).mono ?_
 rintro e w' ⟨v,V',G',rfl,hh,rvs,m1,rfl⟩
 refine ⟨_,V',G',rfl,hh,?_⟩
 cases m1 with | cons k1 k2=>cases k2 with | nil=>cases k1 with | s _=>rfl
end Su
end
