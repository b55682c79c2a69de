/-
  An evaluator of the program's functions over trees of values, proved sound. No condition.
-/
import Derived.Test.YtldhknmacepeiaaGreatDoorSuP0
import Derived.ChangeSame
import Derived.ChangeOld
import Derived.DataReads
import Derived.Test.YtldhknmacepeiaaGreatDoorSuE
import Derived.RowKit
import Derived.Test.YtldhknmacepeiaaGreatDoorFlyM
import Derived.Test.YtldhknmacepeiaaGreatDoorNT15
import Derived.Test.YtldhknmacepeiaaGreatDoorSuTb
import Derived.Test.YtldhknmacepeiaaGreatDoorCards
import Derived.LaidMore
import Derived.OpenShut
import Derived.Stop.Joined
import Derived.ChangeArms
import Derived.WalkKit
import Derived.ProofKit
set_option linter.unusedVariables false
set_option linter.unusedSimpArgs false
section
namespace Su
open Go Fly
def isGroup(P:Program)(t:Nat):Bool:=match P.underlying t with
 | some (.struct _)=>true
 | _=>false
def tiles(P:Program)(S:List Nat)(n:Nat):Nat→List Field→Bool
 | o,[]=>Nat.beq o n
 | o,f::fs=>Nat.beq f.offset o&&(S.contains f.type&&tiles P S n (o+P.cellsOf f.type) fs)
def okTy(P:Program)(S:List Nat)(t:Nat):Bool:=match P.underlying t with
 | some .bool=>Nat.beq (P.cellsOf t) 1
 | some (.int _)=>Nat.beq (P.cellsOf t) 1
 | some (.float _)=>Nat.beq (P.cellsOf t) 1
 | some .string=>Nat.beq (P.cellsOf t) 1
 | some (.slice e)=>Nat.beq (P.cellsOf t) 1&&(S.contains e&&Nat.blt 0 (P.cellsOf e))
 | some (.struct fs)=>tiles P S (P.cellsOf t) 0 fs.toList
 | _=>false
inductive All2 {α β:Type} (R:α→β→Prop):List α→List β→Prop
 | nil:All2 R [] []
 | cons {a:α} {b:β} {l:List α} {m:List β} (h:R a b) (h':All2 R l m):All2 R (a::l) (b::m)
def Shp(P:Program):Nat→Nat→List T→Prop
 | 0,_,_=>False
 | fuel+1,t,xs=>match P.underlying t with
  | some .bool=>∃b,xs=[.s (.bool b)]
  | some (.int k)=>∃n,xs=[.s (.int k n)]∧(Lit.int k n).wf=true
  | some (.float k)=>∃b,xs=[.s (.float k b)]∧(Lit.float k b).wf=true
  | some .string=>∃s,xs=[.s (.string s)]∧s.size≤maxLen
  | some (.slice e)=>∃l,xs=[.sl (P.cellsOf e) l]∧l.length≤maxLen∧∀x∈l,x.isAgg=isGroup P e∧Shp P fuel e x.cells
  | some (.struct fs)=>∃parts:List (List T),xs=parts.flatten∧All2 (fun(f:Field) p=>Shp P fuel f.type p) fs.toList parts
  | _=>False
def hv(w:World):View:=fun b=>w.heap[b]?
theorem add_add{a:Addr}{m n:Nat}(h:n≠0∨m=0∨a.spot=none):(a.add m).add n=a.add (m+n):=by
 unfold Addr.add;by_cases hn:n=0
 · subst hn;simp
 · by_cases hm:m=0
   · subst hm;simp[hn]
   · simp[hn,hm,jl]
theorem rd_of_cell{w:World}{a:Addr}{v:Value}(h:w.cell? a=some v):a.spot=none∧rd (hv w) a.block a.off v:=by
 unfold World.cell? at h
 split at h
 · rename_i c e f hb
   cases hs:a.spot with
   | some s=>rw[hs]at h;simp at h
   | none=>rw[hs]at h;exact⟨rfl,c,e,f,hb,by simpa using h⟩
 · simp at h
theorem add_off(a:Addr)(n:Nat):(a.add n).off=a.off+n∧(a.add n).block=a.block:=by
 unfold Addr.add;split
 · rename_i h;subst h;exact⟨rfl,rfl⟩
 · exact⟨rfl,rfl⟩
theorem rows_rd{w:World}{a:Addr}{k:Nat}(hk:0<k):∀(css:List (List Value)) (s:Nat),(∀i cs,css[i]?=some cs→w.cells? 0 (a.add ((s+i)*k)) k=some cs)→∀j c,css.flatten[j]?=some c→rd (hv w) a.block (a.off+s*k+j) c∧w.cell? (a.add (s*k+j))=some c
 | [],s,h,j,c,hj=>by simp at hj
 | c0::css,s,h,j,c,hj=>by
  obtain⟨_,hl,hc⟩:=World.cells?_some (h 0 c0 rfl)
  simp only[jx]at hc;rw[List.flatten_cons]at hj;rcases yE j k with hjk | hjk
  · rw[q9 (by omega)]at hj
    have h1:=hc j hjk;rw[hj]at h1;have h3:w.cell? (a.add (s*k+j))=some c:=by
     by_cases hj0:j=0
     · subst hj0
       have:(a.add (s*k)).add 0=a.add (s*k):=by unfold Addr.add;simp
       rw[this]at h1;exact h1
     · rw[add_add (.inl hj0)]at h1;exact h1
    obtain⟨_,h2⟩:=rd_of_cell h3;rw[(add_off _ _).1,(add_off _ _).2]at h2;exact⟨by rw[jl];exact h2,h3⟩
  · rw[qP (by omega),hl]at hj
    have h2:=rows_rd hk css (s+1) (fun i cs hi=>by
     have:=h (i+1) cs (by simpa using hi)
     rw[show s+1+i=s+(i+1) by omega];exact this) (j-k) c hj
    have e1:(s+1)*k+(j-k)=s*k+j:=by rw[qL];omega
    rw[jl,e1]at h2;exact⟨by rw[jl];exact h2.1,h2.2⟩
end Su
end
section
namespace Su
open Go Fly
theorem mapM_split{β γ:Type}{f:Nat→Option (List β)}{g:List β→Option γ}{n:Nat}{r:List γ}(h:(List.range n).mapM (fun i=>(f i).bind g)=some r) :
 ∃css:List (List β),css.length=n∧∀(i:Nat) (cs:List β),css[i]?=some cs→f i=some cs∧∃y,y∈r∧g cs=some y:=by
 have hl:r.length=n:=by simpa using mapM_some_length h
 refine⟨(List.range n).map fun i=>(f i).getD [],by simp,fun i cs hi=>?_⟩
 have hin:i<n:=by
  have:=(qp.1 hi).1
  simpa using this
 have h1:=mapM_some_get h i i (by simp[hin])
 rw[qu (by omega)]at h1;obtain⟨c,hc,hg⟩:=yp.1 h1;have:cs=c:=by
  rw[jh,List.getElem?_range hin]at hi;simp[hc]at hi;exact hi.symm
 subst this;exact⟨hc,_,List.getElem_mem _,hg⟩
theorem all2_of{α β:Type}{R:α→β→Prop}:∀ {l:List α},(∀x∈l,∃y,R x y)→∃m,All2 R l m
 | [],_=>⟨[],.nil⟩
 | x::l,h=>by
  obtain⟨y,hy⟩:=h x (qz ..)
  obtain⟨m,hm⟩:=all2_of (l:=l) fun z hz=>h z (qt _ hz)
  exact⟨y::m,.cons hy hm⟩
theorem All2.length{α β:Type}{R:α→β→Prop}{l:List α}{m:List β}(h:All2 R l m):l.length=m.length:=by
 induction h with
 | nil=>rfl
 | cons _ _ ih=>simp[ih]
theorem All2.right{α β:Type}{R:α→β→Prop}{l:List α}{m:List β}(h:All2 R l m):∀y∈m,∃x,R x y:=by
 induction h with
 | nil=>intro y hy;simp at hy
 | cons hr _ ih=>
  intro y hy;rcases qJ.1 hy with rfl | hy
  · exact⟨_,hr⟩
  · exact ih y hy
section
variable {H:Type} {enc:TypeId×Value→H} {P:Program} {w:World} {S:List Nat}
def Good(enc:TypeId×Value→H)(P:Program)(w:World)(fuel t:Nat)(cs:List Value)(x:DataW H×List MemPlace):Prop :=
 (∃xs,RepA (hv w) xs cs∧(∀y∈xs,y.isAgg=false)∧xs.length=P.cellsOf t∧Shp P fuel t xs)∧∀sp:Nat→Bool,(∀p∈x.2,sp p.block=true)→DataW.trod enc P w 0 sp true fuel t cs=some x
theorem shp_one{fuel t:Nat}{xs:List T}(h:Shp P fuel t xs)(hg:isGroup P t=false)(hok:okTy P S t=true):∃x,xs=[x]∧x.isAgg=false∧x.cells=[x]:=by
 cases fuel with
 | zero=>exact absurd h (by simp[Shp])
 | succ fuel=>
  unfold Shp at h;unfold isGroup at hg;split at h
  · obtain⟨b,rfl⟩:=h;exact⟨_,rfl,rfl,rfl⟩
  · obtain⟨b,rfl,_⟩:=h;exact⟨_,rfl,rfl,rfl⟩
  · obtain⟨b,rfl,_⟩:=h;exact⟨_,rfl,rfl,rfl⟩
  · obtain⟨b,rfl,_⟩:=h;exact⟨_,rfl,rfl,rfl⟩
  · obtain⟨b,rfl,_⟩:=h;exact⟨_,rfl,rfl,rfl⟩
  · rename_i hu;rw[hu]at hg;simp at hg
  · exact absurd h (by simp)
theorem good_elem{fuel e:Nat}{cs:List Value}{x:DataW H×List MemPlace}(hok:okTy P S e=true)(h:Good enc P w fuel e cs x) :
 ∃z:T,RepA (hv w) z.cells cs∧(∀y∈z.cells,y.isAgg=false)∧z.cells.length=P.cellsOf e∧z.isAgg=isGroup P e∧Shp P fuel e z.cells:=by
 obtain⟨⟨xs,h1,h2,h3,h4⟩,_⟩:=h;cases hg:isGroup P e with
 | true=>exact⟨.agg xs,h1,h2,h3,rfl,h4⟩
 | false=>
  obtain⟨z,rfl,hz,hzc⟩:=shp_one h4 hg hok;exact⟨z,by rw[hzc];exact h1,by rw[hzc];exact h2,by rw[hzc];exact h3,hz,by rw[hzc];exact h4⟩
theorem elems_rep{fuel e:Nat}:∀ {css:List (List Value)} {l:List T},All2 (fun cs z=>RepA (hv w) z.cells cs∧(∀y∈z.cells,y.isAgg=false)∧z.cells.length=P.cellsOf e∧z.isAgg=isGroup P e∧Shp P fuel e z.cells) css l →
 RepA (hv w) (l.flatMap T.cells) css.flatten∧(∀y∈l.flatMap T.cells,y.isAgg=false)
 | _,_,.nil=>⟨.nil,by simp⟩
 | _,_,.cons h h'=>by
  obtain⟨h1,h2⟩:=elems_rep h';rw[jv,List.flatten_cons];refine⟨h.1.append h1,fun y hy=>?_⟩
  rcases qZ.1 hy with hy | hy
  · exact h.2.1 y hy
  · exact h2 y hy
theorem fields_rep{fuel:Nat}{cs:List Value}(ih:∀t∈S,∀(cs:List Value) (x:DataW H×List MemPlace),DataW.trod enc P w 0 (fun _=>true) true fuel t cs=some x→Good enc P w fuel t cs x):∀(fs:List Field) (o:Nat) (ys:List (DataW H×List MemPlace)),
 tiles P S cs.length o fs=true→fs.mapM (fun f=>DataW.trod enc P w 0 (fun _=>true) true fuel f.type ((cs.drop f.offset).take (P.cellsOf f.type)))=some ys →
 ∃parts:List (List T),RepA (hv w) parts.flatten (cs.drop o)∧(∀y∈parts.flatten,y.isAgg=false)∧All2 (fun(f:Field) p=>Shp P fuel f.type p) fs parts
 | [],o,ys,ht,_=>by
  have:=qd ht;subst this
  rw[jK (qB _)];exact⟨[],.nil,by simp,.nil⟩
 | f::fs,o,ys,ht,h=>by
  simp only[tiles,qk]at ht;obtain⟨h1,h2,h3⟩:=ht;have:=qd h1;subst this
  rw[List.mapM_cons]at h;obtain⟨y,hy,h⟩:=bsome (a:=DataW.trod enc P w 0 (fun _=>true) true fuel f.type ((cs.drop f.offset).take (P.cellsOf f.type))) h
  obtain⟨ys',hys,_⟩:=bsome (a:=fs.mapM (fun f=>DataW.trod enc P w 0 (fun _=>true) true fuel f.type ((cs.drop f.offset).take (P.cellsOf f.type)))) h
  obtain⟨⟨xs,a1,a2,a3,a4⟩,_⟩:=ih f.type (by simpa using h2) _ _ hy
  obtain⟨parts,b1,b2,b3⟩:=fields_rep ih fs _ _ h3 hys;refine⟨xs::parts,?_,fun z hz=>?_,.cons a4 b3⟩
  · rw[List.flatten_cons,← jR (P.cellsOf f.type) (cs.drop f.offset),List.drop_drop]
    exact a1.append b1
  · rw[List.flatten_cons]at hz
    rcases qZ.1 hz with hz | hz
    · exact a2 z hz
    · exact b2 z hz
theorem trod_good(hS:∀t∈S,okTy P S t=true):∀(fuel t:Nat),t∈S→∀(cs:List Value) (x:DataW H×List MemPlace),DataW.trod enc P w 0 (fun _=>true) true fuel t cs=some x→Good enc P w fuel t cs x:=by
 intro fuel;induction fuel with
 | zero=>intro t _ cs x h;simp[DataW.trod]at h
 | succ fuel ih=>
  intro t htS cs x h;have hok:=hS t htS;have one:∀(v:Value),isSc v=true→cs=[v]→Nat.beq (P.cellsOf t) 1=true→Shp P (fuel+1) t [.s v]→(∀sp:Nat→Bool,(∀p∈x.2,sp p.block=true)→DataW.trod enc P w 0 sp true (fuel+1) t cs=some x)→Good enc P w (fuel+1) t cs x:=by
   rintro v hv' rfl h1 h2 h3
   exact⟨⟨[.s v],.cons (.s hv') .nil,by simp[T.isAgg],by rw[qd h1];rfl,h2⟩,h3⟩
  have hh:=h;rw[DataW.trod_step]at h;unfold DataW.trodStep at h;split at h
  case h_1 b hu=>
   refine one _ rfl rfl (by simpa[okTy,hu]using hok) (by simp only[Shp,hu];exact⟨b,rfl⟩) fun sp _=>?_
   rw[DataW.trod_step]at hh ⊢;unfold DataW.trodStep at hh ⊢;simp only[hu]at hh ⊢;exact hh
  case h_2 k k' n hu=>
   split at h
   · rename_i hc
     obtain⟨rfl,hw⟩:=hc;refine one (.int k' n) (show isSc (.int k' n)=true from hw) rfl (by simpa[okTy,hu]using hok) (by simp only[Shp,hu];exact⟨n,rfl,hw⟩) fun sp _=>?_
     rw[DataW.trod_step]at hh ⊢;unfold DataW.trodStep at hh ⊢;simp only[hu]at hh ⊢;exact hh
   · simp at h
  case h_3 k k' b hu=>
   split at h
   · rename_i hc
     obtain⟨rfl,hw⟩:=hc;refine one _ rfl rfl (by simpa[okTy,hu]using hok) (by simp only[Shp,hu];exact⟨b,rfl,hw⟩) fun sp _=>?_
     rw[DataW.trod_step]at hh ⊢;unfold DataW.trodStep at hh ⊢;simp only[hu]at hh ⊢;exact hh
   · simp at h
  case h_4 st hu=>
   split at h
   · rename_i hc
     refine one _ (by show Nat.ble _ _=true;rw[yy];exact hc) rfl (by simpa[okTy,hu]using hok) (by simp only[Shp,hu];exact⟨st,rfl,hc⟩) fun sp _=>?_
     rw[DataW.trod_step]at hh ⊢;unfold DataW.trodStep at hh ⊢;simp only[hu]at hh ⊢;exact hh
   · simp at h
  case h_7 e hu=>
   simp only[okTy,hu,qk]at hok;refine⟨⟨[.sl (P.cellsOf e) []],.cons (.sl (l:=[]) (vs:=[]) .nil (by simp) (by simp) (by simp) (by simp[maxLen]) (.inl rfl)) .nil,by simp[T.isAgg],by rw[qd hok.1];rfl,?_⟩,fun sp _=>?_⟩
   · simp only[Shp,hu];exact⟨[],rfl,by simp,by simp⟩
   · rw[DataW.trod_step]at hh ⊢;unfold DataW.trodStep at hh ⊢;simp only[hu]at hh ⊢;exact hh
  case h_8 e a len cap hu=>
   simp only[okTy,hu,qk,List.contains_iff_mem]at hok;obtain⟨ho1,ho2,ho3⟩:=hok;have hk:0<P.cellsOf e:=by rw[yA]at ho3;exact ho3
   simp only[]at h;split at h
   · rename_i hc
     obtain⟨hc0,hc1,hc2⟩:=hc;simp only[yk,yp]at h;obtain⟨elems,he,rest,hrest,rfl⟩:=h;have hlen:elems.length=len:=by simpa using mapM_some_length he
     obtain⟨css,hcl,hcs⟩:=mapM_split he;have hz:∀cs∈css,∃z:T,RepA (hv w) z.cells cs∧(∀y∈z.cells,y.isAgg=false)∧z.cells.length=P.cellsOf e∧z.isAgg=isGroup P e∧Shp P fuel e z.cells:=by
      intro cs hm;obtain⟨i,hi⟩:=yn.1 hm
      obtain⟨_,y,_,hy⟩:=hcs i cs hi;exact good_elem (hS e ho2) (ih e ho2 _ _ hy)
     obtain⟨l,hl⟩:=all2_of hz;obtain⟨r1,r2⟩:=elems_rep hl;have hll:l.length=len:=by rw[← hl.length,hcl]
     have hrd:=rows_rd (w:=w) (a:=a) hk css 0 fun i cs hi=>by rw[qF];exact(hcs i cs hi).1
     refine⟨⟨[.sl (P.cellsOf e) l],.cons ?_ .nil,by simp[T.isAgg],by rw[qd ho1];rfl,?_⟩,fun sp hsp=>?_⟩
     · rw[← hll]
       refine .sl r1 r2 (fun x hx=>?_) (by rw[hll];exact hc1) hc2 ?_
       · obtain⟨cs,hx1⟩:=hl.right x hx
         exact hx1.2.2.1
       · cases hl0:css with
         | nil=>rw[hl0]at hcl;left;rw[← jt];rw[hll,← hcl];rfl
         | cons c0 css'=>
          right;have h0:=(hcs 0 c0 (by rw[hl0];rfl)).1
          obtain⟨_,hcl0,hcc⟩:=World.cells?_some h0
          have h00:=hcc 0 hk
          have hc00:c0[0]?=some (c0[0]'(by omega)):=by rw[qu]
          rw[hc00]at h00;have hsp:a.spot=none:=by
           have e0:(a.add (0*P.cellsOf e)).add 0=a:=by unfold Addr.add;simp
           rw[e0]at h00;exact(rd_of_cell h00).1
          refine⟨a.block,a.off,by cases a;simp at hsp;subst hsp;rfl,fun j c hj=>?_⟩
          rw[← hl0]at hj;have:=(hrd j c hj).1
          simpa using this
     · simp only[Shp,hu]
       refine⟨l,rfl,by omega,fun x hx=>?_⟩
       obtain⟨cs,hx1⟩:=hl.right x hx;exact⟨hx1.2.2.2.1,hx1.2.2.2.2⟩
     · rw[DataW.trod_step]
       unfold DataW.trodStep;simp only[hu];rw[qU ⟨hc0,hc1,hc2⟩];simp only[yk,yp];have elem:∀(i:Nat) (y:DataW H×List MemPlace),y∈elems++rest→(w.cells? 0 (a.add (i*P.cellsOf e)) (P.cellsOf e)).bind (DataW.trod enc P w 0 (fun _=>true) true fuel e)=some y →
        (w.cells? 0 (a.add (i*P.cellsOf e)) (P.cellsOf e)).bind (DataW.trod enc P w 0 sp true fuel e)=some y:=by
        intro i y hy h1;obtain⟨cs,h2,h3⟩:=yp.1 h1;refine yp.2 ⟨cs,h2,(ih e ho2 _ _ h3).2 sp fun p hp=>hsp p ?_⟩
        exact yw _ (jB.2 ⟨y,hy,hp⟩)
       refine⟨elems,mapM_carry he fun i y _ hy h1=>elem i y (jH _ hy) h1,rest,?_,rfl⟩
       simp only[if_true]at hrest;by_cases h0:cap-len=0
       · rw[h0]at hrest ⊢
         simp at hrest;subst hrest;split <;> rfl
       · have hrl:rest.length=cap-len:=by simpa using mapM_some_length hrest
         have:sp a.block=true:=hsp (.cell a.block (a.off+0)) (jH _ (MemPlace.mem_row.2 ⟨0,Nat.mul_pos (by omega) hk,rfl⟩))
         rw[qU this];exact mapM_carry hrest fun i y _ hy h1=>elem _ y (yw _ hy) h1
   · simp at h
  case h_9 fs hu=>
   simp only[okTy,hu]at hok;split at h
   · rename_i hc
     simp only[yk]at h;obtain⟨ys,hy,rfl⟩:=h;rw[← hc]at hok;obtain⟨parts,b1,b2,b3⟩:=fields_rep ih fs.toList 0 ys hok hy
     rw[jA]at b1;refine⟨⟨parts.flatten,b1,b2,by rw[b1.length,hc],?_⟩,fun sp hsp=>?_⟩
     · simp only[Shp,hu];exact⟨parts,rfl,b3⟩
     · rw[DataW.trod_step]
       unfold DataW.trodStep;simp only[hu];rw[qU hc];simp only[yk];have inS:∀(N:Nat) (l:List Field) (o:Nat),tiles P S N o l=true→∀f∈l,f.type∈S:=by
        intro N l;induction l with
        | nil=>intro o _ f hf;simp at hf
        | cons g l ihl=>
         intro o ht f hf;simp only[tiles,qk]at ht;rcases qJ.1 hf with rfl | hf
         · simpa using ht.2.1
         · exact ihl _ ht.2.2 f hf
       refine⟨ys,mapM_carry hy fun f y hf hym h1=>(ih f.type (inS _ _ _ hok f hf) _ _ h1).2 sp fun p hp=>hsp p (jB.2 ⟨y,hym,hp⟩),rfl⟩
   · simp at h
  all_goals first
   | (rename_i hu;simp[okTy,hu]at hok;done)
   | (rename_i hu _;simp[okTy,hu]at hok;done)
   | (simp at h;done)
end
end Su
end
section
namespace Su
open Go Fly Go.RowKit Go.ChangeShapes
section
variable {H:Type} {enc:TypeId×Value→H} {P:Program} {w:World} {S:List Nat}
def IsTy(P:Program)(t:Nat)(x:T):Prop:=x.isAgg=isGroup P t∧∃fuel,Shp P fuel t x.cells
theorem not_agg{r:Reach}{b0:Nat}{t:Nat}{cs:Array Value}(hok:okTy P S t=true)(hg:isGroup P t=false)(h:Value.okWide P w r b0 t (.agg cs)):False:=by
 unfold okTy at hok;unfold Value.okWide Cell.okWide Cell.ok at h;unfold isGroup at hg;split at hok
 all_goals rename_i hu
 all_goals first
  | (simp[hu]at hok;done)
  | (simp[hu]at hg;done)
  | (simp[hu]at h;done)
theorem arg_tree(hS:∀t∈S,okTy P S t=true){r:Reach}{b0 t:Nat}{v:Value}{d:DataW H}{p:List MemPlace}(ht:t∈S)(hval:Value.okWide P w r b0 t v)(h:DataW.Trod enc P w 0 (fun _=>true) true t v d p) :
 (∃x,Rep (hv w) x v∧IsTy P t x)∧∀sp:Nat→Bool,(∀q∈p,sp q.block=true)→DataW.Trod enc P w 0 sp true t v d p:=by
 obtain⟨fuel,hf⟩:=h;have hgood:=trod_good hS fuel t ht _ _ hf;refine⟨?_,fun sp hsp=>⟨fuel,hgood.2 sp hsp⟩⟩
 obtain⟨⟨xs,h1,h2,h3,h4⟩,_⟩:=hgood;cases hg:isGroup P t with
 | true=>
  have:∃cs,v = .agg cs:=by
   unfold isGroup at hg;split at hg
   · rename_i fs hu
     unfold Value.okWide at hval;rw[hu]at hval;obtain⟨cs,rfl,_⟩:=hval;exact⟨cs,rfl⟩
   · simp at hg
  obtain⟨cs,rfl⟩:=this;simp only[Value.cells]at h1;exact⟨.agg xs,.agg h1 h2,by rw[hg];rfl,fuel,h4⟩
 | false=>
  obtain⟨z,rfl,hz,hzc⟩:=shp_one h4 hg (hS t ht)
  have hvc:v.cells = #[v]:=by
   cases v with
   | agg cs=>exact absurd hval fun h=>not_agg (hS t ht) hg h
   | _=>rfl
  rw[hvc]at h1;cases h1 with
  | cons h1 _=>exact⟨z,h1,by rw[hz,hg],fuel,by rw[hzc];exact h4⟩
theorem args_trees(hS:∀t∈S,okTy P S t=true){r:Reach}{b0:Nat}:∀(ts:List Nat) (vs:List Value) (ds:List (DataW H)) (p:List MemPlace),(∀t∈ts,t∈S)→(∀(j:Nat) t v,ts[j]?=some t→vs[j]?=some v→Value.okWide P w r b0 t v) →
 DataW.TrodAll enc P w 0 (fun _=>true) true ts vs ds p →
 (∃xs,RepA (hv w) xs vs∧All2 (IsTy P) ts xs)∧∀sp:Nat→Bool,(∀q∈p,sp q.block=true)→DataW.TrodAll enc P w 0 sp true ts vs ds p
 | [],vs,ds,p,_,_,h=>by
  obtain⟨rfl,rfl,rfl⟩:=trodAll_nil h;exact⟨⟨[],.nil,.nil⟩,fun _ _=>rfl⟩
 | t::ts,vs,ds,p,hts,hval,h=>by
  obtain⟨v,vs1,d,ds1,a,b,rfl,rfl,rfl,h1,h2⟩:=trodAll_cons h;obtain⟨⟨x,a1,a2⟩,a3⟩:=arg_tree hS (hts t (qz ..)) (hval 0 t v rfl rfl) h1
  obtain⟨⟨xs,b1,b2⟩,b3⟩:=args_trees hS ts vs1 ds1 b (fun u hu=>hts u (qt _ hu)) (fun j t v hj hv=>hval (j+1) t v (by simpa using hj) (by simpa using hv)) h2
  exact⟨⟨x::xs,.cons a1 b1,.cons a2 b2⟩,fun sp hsp=>⟨a,b,a3 sp fun q hq=>hsp q (jH _ hq),b3 sp fun q hq=>hsp q (yw _ hq),rfl⟩⟩
theorem trodAll_carry{w':World}{base:Nat}{sp:Nat→Bool}:∀(ts:List Nat) (vs:List Value) (ds:List (DataW H)) (p:List MemPlace),DataW.TrodAll enc P w base sp true ts vs ds p→(∀q∈p,w.sameAt w' q)→DataW.TrodAll enc P w' base sp true ts vs ds p
 | [],vs,ds,p,h,_=>by
  obtain⟨rfl,rfl,rfl⟩:=trodAll_nil h;exact rfl
 | t::ts,vs,ds,p,h,hs=>by
  obtain⟨v,vs1,d,ds1,a,b,rfl,rfl,rfl,h1,h2⟩:=trodAll_cons h;obtain⟨fuel,hf⟩:=h1;exact⟨a,b,⟨fuel,DataW.trod_carry _ _ _ _ hf fun q hq=>hs q (jH _ hq)⟩,trodAll_carry ts vs1 ds1 b h2 fun q hq=>hs q (yw _ hq),rfl⟩
end
end Su
end
section
namespace Su
open Go Fly Go.RowKit Go.ChangeShapes
section
variable {H:Type} {enc:TypeId×Value→H} {P:Program} {S:List Nat}
theorem trodAll_len{w:World}{base:Nat}{sp:Nat→Bool}{held:Bool}:∀ {ts:List Nat} {vs:List Value} {ds:List (DataW H)} {p:List MemPlace},DataW.TrodAll enc P w base sp held ts vs ds p→ds.length=ts.length
 | [],_,_,_,h=>by obtain⟨rfl,rfl,rfl⟩:=trodAll_nil h;rfl
 | _::_,_,_,_,h=>by
  obtain⟨v,vs1,d,ds1,a,b,rfl,rfl,rfl,h1,h2⟩:=trodAll_cons h;simp[trodAll_len h2]
theorem kept_of{W W':World}{may:MemPlace→Prop}(ho:W'.os=W.os)(hp:W'.output=W.output)(hb:∀b,b<W.heap.size→W'.heap[b]?=W.heap[b]?):W.keptBut W' may:=by
 refine⟨ho,hp,fun i hi=>?_⟩
 rw[hb i hi];cases W.heap[i]? with
 | none=>rfl
 | some o=>cases o <;> first | exact⟨rfl,rfl,rfl,fun _ _=>rfl⟩ | exact .inr ⟨rfl,rfl⟩ | rfl
theorem pure_post{fn:Func}{s:ChangeSpec}{apart fresh handsOn again:Bool}(hS:∀t∈S,okTy P S t=true)(hpar:∀t∈fn.params.toList,t∈S){tb:Nat}(hres:fn.resultTypes = #[tb])(htb:P.underlying tb=some .bool)(hvars:s.vars=[])
 (hsn:∀ds:List (DataW H),ds.length=fn.params.size→s.fn H ds = { results:=[.lit (.bool true)],args:=ds }) {W:World} {args:Array Value} {ds gs:List (DataW H)} {before:List MemPlace} {b0:Nat} {r:Reach}
 (hval:∀(j:Nat) t v,fn.params[j]?=some t→args[j]?=some v→Value.okWide P W r b0 t v) (hW:DataW.Whole enc P fn.params.toList s.vars apart W args.toList ds gs before) {W':World} (ho:W'.os=W.os) (hp:W'.output=W.output) (hb:∀b,b<W.heap.size→W'.heap[b]?=W.heap[b]?) :
 s.post enc P fn apart fresh handsOn again W args (.bool true) W':=by
 have hW0:=hW;have hlt:=hW.lt;obtain⟨p,q,hA,hV,rfl,hz,hn⟩:=hW;have hlen:ds.length=fn.params.size:=by rw[trodAll_len hA];simp
 have hV0:gs=[]∧q=[]:=by
  rw[hvars]at hV;cases gs with
  | nil=>exact⟨rfl,hV⟩
  | cons g l=>exact absurd hV (by intro h;cases h)
 obtain⟨rfl,rfl⟩:=hV0;have same:∀x∈p,W.sameAt W' x:=by
  intro x hx;have h1:=hlt x (jH _ hx)
  cases x with
  | cell b off=>simp only[World.sameAt,World.cell?];rw[hb b h1]
  | map b=>exact hb b h1
 have hargs:=(args_trees hS _ _ _ _ hpar (fun j t v hj hv=>hval j t v (by simpa using hj) (by simpa using hv)) hA).2
 have hcarry:∀sp:Nat→Bool,(∀x∈p,sp x.block=true)→DataW.TrodAll enc P W' 0 sp true fn.params.toList args.toList ds p:=fun sp hsp=>trodAll_carry _ _ _ _ (hargs sp hsp) same
 have hfn:=hsn ds hlen;have hresult:∀(bs:Nat) (sp:Nat→Bool) (hd:Bool),DataW.TrodAll enc P W' bs sp hd fn.resultTypes.toList ((Value.bool true).resultList fn.resultTypes.size) [.lit (.bool true)] []:=by
  intro bs sp hd;rw[hres];exact trodAll_mk1 (shut_bool htb true)
 have hold:∀x∈p,(fun b=>decide (b<W.heap.size)) x.block=true:=fun x hx=>by simpa using hlt x (jH _ hx)
 have hvs:∀sp,DataW.TrodVars enc P W' sp s.vars (s.fn H (ds++[])).vars []:=fun sp=>by rw[jw,hfn,hvars];rfl
 refine⟨ds,[],p++[],[],p,[],hW0,?_,?_,hvs _,kept_of ho hp hb,fun _=>⟨?_,?_⟩⟩
 · rw[jw,hfn];exact hresult _ _ _
 · rw[jw,hfn];exact hcarry _ hold
 · intro j t r0 h1 h2
   rw[hres]at h1 h2;have:(Value.bool true).resultList #[tb].size=[.bool true]:=rfl
   rw[this]at h2;cases j with
   | zero=>
    simp at h1 h2;subst h1 h2
    unfold Value.okWide;rw[htb];simp[Cell.okWide,Cell.ok,htb]
   | succ j=>simp at h1
 · refine⟨_,[],([]++p)++[],⟨[]++p,[],trodAll_append (hcarry _ fun _ _=>rfl) (hresult _ _ _),?_,rfl,?_,?_⟩,?_⟩
   · have:=hvs (fun _=>true)
     rw[jw,hfn]at this;exact this
   · intro b off hm
     have hm':MemPlace.cell b off∈p:=by simpa using hm
     have h1:b<W.heap.size:=hlt _ (jH _ hm')
     have h2:=hz b off (by simpa using hm')
     unfold World.frozen? at h2 ⊢
     rw[hb b h1];exact h2
   · intro ha;simpa using hn ha
   · intro x hx _;simpa using hx
theorem law_post{fn:Func}{f:FuncId}{s:ChangeSpec}{apart fresh handsOn again:Bool}(hS:∀t∈S,okTy P S t=true)(hpar:∀t∈fn.params.toList,t∈S){tb:Nat}(hres:fn.resultTypes = #[tb])(htb:P.underlying tb=some .bool)(hvars:s.vars=[])
 (hsn:∀ds:List (DataW H),ds.length=fn.params.size→s.fn H ds = { results:=[.lit (.bool true)],args:=ds }) {W:World} {args:Array Value} {ds gs:List (DataW H)} {before:List MemPlace} {b0:Nat} {r:Reach}
 (hval:∀(j:Nat) t v,fn.params[j]?=some t→args[j]?=some v→Value.okWide P W r b0 t v) (hW:DataW.Whole enc P fn.params.toList s.vars apart W args.toList ds gs before)
 (h:∀xs,RepA (hv W) xs args.toList→All2 (IsTy P) fn.params.toList xs→Fing P f args (hv W) [] fun v _ _=>v = .bool true) :
 Calls P f args W fun e W'=>∃v,e = .returned v∧s.post enc P fn apart fresh handsOn again W args v W':=by
 obtain⟨p,q,hA,hV,hpq,hz,hn⟩:=id hW;obtain⟨⟨xs,h1,h2⟩,_⟩:=args_trees hS _ _ _ _ hpar (fun j t v hj hv=>hval j t v (by simpa using hj) (by simpa using hv)) hA
 refine(h xs h1 h2 W (fun _ _ h=>h) (fun _ h=>by cases h) (fun _ h=>by cases h) zt).mono ?_
 rintro e W' ⟨v,V',G',rfl,hh,rfl⟩
 exact⟨_,rfl,pure_post hS hpar hres htb hvars hsn hval hW hh.ext.os hh.ext.output fun b hb=>hh.ext.block b hb (by simp[keys])⟩
end
end Su
end
section
namespace Su
open Go Fly
section
variable {P:Program}
def Sh1(P:Program)(t:Nat)(xs:List T):Prop:=∃fuel,Shp P fuel t xs
def R1{α:Type}(P:Program)(c:Cod α)(t:Nat):Prop:=∀xs,Sh1 P t xs→∃x a,xs=[x]∧c.dec x=some a
theorem r1_int{κ:IntKind}{t:Nat}(hu:P.underlying t=some (.int κ)):R1 P (cI κ) t:=by
 rintro xs ⟨fuel,h⟩
 cases fuel with
 | zero=>exact absurd h (by simp[Shp])
 | succ fuel=>
  simp only[Shp,hu]at h;obtain⟨n,rfl,_⟩:=h;exact⟨_,n,rfl,by show asI κ (.t (.s (.int κ n)))=some n;simp[asI]⟩
theorem r1_str{t:Nat}(hu:P.underlying t=some .string):R1 P cS t:=by
 rintro xs ⟨fuel,h⟩
 cases fuel with
 | zero=>exact absurd h (by simp[Shp])
 | succ fuel=>
  simp only[Shp,hu]at h;obtain⟨n,rfl,_⟩:=h;exact⟨_,n,rfl,rfl⟩
theorem ty_one{α:Type}{c:Cod α}{t:Nat}{x:T}(hg:isGroup P t=false)(h:R1 P c t)(hx:IsTy P t x):∃a,c.dec x=some a:=by
 obtain⟨h0,fuel,h1⟩:=hx;rw[hg]at h0;obtain⟨y,a,e,e2⟩:=h x.cells ⟨fuel,h1⟩
 have e3:x=y:=by cases x <;> first | (cases h0;done) | (exact(List.cons.inj e).1)
 subst e3;exact⟨a,e2⟩
theorem dec_cons{α β:Type}{c:Cod α}{d:Dec β}{x:T}{l:List T}{a:α}{b:β}(h:c.dec x=some a)(h':d.dec l=some b):(dc c d).dec (x::l)=some (a,b):=by
 show((c.dec x).bind fun a=>(d.dec l).bind fun b=>some (a,b))=_
 rw[h,h'];rfl
end
end Su
end
section
set_option maxRecDepth 10000
namespace Su
open Go Fly Go.Proofs
theorem fing_of{α:Type}{f:Nat}{d:Dec α}{g:α→Option Bool}(hp:Ok1 Tryz.prog tb btsOK.sound f (prim d (d1 cB) g))(hg:∀a,g a=some true){V:View}(gk:GOK tb V){args:Array Value}{xs:List T}(hr:RepA V xs args.toList){a:α}(ha:d.dec xs=some a) :
 Fing Tryz.prog f args V [] fun v _ _=>v = .bool true:=by
 have h:(∀xs y,(d.dec xs).bind g=some y→∀V vs,GOK tb V→RepA V xs vs→Fing Tryz.prog f vs.toArray V [] fun v V' _=>∃rvs,RepA V' ((d1 cB).enc y) rvs∧v=resV rvs)∧_:=hp.2
 have hF:=h.1 xs true (by rw[ha];exact hg a) V args.toList gk hr
 rw[j9]at hF;intro w a1 a2 a3 a4;refine(hF w a1 a2 a3 a4).mono ?_
 rintro e w' ⟨v,V',G',rfl,hh,rvs,m1,rfl⟩
 refine⟨_,V',G',rfl,hh,?_⟩
 cases m1 with | cons k1 k2=>cases k2 with | nil=>cases k1 with | s _=>rfl
def p10L:List Int:=[1,10,100,1000,10000,100000,1000000,10000000,100000000,1000000000,10000000000,100000000000,1000000000000,10000000000000,100000000000000,1000000000000000,10000000000000000,100000000000000000,1000000000000000000,10000000000000000000]
theorem rep_ints{V:View}:∀l:List Int,(∀n∈l,inR .u64 n=true)→RepA V (l.map fun n=>T.s (.int .u64 n)) (l.map (Value.int .u64 ·))
 | [],_=>.nil
 | n::l,h=>.cons (.s (show isSc (.int .u64 n)=true from h n qz)) (rep_ints l fun m hm=>h m (qt _ hm))
theorem p10_in:∀n∈p10L,inR .u64 n=true:=by
 have:(p10L.all (inR .u64 ·))=true:=by decide +kernel
 exact jk.1 this
theorem gP10:Tryz.prog.globalNamed "internal/strconv.uint64pow10"=some 4:=by kernel_rfl
theorem tP10:(Tryz.prog.globals[4]?).map (·.type)=some 266:=by kernel_rfl
theorem uP10:Tryz.prog.underlying 266=some (.array 20 22):=by kernel_rfl
theorem uU64:Tryz.prog.underlying 22=some (.int .u64):=by kernel_rfl
theorem cU64:Tryz.prog.cellsOf 22=1:=by kernel_rfl
theorem cP10:Tryz.prog.cellsOf 266=20:=by kernel_rfl
theorem gok_of{W:World}{cs:Array Value}(hv0:W.var? Tryz.prog "internal/strconv.uint64pow10"=some cs) (h:cs.toList=p10L.map (Value.int .u64 ·)):GOK tb (hv W):=by
 intro g x hx;have hx':(bif Nat.beq g 4 then some gT4 else none)=some x:=hx
 obtain⟨h1,h2⟩:=bif_some hx';have hg:=qd h1;subst hg;have:=soi h2;subst this
 simp only[World.var?,gP10,qf]at hv0;split at hv0
 · rename_i c t fr hb
   cases hv0;have hV:hv W 4=some (.cells cs t fr):=hb
   have eT:gT4.cells=p10L.map fun n=>T.s (.int .u64 n):=by kernel_rfl
   have hl:cs.size=20:=by
    have:=congrArg List.length h
    rw[qD]at this;simpa[p10L]using this
   refine⟨Rep.pt (x:=gT4) (off:=0) (o:=0) (vs:=cs.toList) ?_ ?_ ?_,cs,t,fr,hV,?_⟩
   · rw[eT,h];exact rep_ints _ p10_in
   · intro y hy
     rw[eT]at hy;obtain⟨n,_,rfl⟩:=jJ.1 hy;rfl
   · intro j c hj
     refine⟨cs,t,fr,hV,?_⟩
     rw[qF,← hj];simp
   · rw[eT,qD,hl];rfl
 · cases hv0
theorem row_u64{W:World}{enc:TypeId×Value→Unit}{sp:Nat→Bool}{hd:Bool}{cs:List Value}{fuel:Nat}{p:List MemPlace}
 (h:DataW.trod enc Tryz.prog W 0 sp hd fuel 266 cs=some (.agg (p10L.map fun n=>.lit (.int .u64 n)),p)):cs=p10L.map (Value.int .u64 ·):=by
 obtain⟨xs,m,rfl,hx,hcs,hn,hel⟩:=DataW.trod_array uP10 h;simp only[jd,DataW.agg.injEq]at hx;have hx1:=hx.1;rw[cP10]at hcs;refine List.ext_getElem? fun i=>?_
 by_cases hi:i<20
 · have h1:=hel i hi
   rw[cU64,j8,qu (by omega)]at h1;obtain⟨n,e1,e2,_⟩:=DataW.trod_int uU64 h1;have hc:cs[i]?=some (.int .u64 n):=by
    have h2:=congrArg (fun l=>l[0]?) e1
    simp only[qV,jP]at h2;simpa using h2
   have hs:=congrArg (fun l=>l[i]?) hx1
   simp only[jh]at hs;rw[qu (l:=xs) (by omega)]at hs;rw[hc,jh];cases hp:p10L[i]? with
   | none=>rw[hp]at hs;simp at hs
   | some k=>
    rw[hp]at hs;simp[e2]at hs;simp[hs]
 · rw[ja (by omega),ja (by rw[qD];show 20≤i;omega)]
end Su
namespace Go.Proofs.YtldhknmacepeiaaGreatDoor
open Go Go.ChangeShapes Go.WideShapes Go.ChangeAt Go.RowKit Fly Su
set_option maxRecDepth 100000
theorem ownK:ownKnob Tryz.prog.godebug=none:=by kernel_rfl
theorem uBool:Tryz.prog.underlying 4=some .bool:=by kernel_rfl
theorem gok_laid{W:World}(h:laidMetH Tryz.prog Rows.deciPrintsRow.laid W):GOK tb (hv W):=by
 rw[MakeChecks.laidMetH_plain _ _ _ (by kernel_rfl)]at h;obtain⟨ps,hL,_⟩:=h;obtain⟨g0,t0,cs0,f0,p0,q0,_,_,_,_,hL,_⟩:=hL;obtain⟨g1,t1,cs1,f1,p1,q1,_,_,_,_,hL,_⟩:=hL;obtain⟨g2,t2,cs2,f2,p2,q2,hg,ht,hv0,hd,hL,_⟩:=hL;obtain rfl:=yO (gP10.symm.trans hg)
 obtain rfl:=yO (tP10.symm.trans ht)
 exact gok_of hv0 (row_u64 hd)
noncomputable def dCells:DataW Unit→Array Value
 | .agg l=>(l.map fun | .lit (.int k n)=>Value.int k n | _=>undef).toArray
 | _=>#[]
noncomputable def laidW(os:Os):World :=
 let w:=World.doorLaid Tryz.prog 77 os
 { w with heap:=w.heap.modify ((Tryz.prog.globalNamed "unicode/utf8.first").getD 0) fun
    | .cells _ t frozen=>.cells (dCells Rows.laid_unicode_utf8_first) t frozen
    | o=>o }
theorem door_met(os:Os)(args:Array Value):laidMetH Tryz.prog Rows.deciPrintsRow.laid ((laidW os).forCall (fun _ _=>0) ⟨#[],args,[]⟩).memory :=
 laidMetH_of_parts3 (fuel:=8) (laidMet_of_run' 8 (by kernel_rfl) (by kernel_rfl)) (by kernel_rfl) (by kernel_rfl)
end Go.Proofs.YtldhknmacepeiaaGreatDoor
end
