/-
  An evaluator of the program's functions over trees of values, proved sound. No condition.
-/
import Derived.Test.YtldhknmacepeiaaGreatDoorHIn
import Derived.Test.YtldhknmacepeiaaGreatDoorSuE
import Derived.RowKit
import Derived.Test.YtldhknmacepeiaaGreatDoorFlyM
import Derived.Test.YtldhknmacepeiaaGreatDoorNT14
import Derived.Test.YtldhknmacepeiaaGreatDoorSuTb
import Derived.Test.YtldhknmacepeiaaGreatDoorCards
import Derived.LaidMore
import Derived.OpenShut
import Derived.Stop.Joined
import Derived.ChangeArms
import Derived.WalkKit
import Derived.ProofKit
import Derived.Shelf.Vars
set_option linter.unusedVariables false
set_option linter.unusedSimpArgs false
section
namespace Su
open Go Fly
theorem qks{β γ:Type}{f:Nat→Option (List β)}{g:List β→Option γ}{n:Nat}{r:List γ}(h:(List.range n).mapM (fun i=>(f i).bind g)=some r) :
 ∃css:List (List β),css.length=n∧∀(i:Nat) (cs:List β),css[i]?=some cs→f i=some cs∧∃y,y∈r∧g cs=some y:=by
 have hl:r.length=n:=by simpa using mapM_some_length h
 refine⟨(List.range n).map fun i=>(f i).getD [],by simp,fun i cs hi=>?_⟩
 have hin:i<n:=by
  have:=(zn.1 hi).1
  simpa using this
 have h1:=mapM_some_get h i i (by simp[hin])
 rw[zl (by omega)]at h1;obtain⟨c,hc,hg⟩:=VB.1 h1;have:cs=c:=by
  rw[KB,List.getElem?_range hin]at hi;simp[hc]at hi;exact hi.symm
 subst this;exact⟨hc,_,List.getElem_mem _,hg⟩
theorem qmf{α β:Type}{R:α→β→Prop}:∀ {l:List α},(∀x∈l,∃y,R x y)→∃m,All2 R l m
 | [],_=>⟨[],.nil⟩
 | x::l,h=>by
  obtain⟨y,hy⟩:=h x (zE ..)
  obtain⟨m,hm⟩:=qmf (l:=l) fun z hz=>h z (zq _ hz)
  exact⟨y::m,.cons hy hm⟩
theorem All2.length{α β:Type}{R:α→β→Prop}{l:List α}{m:List β}(h:All2 R l m):l.length=m.length:=by
 induction h with
 | nil=>rfl
 | cons _ _ ih=>simp[ih]
theorem All2.right{α β:Type}{R:α→β→Prop}{l:List α}{m:List β}(h:All2 R l m):∀y∈m,∃x,R x y:=by
 induction h with
 | nil=>intro y hy;simp at hy
 | cons hr _ ih=>
  intro y hy;rcases zN.1 hy with rfl | hy
  · exact⟨_,hr⟩
  · exact ih y hy
section
variable {H:Type} {enc:TypeId×Value→H} {P:Program} {w:World} {S:List Nat}
def qwD(enc:TypeId×Value→H)(P:Program)(w:World)(fuel t:Nat)(cs:List Value)(x:DataW H×List MemPlace):Prop :=
 (∃xs,RepA (hv w) xs cs∧(∀y∈xs,y.isAgg=false)∧xs.length=P.cellsOf t∧Shp P fuel t xs)∧∀sp:Nat→Bool,(∀p∈x.2,sp p.block=true)→DataW.trod enc P w 0 sp true fuel t cs=some x
theorem qmg{fuel t:Nat}{xs:List T}(h:Shp P fuel t xs)(hg:yN P t=false)(hok:Yc P S t=true):∃x,xs=[x]∧x.isAgg=false∧x.cells=[x]:=by
 cases fuel with
 | zero=>exact absurd h (by simp[Shp])
 | succ fuel=>
  unfold Shp at h;unfold yN at hg;split at h
  · obtain⟨b,rfl⟩:=h;exact⟨_,rfl,rfl,rfl⟩
  · obtain⟨b,rfl,_⟩:=h;exact⟨_,rfl,rfl,rfl⟩
  · obtain⟨b,rfl,_⟩:=h;exact⟨_,rfl,rfl,rfl⟩
  · obtain⟨b,rfl,_⟩:=h;exact⟨_,rfl,rfl,rfl⟩
  · obtain⟨b,rfl,_⟩:=h;exact⟨_,rfl,rfl,rfl⟩
  · rename_i hu;rw[hu]at hg;simp at hg
  · exact absurd h (by simp)
theorem qnA{fuel e:Nat}{cs:List Value}{x:DataW H×List MemPlace}(hok:Yc P S e=true)(h:qwD enc P w fuel e cs x) :
 ∃z:T,RepA (hv w) z.cells cs∧(∀y∈z.cells,y.isAgg=false)∧z.cells.length=P.cellsOf e∧z.isAgg=yN P e∧Shp P fuel e z.cells:=by
 obtain⟨⟨xs,h1,h2,h3,h4⟩,_⟩:=h;cases hg:yN P e with
 | true=>exact⟨.agg xs,h1,h2,h3,rfl,h4⟩
 | false=>
  obtain⟨z,rfl,hz,hzc⟩:=qmg h4 hg hok;exact⟨z,by rw[hzc];exact h1,by rw[hzc];exact h2,by rw[hzc];exact h3,hz,by rw[hzc];exact h4⟩
theorem qgn{fuel e:Nat}:∀ {css:List (List Value)} {l:List T},All2 (fun cs z=>RepA (hv w) z.cells cs∧(∀y∈z.cells,y.isAgg=false)∧z.cells.length=P.cellsOf e∧z.isAgg=yN P e∧Shp P fuel e z.cells) css l →
 RepA (hv w) (l.flatMap T.cells) css.flatten∧(∀y∈l.flatMap T.cells,y.isAgg=false)
 | _,_,.nil=>⟨.nil,by simp⟩
 | _,_,.cons h h'=>by
  obtain⟨h1,h2⟩:=qgn h';rw[Kt,Wf];refine⟨h.1.append h1,fun y hy=>?_⟩
  rcases Kh.1 hy with hy | hy
  · exact h.2.1 y hy
  · exact h2 y hy
theorem qeT{fuel:Nat}{cs:List Value}(ih:∀t∈S,∀(cs:List Value) (x:DataW H×List MemPlace),DataW.trod enc P w 0 (fun _=>true) true fuel t cs=some x→qwD enc P w fuel t cs x):∀(fs:List Field) (o:Nat) (ys:List (DataW H×List MemPlace)),
 qgm P S cs.length o fs=true→fs.mapM (fun f=>DataW.trod enc P w 0 (fun _=>true) true fuel f.type ((cs.drop f.offset).take (P.cellsOf f.type)))=some ys →
 ∃parts:List (List T),RepA (hv w) parts.flatten (cs.drop o)∧(∀y∈parts.flatten,y.isAgg=false)∧All2 (fun(f:Field) p=>Shp P fuel f.type p) fs parts
 | [],o,ys,ht,_=>by
  have:=zh ht;subst this
  rw[K6 (zw _)];exact⟨[],.nil,by simp,.nil⟩
 | f::fs,o,ys,ht,h=>by
  simp only[qgm,zk]at ht;obtain⟨h1,h2,h3⟩:=ht;have:=zh h1;subst this
  rw[List.mapM_cons]at h;obtain⟨y,hy,h⟩:=qa (a:=DataW.trod enc P w 0 (fun _=>true) true fuel f.type ((cs.drop f.offset).take (P.cellsOf f.type))) h
  obtain⟨ys',hys,_⟩:=qa (a:=fs.mapM (fun f=>DataW.trod enc P w 0 (fun _=>true) true fuel f.type ((cs.drop f.offset).take (P.cellsOf f.type)))) h
  obtain⟨⟨xs,a1,a2,a3,a4⟩,_⟩:=ih f.type (by simpa using h2) _ _ hy
  obtain⟨parts,b1,b2,b3⟩:=qeT ih fs _ _ h3 hys;refine⟨xs::parts,?_,fun z hz=>?_,.cons a4 b3⟩
  · rw[Wf,← KY (P.cellsOf f.type) (cs.drop f.offset),List.drop_drop]
    exact a1.append b1
  · rw[Wf]at hz
    rcases Kh.1 hz with hz | hz
    · exact a2 z hz
    · exact b2 z hz
theorem qnB(hS:∀t∈S,Yc P S t=true):∀(fuel t:Nat),t∈S→∀(cs:List Value) (x:DataW H×List MemPlace),DataW.trod enc P w 0 (fun _=>true) true fuel t cs=some x→qwD enc P w fuel t cs x:=by
 intro fuel;induction fuel with
 | zero=>intro t _ cs x h;simp[DataW.trod]at h
 | succ fuel ih=>
  intro t htS cs x h;have hok:=hS t htS;have one:∀(v:Value),Qd v=true→cs=[v]→Nat.beq (P.cellsOf t) 1=true→Shp P (fuel+1) t [.s v]→(∀sp:Nat→Bool,(∀p∈x.2,sp p.block=true)→DataW.trod enc P w 0 sp true (fuel+1) t cs=some x)→qwD enc P w (fuel+1) t cs x:=by
   rintro v hv' rfl h1 h2 h3
   exact⟨⟨[.s v],.cons (.s hv') .nil,by simp[T.isAgg],by rw[zh h1];rfl,h2⟩,h3⟩
  have hh:=h;rw[DataW.trod_step]at h;unfold DataW.trodStep at h;split at h
  case h_1 b hu=>
   refine one _ rfl rfl (by simpa[Yc,hu]using hok) (by simp only[Shp,hu];exact⟨b,rfl⟩) fun sp _=>?_
   rw[DataW.trod_step]at hh ⊢;unfold DataW.trodStep at hh ⊢;simp only[hu]at hh ⊢;exact hh
  case h_2 k k' n hu=>
   split at h
   · rename_i hc
     obtain⟨rfl,hw⟩:=hc;refine one (.int k' n) (show Qd (.int k' n)=true from hw) rfl (by simpa[Yc,hu]using hok) (by simp only[Shp,hu];exact⟨n,rfl,hw⟩) fun sp _=>?_
     rw[DataW.trod_step]at hh ⊢;unfold DataW.trodStep at hh ⊢;simp only[hu]at hh ⊢;exact hh
   · simp at h
  case h_3 k k' b hu=>
   split at h
   · rename_i hc
     obtain⟨rfl,hw⟩:=hc;refine one _ rfl rfl (by simpa[Yc,hu]using hok) (by simp only[Shp,hu];exact⟨b,rfl,hw⟩) fun sp _=>?_
     rw[DataW.trod_step]at hh ⊢;unfold DataW.trodStep at hh ⊢;simp only[hu]at hh ⊢;exact hh
   · simp at h
  case h_4 st hu=>
   split at h
   · rename_i hc
     refine one _ (by show Nat.ble _ _=true;rw[K9];exact hc) rfl (by simpa[Yc,hu]using hok) (by simp only[Shp,hu];exact⟨st,rfl,hc⟩) fun sp _=>?_
     rw[DataW.trod_step]at hh ⊢;unfold DataW.trodStep at hh ⊢;simp only[hu]at hh ⊢;exact hh
   · simp at h
  case h_7 e hu=>
   simp only[Yc,hu,zk]at hok;refine⟨⟨[.sl (P.cellsOf e) []],.cons (.sl (l:=[]) (vs:=[]) .nil (by simp) (by simp) (by simp) (by simp[maxLen]) (.inl rfl)) .nil,by simp[T.isAgg],by rw[zh hok.1];rfl,?_⟩,fun sp _=>?_⟩
   · simp only[Shp,hu];exact⟨[],rfl,by simp,by simp⟩
   · rw[DataW.trod_step]at hh ⊢;unfold DataW.trodStep at hh ⊢;simp only[hu]at hh ⊢;exact hh
  case h_8 e a len cap hu=>
   simp only[Yc,hu,zk,List.contains_iff_mem]at hok;obtain⟨ho1,ho2,ho3⟩:=hok;have hk:0<P.cellsOf e:=by rw[Vk]at ho3;exact ho3
   simp only[]at h;split at h
   · rename_i hc
     obtain⟨hc0,hc1,hc2⟩:=hc;simp only[Vu,VB]at h;obtain⟨elems,he,rest,hrest,rfl⟩:=h;have hlen:elems.length=len:=by simpa using mapM_some_length he
     obtain⟨css,hcl,hcs⟩:=qks he;have hz:∀cs∈css,∃z:T,RepA (hv w) z.cells cs∧(∀y∈z.cells,y.isAgg=false)∧z.cells.length=P.cellsOf e∧z.isAgg=yN P e∧Shp P fuel e z.cells:=by
      intro cs hm;obtain⟨i,hi⟩:=Vo.1 hm
      obtain⟨_,y,_,hy⟩:=hcs i cs hi;exact qnA (hS e ho2) (ih e ho2 _ _ hy)
     obtain⟨l,hl⟩:=qmf hz;obtain⟨r1,r2⟩:=qgn hl;have hll:l.length=len:=by rw[← hl.length,hcl]
     have hrd:=qme (w:=w) (a:=a) hk css 0 fun i cs hi=>by rw[zF];exact(hcs i cs hi).1
     refine⟨⟨[.sl (P.cellsOf e) l],.cons ?_ .nil,by simp[T.isAgg],by rw[zh ho1];rfl,?_⟩,fun sp hsp=>?_⟩
     · rw[← hll]
       refine .sl r1 r2 (fun x hx=>?_) (by rw[hll];exact hc1) hc2 ?_
       · obtain⟨cs,hx1⟩:=hl.right x hx
         exact hx1.2.2.1
       · cases hl0:css with
         | nil=>rw[hl0]at hcl;left;rw[← KD];rw[hll,← hcl];rfl
         | cons c0 css'=>
          right;have h0:=(hcs 0 c0 (by rw[hl0];rfl)).1
          obtain⟨_,hcl0,hcc⟩:=World.cells?_some h0
          have h00:=hcc 0 hk
          have hc00:c0[0]?=some (c0[0]'(by omega)):=by rw[zl]
          rw[hc00]at h00;have hsp:a.spot=none:=by
           have e0:(a.add (0*P.cellsOf e)).add 0=a:=by unfold Addr.add;simp
           rw[e0]at h00;exact(qeS h00).1
          refine⟨a.block,a.off,by cases a;simp at hsp;subst hsp;rfl,fun j c hj=>?_⟩
          rw[← hl0]at hj;have:=(hrd j c hj).1
          simpa using this
     · simp only[Shp,hu]
       refine⟨l,rfl,by omega,fun x hx=>?_⟩
       obtain⟨cs,hx1⟩:=hl.right x hx;exact⟨hx1.2.2.2.1,hx1.2.2.2.2⟩
     · rw[DataW.trod_step]
       unfold DataW.trodStep;simp only[hu];rw[zr ⟨hc0,hc1,hc2⟩];simp only[Vu,VB];have elem:∀(i:Nat) (y:DataW H×List MemPlace),y∈elems++rest→(w.cells? 0 (a.add (i*P.cellsOf e)) (P.cellsOf e)).bind (DataW.trod enc P w 0 (fun _=>true) true fuel e)=some y →
        (w.cells? 0 (a.add (i*P.cellsOf e)) (P.cellsOf e)).bind (DataW.trod enc P w 0 sp true fuel e)=some y:=by
        intro i y hy h1;obtain⟨cs,h2,h3⟩:=VB.1 h1;refine VB.2 ⟨cs,h2,(ih e ho2 _ _ h3).2 sp fun p hp=>hsp p ?_⟩
        exact VJ _ (KM.2 ⟨y,hy,hp⟩)
       refine⟨elems,mapM_carry he fun i y _ hy h1=>elem i y (KT _ hy) h1,rest,?_,rfl⟩
       simp only[WH]at hrest;by_cases h0:cap-len=0
       · rw[h0]at hrest ⊢
         simp at hrest;subst hrest;split <;> rfl
       · have hrl:rest.length=cap-len:=by simpa using mapM_some_length hrest
         have:sp a.block=true:=hsp (.cell a.block (a.off+0)) (KT _ (MemPlace.mem_row.2 ⟨0,WF (by omega) hk,rfl⟩))
         rw[zr this];exact mapM_carry hrest fun i y _ hy h1=>elem _ y (VJ _ hy) h1
   · simp at h
  case h_9 fs hu=>
   simp only[Yc,hu]at hok;split at h
   · rename_i hc
     simp only[Vu]at h;obtain⟨ys,hy,rfl⟩:=h;rw[← hc]at hok;obtain⟨parts,b1,b2,b3⟩:=qeT ih fs.toList 0 ys hok hy
     rw[KR]at b1;refine⟨⟨parts.flatten,b1,b2,by rw[b1.length,hc],?_⟩,fun sp hsp=>?_⟩
     · simp only[Shp,hu];exact⟨parts,rfl,b3⟩
     · rw[DataW.trod_step]
       unfold DataW.trodStep;simp only[hu];rw[zr hc];simp only[Vu];have inS:∀(N:Nat) (l:List Field) (o:Nat),qgm P S N o l=true→∀f∈l,f.type∈S:=by
        intro N l;induction l with
        | nil=>intro o _ f hf;simp at hf
        | cons g l ihl=>
         intro o ht f hf;simp only[qgm,zk]at ht;rcases zN.1 hf with rfl | hf
         · simpa using ht.2.1
         · exact ihl _ ht.2.2 f hf
       refine⟨ys,mapM_carry hy fun f y hf hym h1=>(ih f.type (inS _ _ _ hok f hf) _ _ h1).2 sp fun p hp=>hsp p (KM.2 ⟨y,hym,hp⟩),rfl⟩
   · simp at h
  all_goals first
   | (rename_i hu;simp[Yc,hu]at hok;done)
   | (rename_i hu _;simp[Yc,hu]at hok;done)
   | (simp at h;done)
end
end Su
end
section
namespace Su
open Go Fly Go.RowKit Go.ChangeShapes
section
variable {H:Type} {enc:TypeId×Value→H} {P:Program} {w:World} {S:List Nat}
def qnC(P:Program)(t:Nat)(x:T):Prop:=x.isAgg=yN P t∧∃fuel,Shp P fuel t x.cells
theorem qwE{r:Reach}{b0:Nat}{t:Nat}{cs:Array Value}(hok:Yc P S t=true)(hg:yN P t=false)(h:Value.okWide P w r b0 t (.agg cs)):False:=by
 unfold Yc at hok;unfold Value.okWide Cell.okWide Cell.ok at h;unfold yN at hg;split at hok
 all_goals rename_i hu
 all_goals first
  | (simp[hu]at hok;done)
  | (simp[hu]at hg;done)
  | (simp[hu]at h;done)
theorem qtj(hS:∀t∈S,Yc P S t=true){r:Reach}{b0 t:Nat}{v:Value}{d:DataW H}{p:List MemPlace}(ht:t∈S)(hval:Value.okWide P w r b0 t v)(h:DataW.Trod enc P w 0 (fun _=>true) true t v d p) :
 (∃x,Rep (hv w) x v∧qnC P t x)∧∀sp:Nat→Bool,(∀q∈p,sp q.block=true)→DataW.Trod enc P w 0 sp true t v d p:=by
 obtain⟨fuel,hf⟩:=h;have hgood:=qnB hS fuel t ht _ _ hf;refine⟨?_,fun sp hsp=>⟨fuel,hgood.2 sp hsp⟩⟩
 obtain⟨⟨xs,h1,h2,h3,h4⟩,_⟩:=hgood;cases hg:yN P t with
 | true=>
  have:∃cs,v = .agg cs:=by
   unfold yN at hg;split at hg
   · rename_i fs hu
     unfold Value.okWide at hval;rw[hu]at hval;obtain⟨cs,rfl,_⟩:=hval;exact⟨cs,rfl⟩
   · simp at hg
  obtain⟨cs,rfl⟩:=this;simp only[Value.cells]at h1;exact⟨.agg xs,.agg h1 h2,by rw[hg];rfl,fuel,h4⟩
 | false=>
  obtain⟨z,rfl,hz,hzc⟩:=qmg h4 hg (hS t ht)
  have hvc:v.cells = #[v]:=by
   cases v with
   | agg cs=>exact absurd hval fun h=>qwE (hS t ht) hg h
   | _=>rfl
  rw[hvc]at h1;cases h1 with
  | cons h1 _=>exact⟨z,h1,by rw[hz,hg],fuel,by rw[hzc];exact h4⟩
theorem qaC(hS:∀t∈S,Yc P S t=true){r:Reach}{b0:Nat}:∀(ts:List Nat) (vs:List Value) (ds:List (DataW H)) (p:List MemPlace),(∀t∈ts,t∈S)→(∀(j:Nat) t v,ts[j]?=some t→vs[j]?=some v→Value.okWide P w r b0 t v) →
 DataW.TrodAll enc P w 0 (fun _=>true) true ts vs ds p →
 (∃xs,RepA (hv w) xs vs∧All2 (qnC P) ts xs)∧∀sp:Nat→Bool,(∀q∈p,sp q.block=true)→DataW.TrodAll enc P w 0 sp true ts vs ds p
 | [],vs,ds,p,_,_,h=>by
  obtain⟨rfl,rfl,rfl⟩:=trodAll_nil h;exact⟨⟨[],.nil,.nil⟩,fun _ _=>rfl⟩
 | t::ts,vs,ds,p,hts,hval,h=>by
  obtain⟨v,vs1,d,ds1,a,b,rfl,rfl,rfl,h1,h2⟩:=trodAll_cons h;obtain⟨⟨x,a1,a2⟩,a3⟩:=qtj hS (hts t (zE ..)) (hval 0 t v rfl rfl) h1
  obtain⟨⟨xs,b1,b2⟩,b3⟩:=qaC hS ts vs1 ds1 b (fun u hu=>hts u (zq _ hu)) (fun j t v hj hv=>hval (j+1) t v (by simpa using hj) (by simpa using hv)) h2
  exact⟨⟨x::xs,.cons a1 b1,.cons a2 b2⟩,fun sp hsp=>⟨a,b,a3 sp fun q hq=>hsp q (KT _ hq),b3 sp fun q hq=>hsp q (VJ _ hq),rfl⟩⟩
theorem Z5{w':World}{base:Nat}{sp:Nat→Bool}:∀(ts:List Nat) (vs:List Value) (ds:List (DataW H)) (p:List MemPlace),DataW.TrodAll enc P w base sp true ts vs ds p→(∀q∈p,w.sameAt w' q)→DataW.TrodAll enc P w' base sp true ts vs ds p
 | [],vs,ds,p,h,_=>by
  obtain⟨rfl,rfl,rfl⟩:=trodAll_nil h;exact rfl
 | t::ts,vs,ds,p,h,hs=>by
  obtain⟨v,vs1,d,ds1,a,b,rfl,rfl,rfl,h1,h2⟩:=trodAll_cons h;obtain⟨fuel,hf⟩:=h1;exact⟨a,b,⟨fuel,DataW.trod_carry _ _ _ _ hf fun q hq=>hs q (KT _ hq)⟩,Z5 ts vs1 ds1 b h2 fun q hq=>hs q (VJ _ hq),rfl⟩
end
end Su
end
section
namespace Su
open Go Fly Go.RowKit Go.ChangeShapes
section
variable {H:Type} {enc:TypeId×Value→H} {P:Program} {S:List Nat}
theorem qcR{w:World}{base:Nat}{sp:Nat→Bool}{held:Bool}:∀ {ts:List Nat} {vs:List Value} {ds:List (DataW H)} {p:List MemPlace},DataW.TrodAll enc P w base sp held ts vs ds p→ds.length=ts.length
 | [],_,_,_,h=>by obtain⟨rfl,rfl,rfl⟩:=trodAll_nil h;rfl
 | _::_,_,_,_,h=>by
  obtain⟨v,vs1,d,ds1,a,b,rfl,rfl,rfl,h1,h2⟩:=trodAll_cons h;simp[qcR h2]
theorem qwF{W W':World}{may:MemPlace→Prop}(ho:W'.os=W.os)(hp:W'.output=W.output)(hb:∀b,b<W.heap.size→W'.heap[b]?=W.heap[b]?):W.keptBut W' may:=by
 refine⟨ho,hp,fun i hi=>?_⟩
 rw[hb i hi];cases W.heap[i]? with
 | none=>rfl
 | some o=>cases o <;> first | exact⟨rfl,rfl,rfl,fun _ _=>rfl⟩ | exact .inr ⟨rfl,rfl⟩ | rfl
theorem qnD{fn:Func}{s:ChangeSpec}{apart fresh handsOn again:Bool}(hS:∀t∈S,Yc P S t=true)(hpar:∀t∈fn.params.toList,t∈S){tb:Nat}(hres:fn.resultTypes = #[tb])(htb:P.underlying tb=some .bool)(hvars:s.vars=[])
 (hsn:∀ds:List (DataW H),ds.length=fn.params.size→s.fn H ds = { results:=[.lit (.bool true)],args:=ds }) {W:World} {args:Array Value} {ds gs:List (DataW H)} {before:List MemPlace} {b0:Nat} {r:Reach}
 (hval:∀(j:Nat) t v,fn.params[j]?=some t→args[j]?=some v→Value.okWide P W r b0 t v) (hW:DataW.Whole enc P fn.params.toList s.vars apart W args.toList ds gs before) {W':World} (ho:W'.os=W.os) (hp:W'.output=W.output) (hb:∀b,b<W.heap.size→W'.heap[b]?=W.heap[b]?) :
 s.post enc P fn apart fresh handsOn again W args (.bool true) W':=by
 have hW0:=hW;have hlt:=hW.lt;obtain⟨p,q,hA,hV,rfl,hz,hn⟩:=hW;have hlen:ds.length=fn.params.size:=by rw[qcR hA];simp
 have hV0:gs=[]∧q=[]:=by
  rw[hvars]at hV;cases gs with
  | nil=>exact⟨rfl,hV⟩
  | cons g l=>exact absurd hV (by intro h;cases h)
 obtain⟨rfl,rfl⟩:=hV0;have same:∀x∈p,W.sameAt W' x:=by
  intro x hx;have h1:=hlt x (KT _ hx)
  cases x with
  | cell b off=>simp only[World.sameAt,World.cell?];rw[hb b h1]
  | map b=>exact hb b h1
 have hargs:=(qaC hS _ _ _ _ hpar (fun j t v hj hv=>hval j t v (by simpa using hj) (by simpa using hv)) hA).2
 have hcarry:∀sp:Nat→Bool,(∀x∈p,sp x.block=true)→DataW.TrodAll enc P W' 0 sp true fn.params.toList args.toList ds p:=fun sp hsp=>Z5 _ _ _ _ (hargs sp hsp) same
 have hfn:=hsn ds hlen;have hresult:∀(bs:Nat) (sp:Nat→Bool) (hd:Bool),DataW.TrodAll enc P W' bs sp hd fn.resultTypes.toList ((Value.bool true).resultList fn.resultTypes.size) [.lit (.bool true)] []:=by
  intro bs sp hd;rw[hres];exact trodAll_mk1 (shut_bool htb true)
 have hold:∀x∈p,(fun b=>decide (b<W.heap.size)) x.block=true:=fun x hx=>by simpa using hlt x (KT _ hx)
 have hvs:∀sp,DataW.TrodVars enc P W' sp s.vars (s.fn H (ds++[])).vars []:=fun sp=>by rw[KV,hfn,hvars];rfl
 refine⟨ds,[],p++[],[],p,[],hW0,?_,?_,hvs _,qwF ho hp hb,fun _=>⟨?_,?_⟩⟩
 · rw[KV,hfn];exact hresult _ _ _
 · rw[KV,hfn];exact hcarry _ hold
 · intro j t r0 h1 h2
   rw[hres]at h1 h2;have:(Value.bool true).resultList #[tb].size=[.bool true]:=rfl
   rw[this]at h2;cases j with
   | zero=>
    simp at h1 h2;subst h1 h2
    unfold Value.okWide;rw[htb];simp[Cell.okWide,Cell.ok,htb]
   | succ j=>simp at h1
 · refine⟨_,[],([]++p)++[],⟨[]++p,[],trodAll_append (hcarry _ fun _ _=>rfl) (hresult _ _ _),?_,rfl,?_,?_⟩,?_⟩
   · have:=hvs (fun _=>true)
     rw[KV,hfn]at this;exact this
   · intro b off hm
     have hm':MemPlace.cell b off∈p:=by simpa using hm
     have h1:b<W.heap.size:=hlt _ (KT _ hm')
     have h2:=hz b off (by simpa using hm')
     unfold World.frozen? at h2 ⊢
     rw[hb b h1];exact h2
   · intro ha;simpa using hn ha
   · intro x hx _;simpa using hx
theorem qtk{fn:Func}{f:FuncId}{s:ChangeSpec}{apart fresh handsOn again:Bool}(hS:∀t∈S,Yc P S t=true)(hpar:∀t∈fn.params.toList,t∈S){tb:Nat}(hres:fn.resultTypes = #[tb])(htb:P.underlying tb=some .bool)(hvars:s.vars=[])
 (hsn:∀ds:List (DataW H),ds.length=fn.params.size→s.fn H ds = { results:=[.lit (.bool true)],args:=ds }) {W:World} {args:Array Value} {ds gs:List (DataW H)} {before:List MemPlace} {b0:Nat} {r:Reach}
 (hval:∀(j:Nat) t v,fn.params[j]?=some t→args[j]?=some v→Value.okWide P W r b0 t v) (hW:DataW.Whole enc P fn.params.toList s.vars apart W args.toList ds gs before)
 (h:∀xs,RepA (hv W) xs args.toList→All2 (qnC P) fn.params.toList xs→ju P f args (hv W) [] fun v _ _=>v = .bool true) :
 Calls P f args W fun e W'=>∃v,e = .returned v∧s.post enc P fn apart fresh handsOn again W args v W':=by
 obtain⟨p,q,hA,hV,hpq,hz,hn⟩:=id hW;obtain⟨⟨xs,h1,h2⟩,_⟩:=qaC hS _ _ _ _ hpar (fun j t v hj hv=>hval j t v (by simpa using hj) (by simpa using hv)) hA
 refine(h xs h1 h2 W (fun _ _ h=>h) (fun _ h=>by cases h) (fun _ h=>by cases h) Wx).mono ?_
 rintro e W' ⟨v,V',G',rfl,hh,rfl⟩
 exact⟨_,rfl,qnD hS hpar hres htb hvars hsn hval hW hh.ext.os hh.ext.output fun b hb=>hh.ext.block b hb (by simp[keys])⟩
end
end Su
end
section
namespace Su
open Go Fly
section
variable {P:Program}
def Sh1(P:Program)(t:Nat)(xs:List T):Prop:=∃fuel,Shp P fuel t xs
def R1{α:Type}(P:Program)(c:Cod α)(t:Nat):Prop:=∀xs,Sh1 P t xs→∃x a,xs=[x]∧c.dec x=some a
theorem qAY{t:Nat}(hu:P.underlying t=some .string):R1 P cS t:=by
 rintro xs ⟨fuel,h⟩
 cases fuel with
 | zero=>exact absurd h (by simp[Shp])
 | succ fuel=>
  simp only[Shp,hu]at h;obtain⟨n,rfl,_⟩:=h;exact⟨_,n,rfl,rfl⟩
theorem qAZ{α:Type}{c:Cod α}{t:Nat}{x:T}(hg:yN P t=false)(h:R1 P c t)(hx:qnC P t x):∃a,c.dec x=some a:=by
 obtain⟨h0,fuel,h1⟩:=hx;rw[hg]at h0;obtain⟨y,a,e,e2⟩:=h x.cells ⟨fuel,h1⟩
 have e3:x=y:=by cases x <;> first | (cases h0;done) | (exact(List.cons.inj e).1)
 subst e3;exact⟨a,e2⟩
end
end Su
end
section
set_option maxRecDepth 10000
namespace Su
open Go Fly Go.Proofs
theorem qwG{α:Type}{f:Nat}{d:Dec α}{g:α→Option Bool}(hp:OkT f (prim d (d1 cB) g))(hg:∀a,g a=some true){V:qb}(gk:GOK tb V){args:Array Value}{xs:List T}(hr:RepA V xs args.toList){a:α}(ha:d.dec xs=some a) :
 ju Tryz.prog f args V [] fun v _ _=>v = .bool true:=by
 have h:(∀xs y,(d.dec xs).bind g=some y→∀V vs,GOK tb V→RepA V xs vs→ju Tryz.prog f vs.toArray V [] fun v V' _=>∃rvs,RepA V' ((d1 cB).enc y) rvs∧v=Qq rvs)∧_:=hp.2
 have hF:=h.1 xs true (by rw[ha];exact hg a) V args.toList gk hr
 rw[Vj]at hF;intro w a1 a2 a3 a4;refine(hF w a1 a2 a3 a4).mono ?_
 rintro e w' ⟨v,V',G',rfl,hh,rvs,m1,rfl⟩
 refine⟨_,V',G',rfl,hh,?_⟩
 cases m1 with | cons k1 k2=>cases k2 with | nil=>cases k1 with | s _=>rfl
def qjh:List Int:=[1,10,100,1000,10000,100000,1000000,10000000,100000000,1000000000,10000000000,100000000000,1000000000000,10000000000000,100000000000000,1000000000000000,10000000000000000,100000000000000000,1000000000000000000,10000000000000000000]
theorem qji{V:qb}:∀l:List Int,(∀n∈l,inR .u64 n=true)→RepA V (l.map fun n=>T.s (.int .u64 n)) (l.map (Value.int .u64 ·))
 | [],_=>.nil
 | n::l,h=>.cons (.s (show Qd (.int .u64 n)=true from h n zE)) (qji l fun m hm=>h m (zq _ hm))
theorem qA0:∀n∈qjh,inR .u64 n=true:=by
 have:(qjh.all (inR .u64 ·))=true:=by decide +kernel
 exact zX.1 this
theorem gP10:Tryz.prog.globalNamed "internal/strconv.uint64pow10"=some 4:=by kernel_rfl
theorem tP10:(Tryz.prog.globals[4]?).map (·.type)=some 266:=by kernel_rfl
theorem uP10:Tryz.prog.underlying 266=some (.array 20 22):=by kernel_rfl
theorem uU64:Tryz.prog.underlying 22=some (.int .u64):=by kernel_rfl
theorem cU64:Tryz.prog.cellsOf 22=1:=by kernel_rfl
theorem cP10:Tryz.prog.cellsOf 266=20:=by kernel_rfl
theorem qnE{W:World}(h:W.ShapedOpen Tryz.prog):∃v e f,hv W 3=some (.cells #[v] e f)∧qjH 0 v=true:=by
 have h0:((begin Tryz.prog (fun _ _=>0) default).world.heap[3]?).bind Obj.row?=some (#[.int .i64 0],3):=by kernel_rfl
 obtain⟨cs,hh,hs,hr⟩:=h.1 3 #[.int .i64 0] 3 (zW (by kernel_rfl)) h0
 obtain⟨m,hm⟩:=cell_of_shapedOpen_int (zero:=#[.int .i64 0]) (t:=3) h (zW (by kernel_rfl)) h0 rfl (by kernel_rfl) (by kernel_rfl) Tryz.underlying3
 have h1:cs.size=1:=hs
 have hc:cs[0]?=some (.int .i64 m):=by
  have:W.cell? ⟨3,0,none⟩=cs[0]?:=by simp[World.cell?,hh]
  rw[← this];exact hm
 have e:cs = #[.int .i64 m]:=by
  apply Array.ext
  · simpa using h1
  · intro i g1 g2
    have:i=0:=by simp at g2;omega
    subst this;have:=(z6.1 hc).2
    simpa using this
 subst e;exact⟨_,_,_,hh,rfl⟩
theorem qwH{W:World}{enc:TypeId×Value→Unit}{sp:Nat→Bool}{hd:Bool}{cs:List Value}{fuel:Nat}{nm:String}{d:DataW Unit}{p:List MemPlace}
 (h:DataW.trod enc Tryz.prog W 0 sp hd fuel 193 cs=some (.iface nm d,p)):∃u v,cs=[.iface u v]:=by
 cases fuel with
 | zero=>simp[DataW.trod]at h
 | succ n=>
  unfold DataW.trod at h;rw[Tryz.underlying193]at h;split at h <;> simp_all
theorem qwI{W:World}{cs:Array Value}{te:TypeId}{v:Value}(hv0:W.var? Tryz.prog "strconv.ErrRange"=some cs) (h:cs.toList=[.iface te v]):∃v e f,hv W 6=some (.cells #[v] e f)∧qjH 1 v=true:=by
 have gE:Tryz.prog.globalNamed "strconv.ErrRange"=some 6:=by kernel_rfl
 simp only[World.var?,gE,zd]at hv0;split at hv0
 · rename_i c t fr hb
   cases hv0;have e:cs = #[.iface te v]:=by
    apply Array.ext'
    rw[h]
   subst e;exact⟨_,_,_,hb,rfl⟩
 · cases hv0
theorem qA1{W:World}{cs:Array Value}(hv0:W.var? Tryz.prog "internal/strconv.uint64pow10"=some cs) (h:cs.toList=qjh.map (Value.int .u64 ·)) (hm:∃v e f,hv W 3=some (.cells #[v] e f)∧qjH 0 v=true) (he:∃v e f,hv W 6=some (.cells #[v] e f)∧qjH 1 v=true):GOK tb (hv W):=by
 refine⟨?_,fun g c hc=>?_⟩
 rotate_left
 · have hc':(bif Nat.beq g 3 then some 0 else bif Nat.beq g 6 then some 1 else none)=some c:=hc
   cases hb:Nat.beq g 3 with
   | true=>
    rw[hb]at hc';have:=soi hc';subst this
    obtain rfl:=zh hb
    exact hm
   | false=>
    rw[hb,zj]at hc';obtain⟨h1,h2⟩:=qi hc';have:=soi h2;subst this
    obtain rfl:=zh h1
    exact he
 intro g x hx;have hx':(bif Nat.beq g 4 then some gT4 else none)=some x:=hx
 obtain⟨h1,h2⟩:=qi hx';have hg:=zh h1;subst hg;have:=soi h2;subst this
 simp only[World.var?,gP10,zd]at hv0;split at hv0
 · rename_i c t fr hb
   cases hv0;have hV:hv W 4=some (.cells cs t fr):=hb
   have eT:gT4.cells=qjh.map fun n=>T.s (.int .u64 n):=by kernel_rfl
   have hl:cs.size=20:=by
    have:=congrArg List.length h
    rw[zx]at this;simpa[qjh]using this
   refine⟨Rep.pt (x:=gT4) (off:=0) (o:=0) (vs:=cs.toList) ?_ ?_ ?_,cs,t,fr,hV,?_⟩
   · rw[eT,h];exact qji _ qA0
   · intro y hy
     rw[eT]at hy;obtain⟨n,_,rfl⟩:=KZ.1 hy;rfl
   · intro j c hj
     refine⟨cs,t,fr,hV,?_⟩
     rw[zF,← hj];simp
   · rw[eT,zx,hl];rfl
 · cases hv0
theorem qwJ{W:World}{enc:TypeId×Value→Unit}{sp:Nat→Bool}{hd:Bool}{cs:List Value}{fuel:Nat}{p:List MemPlace}
 (h:DataW.trod enc Tryz.prog W 0 sp hd fuel 266 cs=some (.agg (qjh.map fun n=>.lit (.int .u64 n)),p)):cs=qjh.map (Value.int .u64 ·):=by
 obtain⟨xs,m,rfl,hx,hcs,hn,hel⟩:=DataW.trod_array uP10 h;simp only[Km,DataW.agg.injEq]at hx;have hx1:=hx.1;rw[cP10]at hcs;refine List.ext_getElem? fun i=>?_
 by_cases hi:i<20
 · have h1:=hel i hi
   rw[cU64,K8,zl (by omega)]at h1;obtain⟨n,e1,e2,_⟩:=DataW.trod_int uU64 h1;have hc:cs[i]?=some (.int .u64 n):=by
    have h2:=congrArg (fun l=>l[0]?) e1
    simp only[z8,KX]at h2;simpa using h2
   have hs:=congrArg (fun l=>l[i]?) hx1
   simp only[KB]at hs;rw[zl (l:=xs) (by omega)]at hs;rw[hc,KB];cases hp:qjh[i]? with
   | none=>rw[hp]at hs;simp at hs
   | some k=>
    rw[hp]at hs;simp[e2]at hs;simp[hs]
 · rw[zA (by omega),zA (by rw[zx];show 20≤i;omega)]
end Su
namespace Go.Proofs.YtldhknmacepeiaaGreatDoor
open Go Go.ChangeShapes Go.WideShapes Go.ChangeAt Go.RowKit Fly Su
set_option maxRecDepth 100000
theorem ownK:ownKnob Tryz.prog.godebug=none:=by kernel_rfl
theorem qCj:Tryz.prog.underlying 4=some .bool:=by kernel_rfl
theorem qtl{W:World}(h:laidMetH Tryz.prog Rows.lexPlacesRow.laid W)(hsh:W.ShapedOpen Tryz.prog):GOK tb (hv W):=by
 rw[MakeChecks.laidMetH_plain _ _ _ (by kernel_rfl)]at h;obtain⟨ps,hL,_⟩:=h;obtain⟨g0,t0,cs0,f0,p0,q0,_,_,_,_,hL,_⟩:=hL;obtain⟨g1,t1,cs1,f1,p1,q1,_,_,_,_,hL,_⟩:=hL;obtain⟨g2,t2,cs2,f2,p2,q2,hg,ht,hv0,hd,hL,_⟩:=hL;obtain⟨g3,t3,cs3,f3,p3,q3,_,_,_,_,hL,_⟩:=hL;obtain⟨g4,t4,cs4,f4,p4,q4,hg4,ht4,hv4,hd4,hL,_⟩:=hL;obtain rfl:=Ke (gP10.symm.trans hg)
 obtain rfl:=Ke (tP10.symm.trans ht)
 have gE:Tryz.prog.globalNamed "strconv.ErrRange"=some 6:=by kernel_rfl
 have tE:(Tryz.prog.globals[6]?).map (·.type)=some 193:=by kernel_rfl
 obtain rfl:=Ke (gE.symm.trans hg4)
 obtain rfl:=Ke (tE.symm.trans ht4)
 obtain⟨u,v,he⟩:=qwH hd4;exact qA1 hv0 (qwJ hd) (qnE hsh) (qwI hv4 he)
noncomputable def qA2:DataW Unit→Array Value
 | .agg l=>(l.map fun | .lit (.int k n)=>Value.int k n | _=>undef).toArray
 | _=>#[]
noncomputable def qxM(os:Os):World :=
 let w:=World.doorLaid Tryz.prog 77 os
 { w with heap:=w.heap.modify ((Tryz.prog.globalNamed "unicode/utf8.first").getD 0) fun
    | .cells _ t frozen=>.cells (qA2 Rows.laid_unicode_utf8_first) t frozen
    | o=>o }
theorem qtm(os:Os)(args:Array Value):laidMetH Tryz.prog Rows.lexPlacesRow.laid ((qxM os).forCall (fun _ _=>0) ⟨#[],args,[]⟩).memory :=
 laidMetH_of_parts3 (fuel:=8) (laidMet_of_run' 8 (by kernel_rfl) (by kernel_rfl)) (by kernel_rfl) (by kernel_rfl)
end Go.Proofs.YtldhknmacepeiaaGreatDoor
end
