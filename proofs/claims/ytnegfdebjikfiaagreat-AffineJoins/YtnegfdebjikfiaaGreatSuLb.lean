/-
  An evaluator of the program's functions over trees of values, proved sound. No condition.
-/
import Derived.Test.YtnegfdebjikfiaaGreatES03
import Derived.Test.YtnegfdebjikfiaaGreatSuE
import Derived.RowKit
import Derived.Test.YtnegfdebjikfiaaGreatFlyM
import Derived.Test.YtnegfdebjikfiaaGreatSuSd
import Derived.Test.YtnegfdebjikfiaaGreatSuTb
set_option linter.unusedVariables false
set_option linter.unusedSimpArgs false
section
namespace Su
open Go Fly
theorem qmH{β γ:Type}{f:Nat→Option (List β)}{g:List β→Option γ}{n:Nat}{r:List γ}(h:(List.range n).mapM (fun i=>(f i).bind g)=some r) :
 ∃css:List (List β),css.length=n∧∀(i:Nat) (cs:List β),css[i]?=some cs→f i=some cs∧∃y,y∈r∧g cs=some y:=by
 have hl:r.length=n:=by simpa using mapM_some_length h
 refine⟨(List.range n).map fun i=>(f i).getD [],by simp,fun i cs hi=>?_⟩
 have hin:i<n:=by
  have:=(zu.1 hi).1
  simpa using this
 have h1:=mapM_some_get h i i (by simp[hin])
 rw[zG (by omega)]at h1;obtain⟨c,hc,hg⟩:=VB.1 h1;have:cs=c:=by
  rw[KM,List.getElem?_range hin]at hi;simp[hc]at hi;exact hi.symm
 subst this;exact⟨hc,_,List.getElem_mem _,hg⟩
theorem qoO{α β:Type}{R:α→β→Prop}:∀ {l:List α},(∀x∈l,∃y,R x y)→∃m,All2 R l m
 | [],_=>⟨[],.nil⟩
 | x::l,h=>by
  obtain⟨y,hy⟩:=h x (zq ..)
  obtain⟨m,hm⟩:=qoO (l:=l) fun z hz=>h z (zo _ hz)
  exact⟨y::m,.cons hy hm⟩
theorem All2.length{α β:Type}{R:α→β→Prop}{l:List α}{m:List β}(h:All2 R l m):l.length=m.length:=by
 induction h with
 | nil=>rfl
 | cons _ _ ih=>simp[ih]
theorem All2.right{α β:Type}{R:α→β→Prop}{l:List α}{m:List β}(h:All2 R l m):∀y∈m,∃x,R x y:=by
 induction h with
 | nil=>intro y hy;simp at hy
 | cons hr _ ih=>
  intro y hy;rcases zA.1 hy with rfl | hy
  · exact⟨_,hr⟩
  · exact ih y hy
section
variable {H:Type} {enc:TypeId×Value→H} {P:Program} {w:World} {S:List Nat}
def qzx(enc:TypeId×Value→H)(P:Program)(w:World)(fuel t:Nat)(cs:List Value)(x:DataW H×List MemPlace):Prop :=
 (∃xs,RepA (hv w) xs cs∧(∀y∈xs,y.isAgg=false)∧xs.length=P.cellsOf t∧Shp P fuel t xs)∧∀sp:Nat→Bool,(∀p∈x.2,sp p.block=true)→DataW.trod enc P w 0 sp true fuel t cs=some x
theorem qoP{fuel t:Nat}{xs:List T}(h:Shp P fuel t xs)(hg:jD P t=false)(hok:Yw P S t=true):∃x,xs=[x]∧x.isAgg=false∧x.cells=[x]:=by
 cases fuel with
 | zero=>exact absurd h (by simp[Shp])
 | succ fuel=>
  unfold Shp at h;unfold jD at hg;split at h
  · obtain⟨b,rfl⟩:=h;exact⟨_,rfl,rfl,rfl⟩
  · obtain⟨b,rfl,_⟩:=h;exact⟨_,rfl,rfl,rfl⟩
  · obtain⟨b,rfl,_⟩:=h;exact⟨_,rfl,rfl,rfl⟩
  · obtain⟨b,rfl,_⟩:=h;exact⟨_,rfl,rfl,rfl⟩
  · obtain⟨b,rfl,_⟩:=h;exact⟨_,rfl,rfl,rfl⟩
  · rename_i hu;rw[hu]at hg;simp at hg
  · exact absurd h (by simp)
theorem qp0{fuel e:Nat}{cs:List Value}{x:DataW H×List MemPlace}(hok:Yw P S e=true)(h:qzx enc P w fuel e cs x) :
 ∃z:T,RepA (hv w) z.cells cs∧(∀y∈z.cells,y.isAgg=false)∧z.cells.length=P.cellsOf e∧z.isAgg=jD P e∧Shp P fuel e z.cells:=by
 obtain⟨⟨xs,h1,h2,h3,h4⟩,_⟩:=h;cases hg:jD P e with
 | true=>exact⟨.agg xs,h1,h2,h3,rfl,h4⟩
 | false=>
  obtain⟨z,rfl,hz,hzc⟩:=qoP h4 hg hok;exact⟨z,by rw[hzc];exact h1,by rw[hzc];exact h2,by rw[hzc];exact h3,hz,by rw[hzc];exact h4⟩
theorem qhD{fuel e:Nat}:∀ {css:List (List Value)} {l:List T},All2 (fun cs z=>RepA (hv w) z.cells cs∧(∀y∈z.cells,y.isAgg=false)∧z.cells.length=P.cellsOf e∧z.isAgg=jD P e∧Shp P fuel e z.cells) css l →
 RepA (hv w) (l.flatMap T.cells) css.flatten∧(∀y∈l.flatMap T.cells,y.isAgg=false)
 | _,_,.nil=>⟨.nil,by simp⟩
 | _,_,.cons h h'=>by
  obtain⟨h1,h2⟩:=qhD h';rw[Kt,List.flatten_cons];refine⟨h.1.append h1,fun y hy=>?_⟩
  rcases zF.1 hy with hy | hy
  · exact h.2.1 y hy
  · exact h2 y hy
theorem qfK{fuel:Nat}{cs:List Value}(ih:∀t∈S,∀(cs:List Value) (x:DataW H×List MemPlace),DataW.trod enc P w 0 (fun _=>true) true fuel t cs=some x→qzx enc P w fuel t cs x):∀(fs:List Field) (o:Nat) (ys:List (DataW H×List MemPlace)),
 qhC P S cs.length o fs=true→fs.mapM (fun f=>DataW.trod enc P w 0 (fun _=>true) true fuel f.type ((cs.drop f.offset).take (P.cellsOf f.type)))=some ys →
 ∃parts:List (List T),RepA (hv w) parts.flatten (cs.drop o)∧(∀y∈parts.flatten,y.isAgg=false)∧All2 (fun(f:Field) p=>Shp P fuel f.type p) fs parts
 | [],o,ys,ht,_=>by
  have:=zk ht;subst this
  rw[KY (zE _)];exact⟨[],.nil,by simp,.nil⟩
 | f::fs,o,ys,ht,h=>by
  simp only[qhC,zl]at ht;obtain⟨h1,h2,h3⟩:=ht;have:=zk h1;subst this
  rw[List.mapM_cons]at h;obtain⟨y,hy,h⟩:=qa (a:=DataW.trod enc P w 0 (fun _=>true) true fuel f.type ((cs.drop f.offset).take (P.cellsOf f.type))) h
  obtain⟨ys',hys,_⟩:=qa (a:=fs.mapM (fun f=>DataW.trod enc P w 0 (fun _=>true) true fuel f.type ((cs.drop f.offset).take (P.cellsOf f.type)))) h
  obtain⟨⟨xs,a1,a2,a3,a4⟩,_⟩:=ih f.type (by simpa using h2) _ _ hy
  obtain⟨parts,b1,b2,b3⟩:=qfK ih fs _ _ h3 hys;refine⟨xs::parts,?_,fun z hz=>?_,.cons a4 b3⟩
  · rw[List.flatten_cons,← Kv (P.cellsOf f.type) (cs.drop f.offset),Wm]
    exact a1.append b1
  · rw[List.flatten_cons]at hz
    rcases zF.1 hz with hz | hz
    · exact a2 z hz
    · exact b2 z hz
theorem qp1(hS:∀t∈S,Yw P S t=true):∀(fuel t:Nat),t∈S→∀(cs:List Value) (x:DataW H×List MemPlace),DataW.trod enc P w 0 (fun _=>true) true fuel t cs=some x→qzx enc P w fuel t cs x:=by
 intro fuel;induction fuel with
 | zero=>intro t _ cs x h;simp[DataW.trod]at h
 | succ fuel ih=>
  intro t htS cs x h;have hok:=hS t htS;have one:∀(v:Value),qls v=true→cs=[v]→Nat.beq (P.cellsOf t) 1=true→Shp P (fuel+1) t [.s v]→(∀sp:Nat→Bool,(∀p∈x.2,sp p.block=true)→DataW.trod enc P w 0 sp true (fuel+1) t cs=some x)→qzx enc P w (fuel+1) t cs x:=by
   rintro v hv' rfl h1 h2 h3
   exact⟨⟨[.s v],.cons (.s hv') .nil,by simp[T.isAgg],by rw[zk h1];rfl,h2⟩,h3⟩
  have hh:=h;rw[DataW.trod_step]at h;unfold DataW.trodStep at h;split at h
  case h_1 b hu=>
   refine one _ rfl rfl (by simpa[Yw,hu]using hok) (by simp only[Shp,hu];exact⟨b,rfl⟩) fun sp _=>?_
   rw[DataW.trod_step]at hh ⊢;unfold DataW.trodStep at hh ⊢;simp only[hu]at hh ⊢;exact hh
  case h_2 k k' n hu=>
   split at h
   · rename_i hc
     obtain⟨rfl,hw⟩:=hc;refine one (.int k' n) (show qls (.int k' n)=true from hw) rfl (by simpa[Yw,hu]using hok) (by simp only[Shp,hu];exact⟨n,rfl,hw⟩) fun sp _=>?_
     rw[DataW.trod_step]at hh ⊢;unfold DataW.trodStep at hh ⊢;simp only[hu]at hh ⊢;exact hh
   · simp at h
  case h_3 k k' b hu=>
   split at h
   · rename_i hc
     obtain⟨rfl,hw⟩:=hc;refine one _ rfl rfl (by simpa[Yw,hu]using hok) (by simp only[Shp,hu];exact⟨b,rfl,hw⟩) fun sp _=>?_
     rw[DataW.trod_step]at hh ⊢;unfold DataW.trodStep at hh ⊢;simp only[hu]at hh ⊢;exact hh
   · simp at h
  case h_4 st hu=>
   split at h
   · rename_i hc
     refine one _ (by show Nat.ble _ _=true;rw[KX];exact hc) rfl (by simpa[Yw,hu]using hok) (by simp only[Shp,hu];exact⟨st,rfl,hc⟩) fun sp _=>?_
     rw[DataW.trod_step]at hh ⊢;unfold DataW.trodStep at hh ⊢;simp only[hu]at hh ⊢;exact hh
   · simp at h
  case h_7 e hu=>
   simp only[Yw,hu,zl]at hok;refine⟨⟨[.sl (P.cellsOf e) []],.cons (.sl (l:=[]) (vs:=[]) .nil (by simp) (by simp) (by simp) (by simp[maxLen]) (.inl rfl)) .nil,by simp[T.isAgg],by rw[zk hok.1];rfl,?_⟩,fun sp _=>?_⟩
   · simp only[Shp,hu];exact⟨[],rfl,by simp,by simp⟩
   · rw[DataW.trod_step]at hh ⊢;unfold DataW.trodStep at hh ⊢;simp only[hu]at hh ⊢;exact hh
  case h_8 e a len cap hu=>
   simp only[Yw,hu,zl,List.contains_iff_mem]at hok;obtain⟨ho1,ho2,ho3⟩:=hok;have hk:0<P.cellsOf e:=by rw[VR]at ho3;exact ho3
   simp only[]at h;split at h
   · rename_i hc
     obtain⟨hc0,hc1,hc2⟩:=hc;simp only[VI,VB]at h;obtain⟨elems,he,rest,hrest,rfl⟩:=h;have hlen:elems.length=len:=by simpa using mapM_some_length he
     obtain⟨css,hcl,hcs⟩:=qmH he;have hz:∀cs∈css,∃z:T,RepA (hv w) z.cells cs∧(∀y∈z.cells,y.isAgg=false)∧z.cells.length=P.cellsOf e∧z.isAgg=jD P e∧Shp P fuel e z.cells:=by
      intro cs hm;obtain⟨i,hi⟩:=Vt.1 hm
      obtain⟨_,y,_,hy⟩:=hcs i cs hi;exact qp0 (hS e ho2) (ih e ho2 _ _ hy)
     obtain⟨l,hl⟩:=qoO hz;obtain⟨r1,r2⟩:=qhD hl;have hll:l.length=len:=by rw[← hl.length,hcl]
     have hrd:=qoN (w:=w) (a:=a) hk css 0 fun i cs hi=>by rw[Kk];exact(hcs i cs hi).1
     refine⟨⟨[.sl (P.cellsOf e) l],.cons ?_ .nil,by simp[T.isAgg],by rw[zk ho1];rfl,?_⟩,fun sp hsp=>?_⟩
     · rw[← hll]
       refine .sl r1 r2 (fun x hx=>?_) (by rw[hll];exact hc1) hc2 ?_
       · obtain⟨cs,hx1⟩:=hl.right x hx
         exact hx1.2.2.1
       · cases hl0:css with
         | nil=>rw[hl0]at hcl;left;rw[← Kj];rw[hll,← hcl];rfl
         | cons c0 css'=>
          right;have h0:=(hcs 0 c0 (by rw[hl0];rfl)).1
          obtain⟨_,hcl0,hcc⟩:=World.cells?_some h0
          have h00:=hcc 0 hk
          have hc00:c0[0]?=some (c0[0]'(by omega)):=by rw[zG]
          rw[hc00]at h00;have hsp:a.spot=none:=by
           have e0:(a.add (0*P.cellsOf e)).add 0=a:=by unfold Addr.add;simp
           rw[e0]at h00;exact(qfJ h00).1
          refine⟨a.block,a.off,by cases a;simp at hsp;subst hsp;rfl,fun j c hj=>?_⟩
          rw[← hl0]at hj;have:=(hrd j c hj).1
          simpa using this
     · simp only[Shp,hu]
       refine⟨l,rfl,by omega,fun x hx=>?_⟩
       obtain⟨cs,hx1⟩:=hl.right x hx;exact⟨hx1.2.2.2.1,hx1.2.2.2.2⟩
     · rw[DataW.trod_step]
       unfold DataW.trodStep;simp only[hu];rw[zR ⟨hc0,hc1,hc2⟩];simp only[VI,VB];have elem:∀(i:Nat) (y:DataW H×List MemPlace),y∈elems++rest→(w.cells? 0 (a.add (i*P.cellsOf e)) (P.cellsOf e)).bind (DataW.trod enc P w 0 (fun _=>true) true fuel e)=some y →
        (w.cells? 0 (a.add (i*P.cellsOf e)) (P.cellsOf e)).bind (DataW.trod enc P w 0 sp true fuel e)=some y:=by
        intro i y hy h1;obtain⟨cs,h2,h3⟩:=VB.1 h1;refine VB.2 ⟨cs,h2,(ih e ho2 _ _ h3).2 sp fun p hp=>hsp p ?_⟩
        exact Wa _ (KF.2 ⟨y,hy,hp⟩)
       refine⟨elems,mapM_carry he fun i y _ hy h1=>elem i y (KZ _ hy) h1,rest,?_,rfl⟩
       simp only[if_true]at hrest;by_cases h0:cap-len=0
       · rw[h0]at hrest ⊢
         simp at hrest;subst hrest;split <;> rfl
       · have hrl:rest.length=cap-len:=by simpa using mapM_some_length hrest
         have:sp a.block=true:=hsp (.cell a.block (a.off+0)) (KZ _ (MemPlace.mem_row.2 ⟨0,Nat.mul_pos (by omega) hk,rfl⟩))
         rw[zR this];exact mapM_carry hrest fun i y _ hy h1=>elem _ y (Wa _ hy) h1
   · simp at h
  case h_9 fs hu=>
   simp only[Yw,hu]at hok;split at h
   · rename_i hc
     simp only[VI]at h;obtain⟨ys,hy,rfl⟩:=h;rw[← hc]at hok;obtain⟨parts,b1,b2,b3⟩:=qfK ih fs.toList 0 ys hok hy
     rw[VT]at b1;refine⟨⟨parts.flatten,b1,b2,by rw[b1.length,hc],?_⟩,fun sp hsp=>?_⟩
     · simp only[Shp,hu];exact⟨parts,rfl,b3⟩
     · rw[DataW.trod_step]
       unfold DataW.trodStep;simp only[hu];rw[zR hc];simp only[VI];have inS:∀(N:Nat) (l:List Field) (o:Nat),qhC P S N o l=true→∀f∈l,f.type∈S:=by
        intro N l;induction l with
        | nil=>intro o _ f hf;simp at hf
        | cons g l ihl=>
         intro o ht f hf;simp only[qhC,zl]at ht;rcases zA.1 hf with rfl | hf
         · simpa using ht.2.1
         · exact ihl _ ht.2.2 f hf
       refine⟨ys,mapM_carry hy fun f y hf hym h1=>(ih f.type (inS _ _ _ hok f hf) _ _ h1).2 sp fun p hp=>hsp p (KF.2 ⟨y,hym,hp⟩),rfl⟩
   · simp at h
  all_goals first
   | (rename_i hu;simp[Yw,hu]at hok;done)
   | (rename_i hu _;simp[Yw,hu]at hok;done)
   | (simp at h;done)
end
end Su
end
section
namespace Su
open Go Fly Go.RowKit Go.ChangeShapes
section
variable {H:Type} {enc:TypeId×Value→H} {P:Program} {w:World} {S:List Nat}
def qld(P:Program)(t:Nat)(x:T):Prop:=x.isAgg=jD P t∧∃fuel,Shp P fuel t x.cells
theorem qzy{r:Reach}{b0:Nat}{t:Nat}{cs:Array Value}(hok:Yw P S t=true)(hg:jD P t=false)(h:Value.okWide P w r b0 t (.agg cs)):False:=by
 unfold Yw at hok;unfold Value.okWide Cell.okWide Cell.ok at h;unfold jD at hg;split at hok
 all_goals rename_i hu
 all_goals first
  | (simp[hu]at hok;done)
  | (simp[hu]at hg;done)
  | (simp[hu]at h;done)
theorem qv8(hS:∀t∈S,Yw P S t=true){r:Reach}{b0 t:Nat}{v:Value}{d:DataW H}{p:List MemPlace}(ht:t∈S)(hval:Value.okWide P w r b0 t v)(h:DataW.Trod enc P w 0 (fun _=>true) true t v d p) :
 (∃x,Rep (hv w) x v∧qld P t x)∧∀sp:Nat→Bool,(∀q∈p,sp q.block=true)→DataW.Trod enc P w 0 sp true t v d p:=by
 obtain⟨fuel,hf⟩:=h;have hgood:=qp1 hS fuel t ht _ _ hf;refine⟨?_,fun sp hsp=>⟨fuel,hgood.2 sp hsp⟩⟩
 obtain⟨⟨xs,h1,h2,h3,h4⟩,_⟩:=hgood;cases hg:jD P t with
 | true=>
  have:∃cs,v = .agg cs:=by
   unfold jD at hg;split at hg
   · rename_i fs hu
     unfold Value.okWide at hval;rw[hu]at hval;obtain⟨cs,rfl,_⟩:=hval;exact⟨cs,rfl⟩
   · simp at hg
  obtain⟨cs,rfl⟩:=this;simp only[Value.cells]at h1;exact⟨.agg xs,.agg h1 h2,by rw[hg];rfl,fuel,h4⟩
 | false=>
  obtain⟨z,rfl,hz,hzc⟩:=qoP h4 hg (hS t ht)
  have hvc:v.cells = #[v]:=by
   cases v with
   | agg cs=>exact absurd hval fun h=>qzy (hS t ht) hg h
   | _=>rfl
  rw[hvc]at h1;cases h1 with
  | cons h1 _=>exact⟨z,h1,by rw[hz,hg],fuel,by rw[hzc];exact h4⟩
theorem qaY(hS:∀t∈S,Yw P S t=true){r:Reach}{b0:Nat}:∀(ts:List Nat) (vs:List Value) (ds:List (DataW H)) (p:List MemPlace),(∀t∈ts,t∈S)→(∀(j:Nat) t v,ts[j]?=some t→vs[j]?=some v→Value.okWide P w r b0 t v) →
 DataW.TrodAll enc P w 0 (fun _=>true) true ts vs ds p →
 (∃xs,RepA (hv w) xs vs∧All2 (qld P) ts xs)∧∀sp:Nat→Bool,(∀q∈p,sp q.block=true)→DataW.TrodAll enc P w 0 sp true ts vs ds p
 | [],vs,ds,p,_,_,h=>by
  obtain⟨rfl,rfl,rfl⟩:=trodAll_nil h;exact⟨⟨[],.nil,.nil⟩,fun _ _=>rfl⟩
 | t::ts,vs,ds,p,hts,hval,h=>by
  obtain⟨v,vs1,d,ds1,a,b,rfl,rfl,rfl,h1,h2⟩:=trodAll_cons h;obtain⟨⟨x,a1,a2⟩,a3⟩:=qv8 hS (hts t (zq ..)) (hval 0 t v rfl rfl) h1
  obtain⟨⟨xs,b1,b2⟩,b3⟩:=qaY hS ts vs1 ds1 b (fun u hu=>hts u (zo _ hu)) (fun j t v hj hv=>hval (j+1) t v (by simpa using hj) (by simpa using hv)) h2
  exact⟨⟨x::xs,.cons a1 b1,.cons a2 b2⟩,fun sp hsp=>⟨a,b,a3 sp fun q hq=>hsp q (KZ _ hq),b3 sp fun q hq=>hsp q (Wa _ hq),rfl⟩⟩
theorem qaz{w':World}{base:Nat}{sp:Nat→Bool}:∀(ts:List Nat) (vs:List Value) (ds:List (DataW H)) (p:List MemPlace),DataW.TrodAll enc P w base sp true ts vs ds p→(∀q∈p,w.sameAt w' q)→DataW.TrodAll enc P w' base sp true ts vs ds p
 | [],vs,ds,p,h,_=>by
  obtain⟨rfl,rfl,rfl⟩:=trodAll_nil h;exact rfl
 | t::ts,vs,ds,p,h,hs=>by
  obtain⟨v,vs1,d,ds1,a,b,rfl,rfl,rfl,h1,h2⟩:=trodAll_cons h;obtain⟨fuel,hf⟩:=h1;exact⟨a,b,⟨fuel,DataW.trod_carry _ _ _ _ hf fun q hq=>hs q (KZ _ hq)⟩,qaz ts vs1 ds1 b h2 fun q hq=>hs q (Wa _ hq),rfl⟩
end
end Su
end
section
namespace Su
open Go Fly Go.RowKit Go.ChangeShapes
section
variable {H:Type} {enc:TypeId×Value→H} {P:Program} {S:List Nat}
theorem qdA{w:World}{base:Nat}{sp:Nat→Bool}{held:Bool}:∀ {ts:List Nat} {vs:List Value} {ds:List (DataW H)} {p:List MemPlace},DataW.TrodAll enc P w base sp held ts vs ds p→ds.length=ts.length
 | [],_,_,_,h=>by obtain⟨rfl,rfl,rfl⟩:=trodAll_nil h;rfl
 | _::_,_,_,_,h=>by
  obtain⟨v,vs1,d,ds1,a,b,rfl,rfl,rfl,h1,h2⟩:=trodAll_cons h;simp[qdA h2]
theorem qzz{W W':World}{may:MemPlace→Prop}(ho:W'.os=W.os)(hp:W'.output=W.output)(hb:∀b,b<W.heap.size→W'.heap[b]?=W.heap[b]?):W.keptBut W' may:=by
 refine⟨ho,hp,fun i hi=>?_⟩
 rw[hb i hi];cases W.heap[i]? with
 | none=>rfl
 | some o=>cases o <;> first | exact⟨rfl,rfl,rfl,fun _ _=>rfl⟩ | exact .inr ⟨rfl,rfl⟩ | rfl
theorem qp2{fn:Func}{s:ChangeSpec}{apart fresh handsOn again:Bool}(hS:∀t∈S,Yw P S t=true)(hpar:∀t∈fn.params.toList,t∈S){tb:Nat}(hres:fn.resultTypes = #[tb])(htb:P.underlying tb=some .bool)(hvars:s.vars=[])
 (hsn:∀ds:List (DataW H),ds.length=fn.params.size→s.fn H ds = { results:=[.lit (.bool true)],args:=ds }) {W:World} {args:Array Value} {ds gs:List (DataW H)} {before:List MemPlace} {b0:Nat} {r:Reach}
 (hval:∀(j:Nat) t v,fn.params[j]?=some t→args[j]?=some v→Value.okWide P W r b0 t v) (hW:DataW.Whole enc P fn.params.toList s.vars apart W args.toList ds gs before) {W':World} (ho:W'.os=W.os) (hp:W'.output=W.output) (hb:∀b,b<W.heap.size→W'.heap[b]?=W.heap[b]?) :
 s.post enc P fn apart fresh handsOn again W args (.bool true) W':=by
 have hW0:=hW;have hlt:=hW.lt;obtain⟨p,q,hA,hV,rfl,hz,hn⟩:=hW;have hlen:ds.length=fn.params.size:=by rw[qdA hA];simp
 have hV0:gs=[]∧q=[]:=by
  rw[hvars]at hV;cases gs with
  | nil=>exact⟨rfl,hV⟩
  | cons g l=>exact absurd hV (by intro h;cases h)
 obtain⟨rfl,rfl⟩:=hV0;have same:∀x∈p,W.sameAt W' x:=by
  intro x hx;have h1:=hlt x (KZ _ hx)
  cases x with
  | cell b off=>simp only[World.sameAt,World.cell?];rw[hb b h1]
  | map b=>exact hb b h1
 have hargs:=(qaY hS _ _ _ _ hpar (fun j t v hj hv=>hval j t v (by simpa using hj) (by simpa using hv)) hA).2
 have hcarry:∀sp:Nat→Bool,(∀x∈p,sp x.block=true)→DataW.TrodAll enc P W' 0 sp true fn.params.toList args.toList ds p:=fun sp hsp=>qaz _ _ _ _ (hargs sp hsp) same
 have hfn:=hsn ds hlen;have hresult:∀(bs:Nat) (sp:Nat→Bool) (hd:Bool),DataW.TrodAll enc P W' bs sp hd fn.resultTypes.toList ((Value.bool true).resultList fn.resultTypes.size) [.lit (.bool true)] []:=by
  intro bs sp hd;rw[hres];exact trodAll_mk1 (shut_bool htb true)
 have hold:∀x∈p,(fun b=>decide (b<W.heap.size)) x.block=true:=fun x hx=>by simpa using hlt x (KZ _ hx)
 have hvs:∀sp,DataW.TrodVars enc P W' sp s.vars (s.fn H (ds++[])).vars []:=fun sp=>by rw[zD,hfn,hvars];rfl
 refine⟨ds,[],p++[],[],p,[],hW0,?_,?_,hvs _,qzz ho hp hb,fun _=>⟨?_,?_⟩⟩
 · rw[zD,hfn];exact hresult _ _ _
 · rw[zD,hfn];exact hcarry _ hold
 · intro j t r0 h1 h2
   rw[hres]at h1 h2;have:(Value.bool true).resultList #[tb].size=[.bool true]:=rfl
   rw[this]at h2;cases j with
   | zero=>
    simp at h1 h2;subst h1 h2
    unfold Value.okWide;rw[htb];simp[Cell.okWide,Cell.ok,htb]
   | succ j=>simp at h1
 · refine⟨_,[],([]++p)++[],⟨[]++p,[],trodAll_append (hcarry _ fun _ _=>rfl) (hresult _ _ _),?_,rfl,?_,?_⟩,?_⟩
   · have:=hvs (fun _=>true)
     rw[zD,hfn]at this;exact this
   · intro b off hm
     have hm':MemPlace.cell b off∈p:=by simpa using hm
     have h1:b<W.heap.size:=hlt _ (KZ _ hm')
     have h2:=hz b off (by simpa using hm')
     unfold World.frozen? at h2 ⊢
     rw[hb b h1];exact h2
   · intro ha;simpa using hn ha
   · intro x hx _;simpa using hx
theorem qv9{fn:Func}{f:FuncId}{s:ChangeSpec}{apart fresh handsOn again:Bool}(hS:∀t∈S,Yw P S t=true)(hpar:∀t∈fn.params.toList,t∈S){tb:Nat}(hres:fn.resultTypes = #[tb])(htb:P.underlying tb=some .bool)(hvars:s.vars=[])
 (hsn:∀ds:List (DataW H),ds.length=fn.params.size→s.fn H ds = { results:=[.lit (.bool true)],args:=ds }) {W:World} {args:Array Value} {ds gs:List (DataW H)} {before:List MemPlace} {b0:Nat} {r:Reach}
 (hval:∀(j:Nat) t v,fn.params[j]?=some t→args[j]?=some v→Value.okWide P W r b0 t v) (hW:DataW.Whole enc P fn.params.toList s.vars apart W args.toList ds gs before)
 (h:∀xs,RepA (hv W) xs args.toList→All2 (qld P) fn.params.toList xs→yJ P f args (hv W) [] fun v _ _=>v = .bool true) :
 Calls P f args W fun e W'=>∃v,e = .returned v∧s.post enc P fn apart fresh handsOn again W args v W':=by
 obtain⟨p,q,hA,hV,hpq,hz,hn⟩:=id hW;obtain⟨⟨xs,h1,h2⟩,_⟩:=qaY hS _ _ _ _ hpar (fun j t v hj hv=>hval j t v (by simpa using hj) (by simpa using hv)) hA
 refine(h xs h1 h2 W (fun _ _ h=>h) (fun _ h=>by cases h) (fun _ h=>by cases h) V8).mono ?_
 rintro e W' ⟨v,V',G',rfl,hh,rfl⟩
 exact⟨_,rfl,qp2 hS hpar hres htb hvars hsn hval hW hh.ext.os hh.ext.output fun b hb=>hh.ext.block b hb (by simp[keys])⟩
end
end Su
end
section
namespace Su
open Go Fly
noncomputable section
def dm{α β:Type}(d:Dec α)(to:α→β)(fr:β→α)(h1:∀a,fr (to a)=a)(h2:∀b,to (fr b)=b):Dec β where
 enc b:=d.enc (fr b)
 dec l:=(d.dec l).bind fun a=>some (to a)
 good b:=d.good (fr b)
 rep {xs b} h V vs hr:=by
  obtain⟨a,e1,e2⟩:=osm h;have:=soi e2;subst this
  rw[h1];exact d.rep e1 hr
 de b:=by rw[d.de,zj,h2]
 rng {b V vs} hr:=d.rng hr
structure RowD (u k:Nat) where
 d:Dec (U u)
 hv:∀a,view u a = .agg (d.enc a)
 hk:∀a,(d.enc a).length=k
 hn:∀a,((d.enc a).all fun x=>!x.isAgg)=true
section
variable {u k:Nat} (R:RowD u k)
end
end
end Su
end
section
namespace Su
open Go Fly
section
variable {P:Program}
def qle(P:Program)(t:Nat):Option (List Nat):=match P.underlying t with
 | some (.struct fs)=>some (fs.toList.map (·.type))
 | _=>none
theorem qlf{α β γ:Type}{R:γ→β→Prop}{f:α→γ}:∀ {l:List α} {m:List β},All2 (fun a b=>R (f a) b) l m→All2 R (l.map f) m
 | _,_,.nil=>.nil
 | _,_,.cons h h'=>.cons h (qlf h')
theorem qlg{α β:Type}{R R':α→β→Prop}(hi:∀a b,R a b→R' a b):∀ {l:List α} {m:List β},All2 R l m→All2 R' l m
 | _,_,.nil=>.nil
 | _,_,.cons h h'=>.cons (hi _ _ h) (qlg hi h')
theorem qlh{α β:Type}{R:α→β→Prop}:∀ {l l':List α} {m m':List β},All2 R l m→All2 R l' m'→All2 R (l++l') (m++m')
 | _,_,_,_,.nil,h'=>h'
 | _,_,_,_,.cons h h1,h'=>.cons h (qlh h1 h')
def Sh1(P:Program)(t:Nat)(xs:List T):Prop:=∃fuel,Shp P fuel t xs
theorem qhE{ts:List Nat}{t:Nat}{xs:List T}(hu:qle P t=some ts)(h:Sh1 P t xs):∃parts,xs=List.flatten parts∧All2 (Sh1 P) ts parts:=by
 obtain⟨fuel,h⟩:=h;cases fuel with
 | zero=>exact absurd h (by simp[Shp])
 | succ fuel=>
  unfold qle at hu;split at hu
  · rename_i fs hs
    simp only[zg]at hu;subst hu;simp only[Shp,hs]at h;obtain⟨parts,h1,h2⟩:=h;exact⟨parts,h1,qlf (f:=fun f:Field=>f.type) (qlg (fun _ _ h=>⟨_,h⟩) h2)⟩
  · simp at hu
def R1{α:Type}(P:Program)(c:Cod α)(t:Nat):Prop:=∀xs,Sh1 P t xs→∃x a,xs=[x]∧c.dec x=some a
def RD{α:Type}(P:Program)(d:Dec α)(ts:List Nat):Prop:=∀parts,All2 (Sh1 P) ts parts→∃a,d.dec parts.flatten=some a
theorem qi1{κ:IntKind}{t:Nat}(hu:P.underlying t=some (.int κ)):R1 P (cI κ) t:=by
 rintro xs ⟨fuel,h⟩
 cases fuel with
 | zero=>exact absurd h (by simp[Shp])
 | succ fuel=>
  simp only[Shp,hu]at h;obtain⟨n,rfl,_⟩:=h;exact⟨_,n,rfl,by show asI κ (.t (.s (.int κ n)))=some n;simp[asI]⟩
theorem qzA{t:Nat}(hu:P.underlying t=some .bool):R1 P cB t:=by
 rintro xs ⟨fuel,h⟩
 cases fuel with
 | zero=>exact absurd h (by simp[Shp])
 | succ fuel=>
  simp only[Shp,hu]at h;obtain⟨n,rfl⟩:=h;exact⟨_,n,rfl,rfl⟩
theorem qwa{e t:Nat}{xs:List T}(hu:P.underlying t=some (.slice e))(h:Sh1 P t xs):∃l,xs=[.sl (P.cellsOf e) l]∧∀x∈l,x.isAgg=jD P e∧Sh1 P e x.cells:=by
 obtain⟨fuel,h⟩:=h;cases fuel with
 | zero=>exact absurd h (by simp[Shp])
 | succ fuel=>simp only[Shp,hu]at h;obtain⟨l,h,_,h2⟩:=h;exact⟨l,h,fun x hx=>⟨(h2 x hx).1,_,(h2 x hx).2⟩⟩
theorem qwb{x:T}(h:x.isAgg=true):x = .agg x.cells:=by cases x <;> first | rfl | (simp[T.isAgg]at h)
theorem qDP{e t i f:Nat}(hu:P.underlying t=some (.slice e))(hw:Nat.beq (P.cellsOf e) 2=true)(hg:jD P e=true)(he:qle P e=some [i,f])(hi:P.underlying i=some (.int .i64))(hf:P.underlying f=some (.int .u64)):R1 P Y9 t:=by
 intro xs h;obtain⟨l,rfl,hl⟩:=qwa hu h;have:∃a,qD l=some a:=by
  clear h;induction l with
  | nil=>exact⟨[],rfl⟩
  | cons x l ih=>
   obtain⟨b,hb⟩:=ih fun y hy=>hl y (zo _ hy)
   obtain⟨h1,h2⟩:=hl x (zq ..)
   rw[hg]at h1;obtain⟨parts,h3,h4⟩:=qhE he h2;cases h4 with | cons p1 h4=>cases h4 with | cons p2 h4=>cases h4 with | nil=>
   obtain⟨x1,i,rfl,e1⟩:=qi1 hi _ p1;obtain⟨x2,c,rfl,e2⟩:=qi1 hf _ p2;refine⟨(⟨i,c⟩:Tm)::b,?_⟩
   have e1:asI .i64 (.t x1)=some i:=e1
   have e2:asI .u64 (.t x2)=some c:=e2
   have:qlW x=some (⟨i,c⟩:Tm):=by
    rw[qwb h1,h3];show((asI .i64 (.t x1)).bind fun i=>(asI .u64 (.t x2)).bind fun c=>some (⟨i,c⟩:Tm))=_
    rw[e1,e2];rfl
   show((qlW x).bind fun a=>(qD l).bind fun b=>some (a::b))=_
   rw[this,hb];rfl
 obtain⟨a,ha⟩:=this;exact⟨_,a,rfl,by show(bif Nat.beq (P.cellsOf e) 2 then qD l else none)=_;rw[hw];exact ha⟩
theorem qEO{α:Type}{c:Cod α}{t:Nat}(h:R1 P c t):RD P (d1 c) [t]:=by
 intro parts hp;cases hp with | cons p1 hp=>cases hp with | nil=>
 obtain⟨x,a,rfl,e⟩:=h _ p1;exact⟨a,e⟩
theorem qwc{α β:Type}{c:Cod α}{d:Dec β}{t:Nat}{ts:List Nat}(h:R1 P c t)(h':RD P d ts):RD P (dc c d) (t::ts):=by
 intro parts hp;cases hp with | cons p1 hp=>
 obtain⟨x,a,rfl,e⟩:=h _ p1;obtain⟨b,e'⟩:=h' _ hp;refine⟨(a,b),?_⟩
 show((c.dec x).bind fun a=>(d.dec ([]++_)).bind fun b=>some (a,b))=_
 rw[e,Ka,e'];rfl
theorem qEP{α:Type}{d:Dec α}{t:Nat}{ts' ts:List Nat}(hu:qle P t=some ts')(h:RD P d (ts'++ts)):RD P d (t::ts):=by
 intro parts hp;cases hp with | cons p1 hp=>
 obtain⟨parts',rfl,h2⟩:=qhE hu p1;obtain⟨a,e⟩:=h _ (qlh h2 hp)
 exact⟨a,by rw[List.flatten_append]at e;exact e⟩
theorem qDQ{α:Type}{d:Dec α}{hf}{t:Nat}{x:T}(hg:jD P t=true)(h:RD P d [t])(hx:qld P t x):∃a,(cA d hf).dec x=some a:=by
 obtain⟨h0,fuel,h1⟩:=hx;rw[hg]at h0;obtain⟨a,e⟩:=h [x.cells] (.cons ⟨fuel,h1⟩ .nil)
 rw[qwb h0];exact⟨a,by show d.dec x.cells=some a;simpa using e⟩
theorem qDR{α:Type}{c:Cod α}{t:Nat}{x:T}(hg:jD P t=false)(h:R1 P c t)(hx:qld P t x):∃a,c.dec x=some a:=by
 obtain⟨h0,fuel,h1⟩:=hx;rw[hg]at h0;obtain⟨y,a,e,e2⟩:=h x.cells ⟨fuel,h1⟩
 have e3:x=y:=by cases x <;> first | (cases h0;done) | (exact(List.cons.inj e).1)
 subst e3;exact⟨a,e2⟩
theorem qli{α β:Type}{c:Cod α}{d:Dec β}{x:T}{l:List T}{a:α}{b:β}(h:c.dec x=some a)(h':d.dec l=some b):(dc c d).dec (x::l)=some (a,b):=by
 show((c.dec x).bind fun a=>(d.dec l).bind fun b=>some (a,b))=_
 rw[h,h'];rfl
end
end Su
end
section
set_option maxRecDepth 10000
namespace Su
open Go Fly Go.Proofs
theorem qEQ:R1 Tryz.prog (cI .i64) 3:=qi1 (by kernel_rfl)
theorem qAs:R1 Tryz.prog (cI .u64) 23:=qi1 (by kernel_rfl)
theorem t_b:R1 Tryz.prog cB 4:=qzA (by kernel_rfl)
theorem qER:R1 Tryz.prog Y9 26:=qDP (e:=58) (i:=3) (f:=23) (by kernel_rfl) (by kernel_rfl) (by kernel_rfl) (by kernel_rfl) (by kernel_rfl) (by kernel_rfl)
theorem qDS:qle Tryz.prog 28=some [4,23,26,23]:=by kernel_rfl
theorem qoQ{x:T}(h:qld Tryz.prog 28 x):∃a,jC.dec x=some a :=
 qDQ (by kernel_rfl) (qEP qDS (qwc t_b (qwc qAs (qwc qER (qEO qAs))))) h
theorem qDT{x:T}(h:qld Tryz.prog 3 x):∃a,(cI .i64).dec x=some a:=qDR (by kernel_rfl) qEQ h
theorem gok{V:qb}:GOK tb V:=fun _ _ h=>by cases h
theorem qzB{α:Type}{f:Nat}{d:Dec α}{g:α→Option Bool}(hp:OkT f (prim d (d1 cB) g))(hg:∀a,g a=some true){V:qb}{args:Array Value}{xs:List T}(hr:RepA V xs args.toList){a:α}(ha:d.dec xs=some a) :
 yJ Tryz.prog f args V [] fun v _ _=>v = .bool true:=by
 have h:(∀xs y,(d.dec xs).bind g=some y→∀V vs,GOK tb V→RepA V xs vs→yJ Tryz.prog f vs.toArray V [] fun v V' _=>∃rvs,RepA V' ((d1 cB).enc y) rvs∧v=J4 rvs)∧_:=hp.2
 have hF:=h.1 xs true (by rw[ha];exact hg a) V args.toList gok hr
 rw[Vi]at hF;intro w a1 a2 a3 a4;refine(hF w a1 a2 a3 a4).mono ?_
 rintro e w' ⟨v,V',G',rfl,hh,rvs,m1,rfl⟩
 refine⟨_,V',G',rfl,hh,?_⟩
 cases m1 with | cons k1 k2=>cases k2 with | nil=>cases k1 with | s _=>rfl
end Su
end
