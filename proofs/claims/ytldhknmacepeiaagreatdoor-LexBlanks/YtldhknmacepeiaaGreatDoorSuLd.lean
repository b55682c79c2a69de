/-
  An evaluator of the program's functions over trees of values, proved sound. No condition.
-/
import Derived.Test.YtldhknmacepeiaaGreatDoorHIn
import Derived.Test.YtldhknmacepeiaaGreatDoorNT15
import Derived.Test.YtldhknmacepeiaaGreatDoorSuTb
import Derived.Test.YtldhknmacepeiaaGreatDoorCards
import Derived.LaidMore
import Derived.OpenShut
import Derived.Stop.Joined
import Derived.ChangeArms
import Derived.WalkKit
import Derived.ProofKit
import Derived.Shelf.Vars
set_option linter.unusedVariables false
set_option linter.unusedSimpArgs false
section
namespace Su
open Go Fly Go.RowKit Go.ChangeShapes
section
variable {H:Type} {enc:TypeId×Value→H} {P:Program} {S:List Nat}
theorem qcF{w:World}{base:Nat}{sp:Nat→Bool}{held:Bool}:∀ {ts:List Nat} {vs:List Value} {ds:List (DataW H)} {p:List MemPlace},DataW.TrodAll enc P w base sp held ts vs ds p→ds.length=ts.length
 | [],_,_,_,h=>by obtain⟨rfl,rfl,rfl⟩:=trodAll_nil h;rfl
 | _::_,_,_,_,h=>by
  obtain⟨v,vs1,d,ds1,a,b,rfl,rfl,rfl,h1,h2⟩:=trodAll_cons h;simp[qcF h2]
theorem qve{W W':World}{may:MemPlace→Prop}(ho:W'.os=W.os)(hp:W'.output=W.output)(hb:∀b,b<W.heap.size→W'.heap[b]?=W.heap[b]?):W.keptBut W' may:=by
 refine⟨ho,hp,fun i hi=>?_⟩
 rw[hb i hi];cases W.heap[i]? with
 | none=>rfl
 | some o=>cases o <;> first | exact⟨rfl,rfl,rfl,fun _ _=>rfl⟩ | exact .inr ⟨rfl,rfl⟩ | rfl
theorem qnp{fn:Func}{s:ChangeSpec}{apart fresh handsOn again:Bool}(hS:∀t∈S,Yt P S t=true)(hpar:∀t∈fn.params.toList,t∈S){tb:Nat}(hres:fn.resultTypes = #[tb])(htb:P.underlying tb=some .bool)(hvars:s.vars=[])
 (hsn:∀ds:List (DataW H),ds.length=fn.params.size→s.fn H ds = { results:=[.lit (.bool true)],args:=ds }) {W:World} {args:Array Value} {ds gs:List (DataW H)} {before:List MemPlace} {b0:Nat} {r:Reach}
 (hval:∀(j:Nat) t v,fn.params[j]?=some t→args[j]?=some v→Value.okWide P W r b0 t v) (hW:DataW.Whole enc P fn.params.toList s.vars apart W args.toList ds gs before) {W':World} (ho:W'.os=W.os) (hp:W'.output=W.output) (hb:∀b,b<W.heap.size→W'.heap[b]?=W.heap[b]?) :
 s.post enc P fn apart fresh handsOn again W args (.bool true) W':=by
 have hW0:=hW;have hlt:=hW.lt;obtain⟨p,q,hA,hV,rfl,hz,hn⟩:=hW;have hlen:ds.length=fn.params.size:=by rw[qcF hA];simp
 have hV0:gs=[]∧q=[]:=by
  rw[hvars]at hV;cases gs with
  | nil=>exact⟨rfl,hV⟩
  | cons g l=>exact absurd hV (by intro h;cases h)
 obtain⟨rfl,rfl⟩:=hV0;have same:∀x∈p,W.sameAt W' x:=by
  intro x hx;have h1:=hlt x (K4 _ hx)
  cases x with
  | cell b off=>simp only[World.sameAt,World.cell?];rw[hb b h1]
  | map b=>exact hb b h1
 have hargs:=(qaG hS _ _ _ _ hpar (fun j t v hj hv=>hval j t v (by simpa using hj) (by simpa using hv)) hA).2
 have hcarry:∀sp:Nat→Bool,(∀x∈p,sp x.block=true)→DataW.TrodAll enc P W' 0 sp true fn.params.toList args.toList ds p:=fun sp hsp=>qaf _ _ _ _ (hargs sp hsp) same
 have hfn:=hsn ds hlen;have hresult:∀(bs:Nat) (sp:Nat→Bool) (hd:Bool),DataW.TrodAll enc P W' bs sp hd fn.resultTypes.toList ((Value.bool true).resultList fn.resultTypes.size) [.lit (.bool true)] []:=by
  intro bs sp hd;rw[hres];exact trodAll_mk1 (shut_bool htb true)
 have hold:∀x∈p,(fun b=>decide (b<W.heap.size)) x.block=true:=fun x hx=>by simpa using hlt x (K4 _ hx)
 have hvs:∀sp,DataW.TrodVars enc P W' sp s.vars (s.fn H (ds++[])).vars []:=fun sp=>by rw[KH,hfn,hvars];rfl
 refine⟨ds,[],p++[],[],p,[],hW0,?_,?_,hvs _,qve ho hp hb,fun _=>⟨?_,?_⟩⟩
 · rw[KH,hfn];exact hresult _ _ _
 · rw[KH,hfn];exact hcarry _ hold
 · intro j t r0 h1 h2
   rw[hres]at h1 h2;have:(Value.bool true).resultList #[tb].size=[.bool true]:=rfl
   rw[this]at h2;cases j with
   | zero=>
    simp at h1 h2;subst h1 h2
    unfold Value.okWide;rw[htb];simp[Cell.okWide,Cell.ok,htb]
   | succ j=>simp at h1
 · refine⟨_,[],([]++p)++[],⟨[]++p,[],trodAll_append (hcarry _ fun _ _=>rfl) (hresult _ _ _),?_,rfl,?_,?_⟩,?_⟩
   · have:=hvs (fun _=>true)
     rw[KH,hfn]at this;exact this
   · intro b off hm
     have hm':MemPlace.cell b off∈p:=by simpa using hm
     have h1:b<W.heap.size:=hlt _ (K4 _ hm')
     have h2:=hz b off (by simpa using hm')
     unfold World.frozen? at h2 ⊢
     rw[hb b h1];exact h2
   · intro ha;simpa using hn ha
   · intro x hx _;simpa using hx
theorem qsr{fn:Func}{f:FuncId}{s:ChangeSpec}{apart fresh handsOn again:Bool}(hS:∀t∈S,Yt P S t=true)(hpar:∀t∈fn.params.toList,t∈S){tb:Nat}(hres:fn.resultTypes = #[tb])(htb:P.underlying tb=some .bool)(hvars:s.vars=[])
 (hsn:∀ds:List (DataW H),ds.length=fn.params.size→s.fn H ds = { results:=[.lit (.bool true)],args:=ds }) {W:World} {args:Array Value} {ds gs:List (DataW H)} {before:List MemPlace} {b0:Nat} {r:Reach}
 (hval:∀(j:Nat) t v,fn.params[j]?=some t→args[j]?=some v→Value.okWide P W r b0 t v) (hW:DataW.Whole enc P fn.params.toList s.vars apart W args.toList ds gs before)
 (h:∀xs,RepA (hv W) xs args.toList→All2 (qka P) fn.params.toList xs→jA P f args (hv W) [] fun v _ _=>v = .bool true) :
 Calls P f args W fun e W'=>∃v,e = .returned v∧s.post enc P fn apart fresh handsOn again W args v W':=by
 obtain⟨p,q,hA,hV,hpq,hz,hn⟩:=id hW;obtain⟨⟨xs,h1,h2⟩,_⟩:=qaG hS _ _ _ _ hpar (fun j t v hj hv=>hval j t v (by simpa using hj) (by simpa using hv)) hA
 refine(h xs h1 h2 W (fun _ _ h=>h) (fun _ h=>by cases h) (fun _ h=>by cases h) WL).mono ?_
 rintro e W' ⟨v,V',G',rfl,hh,rfl⟩
 exact⟨_,rfl,qnp hS hpar hres htb hvars hsn hval hW hh.ext.os hh.ext.output fun b hb=>hh.ext.block b hb (by simp[keys])⟩
end
end Su
end
section
namespace Su
open Go Fly
section
variable {P:Program}
def Sh1(P:Program)(t:Nat)(xs:List T):Prop:=∃fuel,Shp P fuel t xs
def R1{α:Type}(P:Program)(c:Cod α)(t:Nat):Prop:=∀xs,Sh1 P t xs→∃x a,xs=[x]∧c.dec x=some a
theorem qzd{κ:IntKind}{t:Nat}(hu:P.underlying t=some (.int κ)):R1 P (cI κ) t:=by
 rintro xs ⟨fuel,h⟩
 cases fuel with
 | zero=>exact absurd h (by simp[Shp])
 | succ fuel=>
  simp only[Shp,hu]at h;obtain⟨n,rfl,_⟩:=h;exact⟨_,n,rfl,by show asI κ (.t (.s (.int κ n)))=some n;simp[asI]⟩
theorem qze{t:Nat}(hu:P.underlying t=some .string):R1 P cS t:=by
 rintro xs ⟨fuel,h⟩
 cases fuel with
 | zero=>exact absurd h (by simp[Shp])
 | succ fuel=>
  simp only[Shp,hu]at h;obtain⟨n,rfl,_⟩:=h;exact⟨_,n,rfl,rfl⟩
theorem qss{α:Type}{c:Cod α}{t:Nat}{x:T}(hg:y7 P t=false)(h:R1 P c t)(hx:qka P t x):∃a,c.dec x=some a:=by
 obtain⟨h0,fuel,h1⟩:=hx;rw[hg]at h0;obtain⟨y,a,e,e2⟩:=h x.cells ⟨fuel,h1⟩
 have e3:x=y:=by cases x <;> first | (cases h0;done) | (exact(List.cons.inj e).1)
 subst e3;exact⟨a,e2⟩
theorem qst{α β:Type}{c:Cod α}{d:Dec β}{x:T}{l:List T}{a:α}{b:β}(h:c.dec x=some a)(h':d.dec l=some b):(dc c d).dec (x::l)=some (a,b):=by
 show((c.dec x).bind fun a=>(d.dec l).bind fun b=>some (a,b))=_
 rw[h,h'];rfl
end
end Su
end
section
set_option maxRecDepth 10000
namespace Su
open Go Fly Go.Proofs
theorem qvf{α:Type}{f:Nat}{d:Dec α}{g:α→Option Bool}(hp:OkT f (prim d (d1 cB) g))(hg:∀a,g a=some true){V:qc}(gk:GOK tb V){args:Array Value}{xs:List T}(hr:RepA V xs args.toList){a:α}(ha:d.dec xs=some a) :
 jA Tryz.prog f args V [] fun v _ _=>v = .bool true:=by
 have h:(∀xs y,(d.dec xs).bind g=some y→∀V vs,GOK tb V→RepA V xs vs→jA Tryz.prog f vs.toArray V [] fun v V' _=>∃rvs,RepA V' ((d1 cB).enc y) rvs∧v=QI rvs)∧_:=hp.2
 have hF:=h.1 xs true (by rw[ha];exact hg a) V args.toList gk hr
 rw[Vo]at hF;intro w a1 a2 a3 a4;refine(hF w a1 a2 a3 a4).mono ?_
 rintro e w' ⟨v,V',G',rfl,hh,rvs,m1,rfl⟩
 refine⟨_,V',G',rfl,hh,?_⟩
 cases m1 with | cons k1 k2=>cases k2 with | nil=>cases k1 with | s _=>rfl
def qiU:List Int:=[1,10,100,1000,10000,100000,1000000,10000000,100000000,1000000000,10000000000,100000000000,1000000000000,10000000000000,100000000000000,1000000000000000,10000000000000000,100000000000000000,1000000000000000000,10000000000000000000]
theorem qiV{V:qc}:∀l:List Int,(∀n∈l,inR .u64 n=true)→RepA V (l.map fun n=>T.s (.int .u64 n)) (l.map (Value.int .u64 ·))
 | [],_=>.nil
 | n::l,h=>.cons (.s (show Qw (.int .u64 n)=true from h n zE)) (qiV l fun m hm=>h m (zB _ hm))
theorem qzf:∀n∈qiU,inR .u64 n=true:=by
 have:(qiU.all (inR .u64 ·))=true:=by decide +kernel
 exact Ke.1 this
theorem gP10:Tryz.prog.globalNamed "internal/strconv.uint64pow10"=some 4:=by kernel_rfl
theorem tP10:(Tryz.prog.globals[4]?).map (·.type)=some 266:=by kernel_rfl
theorem uP10:Tryz.prog.underlying 266=some (.array 20 22):=by kernel_rfl
theorem uU64:Tryz.prog.underlying 22=some (.int .u64):=by kernel_rfl
theorem cU64:Tryz.prog.cellsOf 22=1:=by kernel_rfl
theorem cP10:Tryz.prog.cellsOf 266=20:=by kernel_rfl
theorem qnq{W:World}(h:W.ShapedOpen Tryz.prog):∃v e f,hv W 3=some (.cells #[v] e f)∧qjk 0 v=true:=by
 have h0:((begin Tryz.prog (fun _ _=>0) default).world.heap[3]?).bind Obj.row?=some (#[.int .i64 0],3):=by kernel_rfl
 obtain⟨cs,hh,hs,hr⟩:=h.1 3 #[.int .i64 0] 3 (Ko (by kernel_rfl)) h0
 obtain⟨m,hm⟩:=cell_of_shapedOpen_int (zero:=#[.int .i64 0]) (t:=3) h (Ko (by kernel_rfl)) h0 rfl (by kernel_rfl) (by kernel_rfl) Tryz.underlying3
 have h1:cs.size=1:=hs
 have hc:cs[0]?=some (.int .i64 m):=by
  have:W.cell? ⟨3,0,none⟩=cs[0]?:=by simp[World.cell?,hh]
  rw[← this];exact hm
 have e:cs = #[.int .i64 m]:=by
  apply Array.ext
  · simpa using h1
  · intro i g1 g2
    have:i=0:=by simp at g2;omega
    subst this;have:=(Ka.1 hc).2
    simpa using this
 subst e;exact⟨_,_,_,hh,rfl⟩
theorem qvg{W:World}{enc:TypeId×Value→Unit}{sp:Nat→Bool}{hd:Bool}{cs:List Value}{fuel:Nat}{nm:String}{d:DataW Unit}{p:List MemPlace}
 (h:DataW.trod enc Tryz.prog W 0 sp hd fuel 193 cs=some (.iface nm d,p)):∃u v,cs=[.iface u v]:=by
 cases fuel with
 | zero=>simp[DataW.trod]at h
 | succ n=>
  unfold DataW.trod at h;rw[Tryz.underlying193]at h;split at h <;> simp_all
theorem qvh{W:World}{cs:Array Value}{te:TypeId}{v:Value}(hv0:W.var? Tryz.prog "strconv.ErrRange"=some cs) (h:cs.toList=[.iface te v]):∃v e f,hv W 6=some (.cells #[v] e f)∧qjk 1 v=true:=by
 have gE:Tryz.prog.globalNamed "strconv.ErrRange"=some 6:=by kernel_rfl
 simp only[World.var?,gE,zh]at hv0;split at hv0
 · rename_i c t fr hb
   cases hv0;have e:cs = #[.iface te v]:=by
    apply Array.ext'
    rw[h]
   subst e;exact⟨_,_,_,hb,rfl⟩
 · cases hv0
theorem qzg{W:World}{cs:Array Value}(hv0:W.var? Tryz.prog "internal/strconv.uint64pow10"=some cs) (h:cs.toList=qiU.map (Value.int .u64 ·)) (hm:∃v e f,hv W 3=some (.cells #[v] e f)∧qjk 0 v=true) (he:∃v e f,hv W 6=some (.cells #[v] e f)∧qjk 1 v=true):GOK tb (hv W):=by
 refine⟨?_,fun g c hc=>?_⟩
 rotate_left
 · have hc':(bif Nat.beq g 3 then some 0 else bif Nat.beq g 6 then some 1 else none)=some c:=hc
   cases hb:Nat.beq g 3 with
   | true=>
    rw[hb]at hc';have:=soi hc';subst this
    obtain rfl:=zf hb
    exact hm
   | false=>
    rw[hb,zm]at hc';obtain⟨h1,h2⟩:=qh hc';have:=soi h2;subst this
    obtain rfl:=zf h1
    exact he
 intro g x hx;have hx':(bif Nat.beq g 4 then some gT4 else none)=some x:=hx
 obtain⟨h1,h2⟩:=qh hx';have hg:=zf h1;subst hg;have:=soi h2;subst this
 simp only[World.var?,gP10,zh]at hv0;split at hv0
 · rename_i c t fr hb
   cases hv0;have hV:hv W 4=some (.cells cs t fr):=hb
   have eT:gT4.cells=qiU.map fun n=>T.s (.int .u64 n):=by kernel_rfl
   have hl:cs.size=20:=by
    have:=congrArg List.length h
    rw[zK]at this;simpa[qiU]using this
   refine⟨Rep.pt (x:=gT4) (off:=0) (o:=0) (vs:=cs.toList) ?_ ?_ ?_,cs,t,fr,hV,?_⟩
   · rw[eT,h];exact qiV _ qzf
   · intro y hy
     rw[eT]at hy;obtain⟨n,_,rfl⟩:=KZ.1 hy;rfl
   · intro j c hj
     refine⟨cs,t,fr,hV,?_⟩
     rw[zG,← hj];simp
   · rw[eT,zK,hl];rfl
 · cases hv0
theorem qvi{W:World}{enc:TypeId×Value→Unit}{sp:Nat→Bool}{hd:Bool}{cs:List Value}{fuel:Nat}{p:List MemPlace}
 (h:DataW.trod enc Tryz.prog W 0 sp hd fuel 266 cs=some (.agg (qiU.map fun n=>.lit (.int .u64 n)),p)):cs=qiU.map (Value.int .u64 ·):=by
 obtain⟨xs,m,rfl,hx,hcs,hn,hel⟩:=DataW.trod_array uP10 h;simp only[Kk,DataW.agg.injEq]at hx;have hx1:=hx.1;rw[cP10]at hcs;refine List.ext_getElem? fun i=>?_
 by_cases hi:i<20
 · have h1:=hel i hi
   rw[cU64,Vn,zt (by omega)]at h1;obtain⟨n,e1,e2,_⟩:=DataW.trod_int uU64 h1;have hc:cs[i]?=some (.int .u64 n):=by
    have h2:=congrArg (fun l=>l[0]?) e1
    simp only[Kh,K6]at h2;simpa using h2
   have hs:=congrArg (fun l=>l[i]?) hx1
   simp only[Kq]at hs;rw[zt (l:=xs) (by omega)]at hs;rw[hc,Kq];cases hp:qiU[i]? with
   | none=>rw[hp]at hs;simp at hs
   | some k=>
    rw[hp]at hs;simp[e2]at hs;simp[hs]
 · rw[z7 (by omega),z7 (by rw[zK];show 20≤i;omega)]
end Su
namespace Go.Proofs.YtldhknmacepeiaaGreatDoor
open Go Go.ChangeShapes Go.WideShapes Go.ChangeAt Go.RowKit Fly Su
set_option maxRecDepth 100000
theorem ownK:ownKnob Tryz.prog.godebug=none:=by kernel_rfl
theorem qAK:Tryz.prog.underlying 4=some .bool:=by kernel_rfl
theorem qsu{W:World}(h:laidMetH Tryz.prog Rows.lexPlacesRow.laid W)(hsh:W.ShapedOpen Tryz.prog):GOK tb (hv W):=by
 rw[MakeChecks.laidMetH_plain _ _ _ (by kernel_rfl)]at h;obtain⟨ps,hL,_⟩:=h;obtain⟨g0,t0,cs0,f0,p0,q0,_,_,_,_,hL,_⟩:=hL;obtain⟨g1,t1,cs1,f1,p1,q1,_,_,_,_,hL,_⟩:=hL;obtain⟨g2,t2,cs2,f2,p2,q2,hg,ht,hv0,hd,hL,_⟩:=hL;obtain⟨g3,t3,cs3,f3,p3,q3,_,_,_,_,hL,_⟩:=hL;obtain⟨g4,t4,cs4,f4,p4,q4,hg4,ht4,hv4,hd4,hL,_⟩:=hL;obtain rfl:=KR (gP10.symm.trans hg)
 obtain rfl:=KR (tP10.symm.trans ht)
 have gE:Tryz.prog.globalNamed "strconv.ErrRange"=some 6:=by kernel_rfl
 have tE:(Tryz.prog.globals[6]?).map (·.type)=some 193:=by kernel_rfl
 obtain rfl:=KR (gE.symm.trans hg4)
 obtain rfl:=KR (tE.symm.trans ht4)
 obtain⟨u,v,he⟩:=qvg hd4;exact qzg hv0 (qvi hd) (qnq hsh) (qvh hv4 he)
noncomputable def qzh:DataW Unit→Array Value
 | .agg l=>(l.map fun | .lit (.int k n)=>Value.int k n | _=>undef).toArray
 | _=>#[]
noncomputable def qwi(os:Os):World :=
 let w:=World.doorLaid Tryz.prog 77 os
 { w with heap:=w.heap.modify ((Tryz.prog.globalNamed "unicode/utf8.first").getD 0) fun
    | .cells _ t frozen=>.cells (qzh Rows.laid_unicode_utf8_first) t frozen
    | o=>o }
theorem qsv(os:Os)(args:Array Value):laidMetH Tryz.prog Rows.lexPlacesRow.laid ((qwi os).forCall (fun _ _=>0) ⟨#[],args,[]⟩).memory :=
 laidMetH_of_parts3 (fuel:=8) (laidMet_of_run' 8 (by kernel_rfl) (by kernel_rfl)) (by kernel_rfl) (by kernel_rfl)
end Go.Proofs.YtldhknmacepeiaaGreatDoor
end
