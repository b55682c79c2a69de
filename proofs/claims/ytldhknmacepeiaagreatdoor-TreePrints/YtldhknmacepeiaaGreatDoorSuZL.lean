/-
  An evaluator, proved sound. No condition.
-/
import Derived.Test.YtldhknmacepeiaaGreatDoorNP01
import Derived.Test.YtldhknmacepeiaaGreatDoorCards
import Derived.LaidMore
import Derived.OpenShut
import Derived.Stop.Joined
import Derived.ChangeArms
import Derived.ProofKit
import Derived.Shelf.Vars
set_option linter.unusedVariables false
set_option linter.unusedSimpArgs false
section
namespace Su
open Go Fly
noncomputable section
def dm{α β:Type}(d:Dec α)(tz:α→β)(fr:β→α)(h1:∀a,fr (tz a)=a)(h2:∀b,tz (fr b)=b):Dec β where
 enc b:=d.enc (fr b)
 dec l:=(d.dec l).bind fun a=>some (tz a)
 good b:=d.good (fr b)
 rep {xs b} h V vs hr:=by
  obtain⟨a,e1,e2⟩:=osm h;have:=soi e2;subst this
  rw[h1];exact d.rep e1 hr
 de b:=by rw[d.de,zm,h2]
 rng {b V vs} hr:=d.rng hr
structure RowD (u k:Nat) where
 d:Dec (U u)
 hv:∀a,view u a = .agg (d.enc a)
 hk:∀a,(d.enc a).length=k
 hn:∀a,((d.enc a).all fun x=>!x.isAgg)=true
section
variable {u k:Nat} (R:RowD u k)
end
end
end Su
end
section
namespace Su
open Go Fly
section
variable {P:Program}
def qg4(P:Program)(t:Nat):Option (List Nat):=match P.underlying t with
 | some (.struct fs)=>some (fs.toList.map (·.type))
 | _=>none
theorem qj6{α β γ:Type}{R:γ→β→Prop}{f:α→γ}:∀ {l:List α} {m:List β},All2 (fun a b=>R (f a) b) l m→All2 R (l.map f) m
 | _,_,.nil=>.nil
 | _,_,.cons h h'=>.cons h (qj6 h')
end
end Su
end
section
namespace Su
open Go Fly Go.Proofs
section
variable {P:Program} {V:qc} {fuel t:Nat} {xs:List T}
theorem Zw{ts:List Nat}(hu:qg4 P t=some ts)(h:Shp P fuel t xs):∃f' parts,fuel=f'+1∧xs=List.flatten parts∧All2 (Shp P f') ts parts:=by
 cases fuel with
 | zero=>exact absurd h (by simp[Shp])
 | succ fuel=>
  unfold qg4 at hu;split at hu
  · rename_i fs hs
    simp only[za]at hu;subst hu;simp only[Shp,hs]at h;obtain⟨parts,h1,h2⟩:=h;exact⟨fuel,parts,rfl,h1,qj6 (f:=fun f:Field=>f.type) h2⟩
  · simp at hu
theorem QF{k:IntKind}(hu:P.underlying t=some (.int k))(h:Shp P fuel t xs):∃n,xs=[.s (.int k n)]∧inR k n=true:=by
 cases fuel with
 | zero=>exact absurd h (by simp[Shp])
 | succ fuel=>simp only[Shp,hu]at h;obtain⟨n,h,h'⟩:=h;exact⟨n,h,h'⟩
theorem qfv(hu:P.underlying t=some .bool)(h:Shp P fuel t xs):∃n,xs=[.s (.bool n)]:=by
 cases fuel with
 | zero=>exact absurd h (by simp[Shp])
 | succ fuel=>simp only[Shp,hu]at h;exact h
theorem qih(hu:P.underlying t=some .string)(h:Shp P fuel t xs):∃n,xs=[.s (.string n)]:=by
 cases fuel with
 | zero=>exact absurd h (by simp[Shp])
 | succ fuel=>simp only[Shp,hu]at h;obtain⟨n,h,_⟩:=h;exact⟨n,h⟩
theorem Jl{e:Nat}(hu:P.underlying t=some (.slice e))(h:Shp P fuel t xs):∃f' l,fuel=f'+1∧xs=[.sl (P.cellsOf e) l]∧∀x∈l,Shp P f' e x.cells:=by
 cases fuel with
 | zero=>exact absurd h (by simp[Shp])
 | succ fuel=>simp only[Shp,hu]at h;obtain⟨l,h,_,h2⟩:=h;exact⟨fuel,l,rfl,h,fun x hx=>(h2 x hx).2⟩
theorem Za:∀ {parts:List (List T)} {cs:List Value},RepA V parts.flatten cs→∃css,cs=List.flatten css∧All2 (RepA V) parts css
 | [],cs,h=>by cases h;exact⟨[],rfl,.nil⟩
 | p::parts,cs,h=>by
  rw[Wc]at h;obtain⟨v1,v2,rfl,h1,h2⟩:=h.split;obtain⟨css,rfl,h3⟩:=Za h2;exact⟨v1::css,by rw[Wc],.cons h1 h3⟩
theorem y9{v:Value}{cs:List Value}(h:RepA V [.s v] cs):cs=[v]:=by
 cases h with|cons h h'=>cases h' with|nil=>cases h with|s _=>rfl
theorem Zx{k:Nat}{l:List T}{cs:List Value}(h:RepA V [.sl k l] cs):∃v vs,cs=[v]∧Sl k V v vs∧RepA V (l.flatMap T.cells) vs:=by
 cases h with|cons h h'=>cases h' with|nil=>
 cases h with
 | @sl _ _ vs a cap h hc hw h1 h2 h3=>
  refine⟨_,vs,rfl,⟨a,l.length,cap,rfl,h1,h2,?_,?_⟩,h⟩
  · rw[← h.length]
    clear h h1 h2 h3 hc;induction l with
    | nil=>simp
    | cons x l ih=>rw[Kx,zb,ih fun y hy=>hw y (zE _ hy),hw x (zM ..),zf,zR];omega
  · rcases h3 with h3|h3
    · left;rw[h3];rfl
    · exact .inr h3
end
section
variable {V:qc}
theorem u41:qg4 Tryz.prog 78=some [76,3,4,21,23,9,75]:=by kernel_rfl
theorem u43:qg4 Tryz.prog 80=some [74,3,9,75,78,21,21,64,64]:=by kernel_rfl
theorem u54:qg4 Tryz.prog 122=some [3,4,9,120,3,4,78,78]:=by kernel_rfl
theorem u25:qg4 Tryz.prog 66=some [3,63,64,64]:=by kernel_rfl
theorem u39:Tryz.prog.underlying 76=some (.int .u8):=by kernel_rfl
theorem u37:Tryz.prog.underlying 74=some (.int .u8):=by kernel_rfl
theorem u52:Tryz.prog.underlying 120=some (.int .u8):=by kernel_rfl
theorem u3:Tryz.prog.underlying 3=some (.int .i64):=by kernel_rfl
theorem u21:Tryz.prog.underlying 21=some (.int .i32):=by kernel_rfl
theorem u35:Tryz.prog.underlying 23=some (.int .u64):=by kernel_rfl
theorem u4:Tryz.prog.underlying 4=some .bool:=by kernel_rfl
theorem u9:Tryz.prog.underlying 9=some .string:=by kernel_rfl
theorem u38:Tryz.prog.underlying 75=some (.slice 78):=by kernel_rfl
theorem u22:Tryz.prog.underlying 63=some (.slice 122):=by kernel_rfl
theorem u23:Tryz.prog.underlying 64=some (.slice 80):=by kernel_rfl
theorem n41:Tryz.prog.cellsOf 78=7:=by kernel_rfl
theorem n43:Tryz.prog.cellsOf 80=15:=by kernel_rfl
theorem n54:Tryz.prog.cellsOf 122=20:=by kernel_rfl
theorem qlo{f':Nat}(ih:∀xs cs,Shp Tryz.prog f' 78 xs→RepA V xs cs→∃e:Fly.Ex,Fly.Ex.Is V e cs∧qe0 e):∀(l:List T) (vs:List Value),(∀x∈l,Shp Tryz.prog f' 78 x.cells)→RepA V (l.flatMap T.cells) vs→∃az:Fly.Exs,Fly.Exs.Is V az vs∧RngEs az
 | [],vs,_,h=>by cases h;exact⟨.nil,by simp[Fly.Exs.Is],trivial⟩
 | x::l,vs,hl,h=>by
  rw[Kx]at h;obtain⟨v1,v2,rfl,h1,h2⟩:=h.split;obtain⟨e,he,ge⟩:=ih _ _ (hl x (zM ..)) h1
  obtain⟨az,ha,ga⟩:=qlo ih l v2 (fun y hy=>hl y (zE _ hy)) h2
  exact⟨.cons e az,by simp only[Fly.Exs.Is];exact⟨v1,v2,rfl,he,ha⟩,ge,ga⟩
theorem qnf:∀(N fuel:Nat),fuel≤N→∀xs cs,Shp Tryz.prog fuel 78 xs→RepA V xs cs→∃e:Fly.Ex,Fly.Ex.Is V e cs∧qe0 e:=by
 intro N;induction N with
 | zero=>intro fuel hf xs cs h;have:fuel=0:=(by omega);subst this;exact absurd h (by simp[Shp])
 | succ N ih=>
  intro fuel hf xs cs h hr;obtain⟨f',parts,rfl,rfl,hp⟩:=Zw u41 h;obtain⟨css,rfl,hc⟩:=Za hr;cases hp with|cons q1 hp=>cases hp with|cons q2 hp=>cases hp with|cons q3 hp=>cases hp with|cons q4 hp=>cases hp with|cons q5 hp=>cases hp with|cons q6 hp=>cases hp with|cons q7 hp=>cases hp with|nil=>
  cases hc with|cons c1 hc=>cases hc with|cons c2 hc=>cases hc with|cons c3 hc=>cases hc with|cons c4 hc=>cases hc with|cons c5 hc=>cases hc with|cons c6 hc=>cases hc with|cons c7 hc=>cases hc with|nil=>
  obtain⟨op,rfl,gq1⟩:=QF u39 q1;obtain⟨at_,rfl,gq2⟩:=QF u3 q2;obtain⟨b,rfl⟩:=qfv u4 q3;obtain⟨i,rfl,gq4⟩:=QF u21 q4;obtain⟨f,rfl,gq5⟩:=QF u35 q5;obtain⟨nm,rfl⟩:=qih u9 q6;obtain⟨f2,l,rfl,rfl,hl⟩:=Jl u38 q7;rw[n41]at c7;obtain⟨v,vs,rfl,hsl,hrl⟩:=Zx c7;obtain⟨az,ha,ga⟩:=qlo (fun xs cs h1 h2=>ih f2 (by omega) xs cs h1 h2) l vs hl hrl
  rw[y9 c1,y9 c2,y9 c3,y9 c4,y9 c5,y9 c6];exact⟨.mk op at_ b i f nm az,by simp only[Fly.Ex.Is];exact⟨v,vs,rfl,hsl,ha⟩,⟨gq4,gq5⟩,ga⟩
theorem qfw{f':Nat}(ih:∀xs cs,Shp Tryz.prog f' 80 xs→RepA V xs cs→∃e:Fly.St_,Fly.St_.Is V e cs∧qjr e):∀(l:List T) (vs:List Value),(∀x∈l,Shp Tryz.prog f' 80 x.cells)→RepA V (l.flatMap T.cells) vs→∃az:Fly.Sts,Fly.Sts.Is V az vs∧RngSs az
 | [],vs,_,h=>by cases h;exact⟨.nil,by simp[Fly.Sts.Is],trivial⟩
 | x::l,vs,hl,h=>by
  rw[Kx]at h;obtain⟨v1,v2,rfl,h1,h2⟩:=h.split;obtain⟨e,he,ge⟩:=ih _ _ (hl x (zM ..)) h1
  obtain⟨az,ha,ga⟩:=qfw ih l v2 (fun y hy=>hl y (zE _ hy)) h2
  exact⟨.cons e az,by simp only[Fly.Sts.Is];exact⟨v1,v2,rfl,he,ha⟩,ge,ga⟩
theorem qvU:∀(N fuel:Nat),fuel≤N→∀xs cs,Shp Tryz.prog fuel 80 xs→RepA V xs cs→∃e:Fly.St_,Fly.St_.Is V e cs∧qjr e:=by
 intro N;induction N with
 | zero=>intro fuel hf xs cs h;have:fuel=0:=(by omega);subst this;exact absurd h (by simp[Shp])
 | succ N ih=>
  intro fuel hf xs cs h hr;obtain⟨f',parts,rfl,rfl,hp⟩:=Zw u43 h;obtain⟨css,rfl,hc⟩:=Za hr;cases hp with|cons q1 hp=>cases hp with|cons q2 hp=>cases hp with|cons q3 hp=>cases hp with|cons q4 hp=>cases hp with|cons q5 hp=>cases hp with|cons q6 hp=>cases hp with|cons q7 hp=>cases hp with|cons q8 hp=>cases hp with|cons q9 hp=>cases hp with|nil=>
  cases hc with|cons c1 hc=>cases hc with|cons c2 hc=>cases hc with|cons c3 hc=>cases hc with|cons c4 hc=>cases hc with|cons c5 hc=>cases hc with|cons c6 hc=>cases hc with|cons c7 hc=>cases hc with|cons c8 hc=>cases hc with|cons c9 hc=>cases hc with|nil=>
  obtain⟨kd,rfl,gq1⟩:=QF u37 q1;obtain⟨p,rfl,gq2⟩:=QF u3 q2;obtain⟨nm,rfl⟩:=qih u9 q3;obtain⟨lo,rfl,gq6⟩:=QF u21 q6;obtain⟨hi,rfl,gq7⟩:=QF u21 q7;obtain⟨f2,l2,e2,rfl,hl2⟩:=Jl u38 q4;obtain⟨f3,l3,e3,rfl,hl3⟩:=Jl u23 q8;obtain⟨f4,l4,e4,rfl,hl4⟩:=Jl u23 q9;rw[n41]at c4;rw[n43]at c8 c9;obtain⟨v2,vs2,rfl,hsl2,hrl2⟩:=Zx c4;obtain⟨v3,vs3,rfl,hsl3,hrl3⟩:=Zx c8;obtain⟨v4,vs4,rfl,hsl4,hrl4⟩:=Zx c9;obtain⟨ex,hex,gex⟩:=qnf _ _ (zI _) _ _ q5 c5
  obtain⟨ix,hix,gix⟩:=qlo (fun xs cs h1 h2=>qnf _ _ (zI _) xs cs h1 h2) l2 vs2 hl2 hrl2
  obtain⟨tn,htn,gtn⟩:=qfw (fun xs cs h1 h2=>ih f3 (by omega) xs cs h1 h2) l3 vs3 hl3 hrl3
  obtain⟨el,hel,gel⟩:=qfw (fun xs cs h1 h2=>ih f4 (by omega) xs cs h1 h2) l4 vs4 hl4 hrl4
  rw[y9 c1,y9 c2,y9 c3,y9 c6,y9 c7];exact⟨.mk kd p nm ix ex lo hi tn el,by
   simp only[Fly.St_.Is];exact⟨v2,vs2,_,v3,vs3,v4,vs4,by simp,hsl2,hix,hex,hsl3,htn,hsl4,hel⟩,gix,gex,gq6,gq7,gtn,gel⟩
theorem qzi{f':Nat}{xs:List T}{cs:List Value}(h:Shp Tryz.prog f' 122 xs)(hr:RepA V xs cs):∃d:Fly.Dc,Fly.Dc.Is V d cs∧qtV d:=by
 obtain⟨f',parts,rfl,rfl,hp⟩:=Zw u54 h;obtain⟨css,rfl,hc⟩:=Za hr;cases hp with|cons q1 hp=>cases hp with|cons q2 hp=>cases hp with|cons q3 hp=>cases hp with|cons q4 hp=>cases hp with|cons q5 hp=>cases hp with|cons q6 hp=>cases hp with|cons q7 hp=>cases hp with|cons q8 hp=>cases hp with|nil=>
 cases hc with|cons c1 hc=>cases hc with|cons c2 hc=>cases hc with|cons c3 hc=>cases hc with|cons c4 hc=>cases hc with|cons c5 hc=>cases hc with|cons c6 hc=>cases hc with|cons c7 hc=>cases hc with|cons c8 hc=>cases hc with|nil=>
 obtain⟨at_,rfl,gq1⟩:=QF u3 q1;obtain⟨inp,rfl⟩:=qfv u4 q2;obtain⟨nm,rfl⟩:=qih u9 q3;obtain⟨ty,rfl,gq4⟩:=QF u52 q4;obtain⟨len,rfl,gq5⟩:=QF u3 q5;obtain⟨rng,rfl⟩:=qfv u4 q6;obtain⟨lo,hlo,glo⟩:=qnf _ _ (zI _) _ _ q7 c7
 obtain⟨hi,hhi,ghi⟩:=qnf _ _ (zI _) _ _ q8 c8
 rw[y9 c1,y9 c2,y9 c3,y9 c4,y9 c5,y9 c6];exact⟨⟨at_,inp,nm,ty,len,rng,lo,hi⟩,⟨_,_,by simp,hlo,hhi⟩,gq5,glo,ghi⟩
theorem qsJ{f':Nat}:∀(l:List T) (vs:List Value),(∀x∈l,Shp Tryz.prog f' 122 x.cells)→RepA V (l.flatMap T.cells) vs→∃az:List Fly.Dc,QA V az vs∧∀d∈az,qtV d
 | [],vs,_,h=>by cases h;exact⟨[],by simp[QA],fun _ h=>by cases h⟩
 | x::l,vs,hl,h=>by
  rw[Kx]at h;obtain⟨v1,v2,rfl,h1,h2⟩:=h.split;obtain⟨e,he,ge⟩:=qzi (hl x (zM ..)) h1
  obtain⟨az,ha,ga⟩:=qsJ l v2 (fun y hy=>hl y (zE _ hy)) h2
  exact⟨e::az,⟨v1,v2,rfl,he,ha⟩,fun d hd=>by rcases zK.1 hd with h|h;(·rw[h];exact ge);(·exact ga d h)⟩
theorem qzj{x:T}{v:Value}(h:qsG Tryz.prog 66 x)(hr:Rep V x v):∃(p:Fly.Pg) (cs:List Value),v = .agg cs.toArray∧Fly.Pg.Is V p cs∧qnY p:=by
 obtain⟨hg,fuel,hs⟩:=h;have:Qw Tryz.prog 66=true:=by kernel_rfl
 rw[this]at hg;cases hr with
 | agg hr hc=>
  rename_i l cs
  suffices h:∃p:Fly.Pg,Fly.Pg.Is V p cs∧qnY p by
   obtain⟨p,hp⟩:=h;exact⟨p,cs,rfl,hp⟩
  simp only[T.cells]at hs;obtain⟨f',parts,rfl,rfl,hp⟩:=Zw u25 hs;obtain⟨css,rfl,hc⟩:=Za hr;cases hp with|cons q1 hp=>cases hp with|cons q2 hp=>cases hp with|cons q3 hp=>cases hp with|cons q4 hp=>cases hp with|nil=>
  cases hc with|cons c1 hc=>cases hc with|cons c2 hc=>cases hc with|cons c3 hc=>cases hc with|cons c4 hc=>cases hc with|nil=>
  obtain⟨ticks,rfl,gq1⟩:=QF u3 q1;obtain⟨f2,l2,e2,rfl,hl2⟩:=Jl u22 q2;obtain⟨f3,l3,e3,rfl,hl3⟩:=Jl u23 q3;obtain⟨f4,l4,e4,rfl,hl4⟩:=Jl u23 q4;rw[n54]at c2;rw[n43]at c3 c4;obtain⟨v2,vs2,rfl,hsl2,hrl2⟩:=Zx c2;obtain⟨v3,vs3,rfl,hsl3,hrl3⟩:=Zx c3;obtain⟨v4,vs4,rfl,hsl4,hrl4⟩:=Zx c4;obtain⟨ds,hds,gds⟩:=qsJ l2 vs2 hl2 hrl2;obtain⟨ini,hin,gin⟩:=qfw (fun xs cs h1 h2=>qvU _ _ (zI _) xs cs h1 h2) l3 vs3 hl3 hrl3
  obtain⟨stp,hst,gst⟩:=qfw (fun xs cs h1 h2=>qvU _ _ (zI _) xs cs h1 h2) l4 vs4 hl4 hrl4
  rw[y9 c1];exact⟨⟨ticks,ds,ini,stp⟩,⟨v2,vs2,v3,vs3,v4,vs4,by simp,hsl2,hds,hsl3,hin,hsl4,hst⟩,gq1,gds,gin,gst⟩
 | s _=>simp[T.isAgg]at hg
 | sl _ _ _ _ _ _=>simp[T.isAgg]at hg
 | pt _ _ _=>simp[T.isAgg]at hg
 | fn _ _=>simp[T.isAgg]at hg
 | ql=>simp[T.isAgg]at hg
end
end Su
end
section
set_option maxRecDepth 10000
namespace Su
open Go Fly Go.Proofs
def qj7:List Int:=[1,10,100,1000,10000,100000,1000000,10000000,100000000,1000000000,10000000000,100000000000,1000000000000,10000000000000,100000000000000,1000000000000000,10000000000000000,100000000000000000,1000000000000000000,10000000000000000000]
theorem qj8{V:qc}:∀l:List Int,(∀n∈l,inR .u64 n=true)→RepA V (l.map fun n=>T.s (.int .u64 n)) (l.map (Value.int .u64 ·))
 | [],_=>.nil
 | n::l,h=>.cons (.s (show qhf (.int .u64 n)=true from h n zM)) (qj8 l fun m hm=>h m (zE _ hm))
theorem qx6:∀n∈qj7,inR .u64 n=true:=by
 have:(qj7.all (inR .u64 ·))=true:=by decide +kernel
 exact Ko.1 this
theorem gP10:Tryz.prog.globalNamed "internal/strconv.uint64pow10"=some 4:=by kernel_rfl
theorem tP10:(Tryz.prog.globals[4]?).map (·.type)=some 266:=by kernel_rfl
theorem uP10:Tryz.prog.underlying 266=some (.array 20 22):=by kernel_rfl
theorem uU64:Tryz.prog.underlying 22=some (.int .u64):=by kernel_rfl
theorem cU64:Tryz.prog.cellsOf 22=1:=by kernel_rfl
theorem cP10:Tryz.prog.cellsOf 266=20:=by kernel_rfl
theorem qoD{W:World}(h:W.ShapedOpen Tryz.prog):∃v e f,hv W 3=some (.cells #[v] e f)∧qwl 0 v=true:=by
 have h0:((begin Tryz.prog (fun _ _=>0) default).world.heap[3]?).bind Obj.row?=some (#[.int .i64 0],3):=by kernel_rfl
 obtain⟨cs,hh,hs,hr⟩:=h.1 3 #[.int .i64 0] 3 (KM (by kernel_rfl)) h0
 obtain⟨m,hm⟩:=cell_of_shapedOpen_int (zero:=#[.int .i64 0]) (t:=3) h (KM (by kernel_rfl)) h0 rfl (by kernel_rfl) (by kernel_rfl) Tryz.underlying3
 have h1:cs.size=1:=hs
 have hc:cs[0]?=some (.int .i64 m):=by
  have:W.cell? ⟨3,0,none⟩=cs[0]?:=by simp[World.cell?,hh]
  rw[← this];exact hm
 have e:cs = #[.int .i64 m]:=by
  apply Array.ext
  · simpa using h1
  · intro i g1 g2
    have:i=0:=by simp at g2;omega
    subst this;have:=(zX.1 hc).2
    simpa using this
 subst e;exact⟨_,_,_,hh,rfl⟩
theorem qx7{W:World}{cs:Array Value}(hv0:W.var? Tryz.prog "internal/strconv.uint64pow10"=some cs) (h:cs.toList=qj7.map (Value.int .u64 ·)) (hm:∃v e f,hv W 3=some (.cells #[v] e f)∧qwl 0 v=true):GOK tb (hv W):=by
 refine⟨?_,fun g c hc=>?_⟩
 rotate_left
 · have hc':(bif Nat.beq g 3 then some 0 else none)=some c:=hc
   obtain⟨h1,h2⟩:=qL hc';have:=soi h2;subst this
   obtain rfl:=zd h1
   exact hm
 intro g x hx;have hx':(bif Nat.beq g 4 then some gT4 else none)=some x:=hx
 obtain⟨h1,h2⟩:=qL hx';have hg:=zd h1;subst hg;have:=soi h2;subst this
 simp only[World.var?,gP10,zm]at hv0;split at hv0
 · rename_i c t fr hb
   cases hv0;have hV:hv W 4=some (.cells cs t fr):=hb
   have eT:gT4.cells=qj7.map fun n=>T.s (.int .u64 n):=by kernel_rfl
   have hl:cs.size=20:=by
    have:=congrArg List.length h
    rw[zV]at this;simpa[qj7]using this
   refine⟨Rep.pt (x:=gT4) (off:=0) (o:=0) (vs:=cs.toList) ?_ ?_ ?_,cs,t,fr,hV,?_⟩
   · rw[eT,h];exact qj8 _ qx6
   · intro y hy
     rw[eT]at hy;obtain⟨n,_,rfl⟩:=KJ.1 hy;rfl
   · intro j c hj
     refine⟨cs,t,fr,hV,?_⟩
     rw[zt,← hj];simp
   · rw[eT,zV,hl];rfl
 · cases hv0
theorem qu6{W:World}{enc:TypeId×Value→Unit}{sp:Nat→Bool}{hd:Bool}{cs:List Value}{fuel:Nat}{p:List MemPlace}
 (h:DataW.trod enc Tryz.prog W 0 sp hd fuel 266 cs=some (.agg (qj7.map fun n=>.lit (.int .u64 n)),p)):cs=qj7.map (Value.int .u64 ·):=by
 obtain⟨xs,m,rfl,hx,hcs,hn,hel⟩:=DataW.trod_array uP10 h;simp only[Km,DataW.agg.injEq]at hx;have hx1:=hx.1;rw[cP10]at hcs;refine WS fun i=>?_
 by_cases hi:i<20
 · have h1:=hel i hi
   rw[cU64,KK,zA (by omega)]at h1;obtain⟨n,e1,e2,_⟩:=DataW.trod_int uU64 h1;have hc:cs[i]?=some (.int .u64 n):=by
    have h2:=congrArg (fun l=>l[0]?) e1
    simp only[zZ,KZ]at h2;simpa using h2
   have hs:=congrArg (fun l=>l[i]?) hx1
   simp only[Ku]at hs;rw[zA (l:=xs) (by omega)]at hs;rw[hc,Ku];cases hp:qj7[i]? with
   | none=>rw[hp]at hs;simp at hs
   | some k=>
    rw[hp]at hs;simp[e2]at hs;simp[hs]
 · rw[Kk (by omega),Kk (by rw[zV];show 20≤i;omega)]
end Su
namespace Go.Proofs.YtldhknmacepeiaaGreatDoor
open Go Go.ChangeShapes Go.WideShapes Go.ChangeAt Go.RowKit Fly Su
set_option maxRecDepth 100000
theorem ownK:ownKnob Tryz.prog.godebug=none:=by kernel_rfl
theorem qzk:Tryz.prog.underlying 4=some .bool:=by kernel_rfl
theorem qsK:Tryz.prog.globalNamed "flyball/tree.signs"=some 0:=by kernel_rfl
theorem qx8:(Tryz.prog.globals[0]?).map (·.type)=some 225:=by kernel_rfl
theorem qx9:Tryz.prog.underlying 225=some (.array 12 9):=by kernel_rfl
theorem uStr:Tryz.prog.underlying 9=some .string:=by kernel_rfl
theorem cStr:Tryz.prog.cellsOf 9=1:=by kernel_rfl
theorem qj9{W:World}{enc:TypeId×Value→Unit}{sp:Nat→Bool}{hd:Bool}{cs:Array Value}{fuel:Nat}{p:List MemPlace}(hv0:W.var? Tryz.prog "flyball/tree.signs"=some cs)
 (h:DataW.trod enc Tryz.prog W 0 sp hd fuel 225 cs.toList=some (Rows.laid_flyball_tree_signs,p)):∀o:Int,yU o=true→rd (hv W) 0 (o-5).toNat (.string ⟨(ZC o).toArray⟩):=by
 obtain⟨xs,m,rfl,hx,_,hn,hel⟩:=DataW.trod_array qx9 h;simp only[Km]at hx;have hx1:=hx.1;simp only[Rows.laid_flyball_tree_signs,DataW.agg.injEq]at hx1;intro o ho;have ho2:5≤o∧o≤16:=by simpa[yU]using ho
 have hi:(o-5).toNat<12:=by omega
 have h1:=hel _ hi;rw[zA (by omega)]at h1;obtain⟨s,e1,e2,_⟩:=DataW.trod_string uStr h1;rw[cStr,KK]at e1;have hc:cs[(o-5).toNat]?=some (.string s):=by
  have h2:=congrArg (fun l=>l[0]?) e1
  simp only[zZ,KZ]at h2;simpa using h2
 have hs:(xs.map (·.1))[(o-5).toNat]?=some (.lit (.string s.data.toList)):=by
  rw[Ku,zA (by omega)];simp[e2]
 rw[← hx1]at hs;have hsig:s=⟨(ZC o).toArray⟩:=by
  have hcase:o=5∨o=6∨o=7∨o=8∨o=9∨o=10∨o=11∨o=12∨o=13∨o=14∨o=15∨o=16:=by omega
  obtain⟨⟨l⟩⟩:=s;rcases hcase with rfl|rfl|rfl|rfl|rfl|rfl|rfl|rfl|rfl|rfl|rfl|rfl <;>
  · simp at hs
    simp[ZC,← hs]
 subst hsig;have:=World.var?_cell qsK hv0 (o-5).toNat
 rw[hc]at this;have h3:=(qbn this).2
 exact h3
theorem qlp{W:World}(h:laidMetH Tryz.prog Rows.treePrintsRow.laid W)(hsh:W.ShapedOpen Tryz.prog):yt (hv W):=by
 rw[MakeChecks.laidMetH_plain _ _ _ (by kernel_rfl)]at h;obtain⟨ps,hL,_⟩:=h;obtain⟨g0,t0,cs0,f0,p0,q0,_,_,_,_,hL,_⟩:=hL;obtain⟨g1,t1,cs1,f1,p1,q1,_,_,_,_,hL,_⟩:=hL;obtain⟨g2,t2,cs2,f2,p2,q2,hg1,ht1,hv1,hd1,hL,_⟩:=hL;obtain⟨g3,t3,cs3,f3,p3,q3,_,_,_,_,hL,_⟩:=hL;obtain⟨g4,t4,cs4,f4,p4,q4,hg2,ht2,hv2,hd2,hL,_⟩:=hL;obtain rfl:=KV (gP10.symm.trans hg1)
 obtain rfl:=KV (tP10.symm.trans ht1)
 obtain rfl:=KV (qsK.symm.trans hg2)
 obtain rfl:=KV (qx8.symm.trans ht2)
 exact⟨qx7 hv1 (qu6 hd1) (qoD hsh),qj9 hv2 hd2⟩
noncomputable def qya:DataW Unit→Array Value
 | .agg l=>(l.map fun|.lit (.int k n)=>Value.int k n|_=>undef).toArray
 | _=>#[]
noncomputable def qvV(os:Os):World :=
 let w:=World.doorLaid Tryz.prog 77 os
 { w with heap:=w.heap.modify ((Tryz.prog.globalNamed "unicode/utf8.first").getD 0) fun
    | .cells _ t frozen=>.cells (qya Rows.laid_unicode_utf8_first) t frozen
    | o=>o }
theorem qsL(os:Os)(args:Array Value):laidMetH Tryz.prog Rows.treePrintsRow.laid ((qvV os).forCall (fun _ _=>0) ⟨#[],args,[]⟩).memory :=
 laidMetH_of_parts3 (fuel:=8) (laidMet_of_run' 8 (by kernel_rfl) (by kernel_rfl)) (by kernel_rfl) (by kernel_rfl)
end Go.Proofs.YtldhknmacepeiaaGreatDoor
end
