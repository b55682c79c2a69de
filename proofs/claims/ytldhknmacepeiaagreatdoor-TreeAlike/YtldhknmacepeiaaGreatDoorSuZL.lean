/-
  An evaluator of the program's functions over trees of values, proved sound. No condition.
-/
import Derived.Test.YtldhknmacepeiaaGreatDoorSuSd
import Derived.Test.YtldhknmacepeiaaGreatDoorTrZ
import Derived.Test.YtldhknmacepeiaaGreatDoorTrW
import Derived.Test.YtldhknmacepeiaaGreatDoorSuTb
import Derived.Test.YtldhknmacepeiaaGreatDoorTrK
import Derived.Test.YtldhknmacepeiaaGreatDoorCards
import Derived.LaidMore
import Derived.OpenShut
import Derived.Stop.Joined
import Derived.ChangeArms
import Derived.WalkKit
import Derived.ProofKit
import Derived.Shelf.Vars
set_option linter.unusedVariables false
set_option linter.unusedSimpArgs false
section
namespace Su
open Go Fly
noncomputable section
def dm{α β:Type}(d:Dec α)(tz:α→β)(fr:β→α)(h1:∀a,fr (tz a)=a)(h2:∀b,tz (fr b)=b):Dec β where
 enc b:=d.enc (fr b)
 dec l:=(d.dec l).bind fun a=>some (tz a)
 good b:=d.good (fr b)
 rep {xs b} h V vs hr:=by
  obtain⟨a,e1,e2⟩:=osm h;have:=soi e2;subst this
  rw[h1];exact d.rep e1 hr
 de b:=by rw[d.de,zk,h2]
 rng {b V vs} hr:=d.rng hr
structure RowD (u k:Nat) where
 d:Dec (U u)
 hv:∀a,view u a = .agg (d.enc a)
 hk:∀a,(d.enc a).length=k
 hn:∀a,((d.enc a).all fun x=>!x.isAgg)=true
section
variable {u k:Nat} (R:RowD u k)
end
end
end Su
end
section
namespace Su
open Go Fly
section
variable {P:Program}
def qgH(P:Program)(t:Nat):Option (List Nat):=match P.underlying t with
 | some (.struct fs)=>some (fs.toList.map (·.type))
 | _=>none
theorem qjC{α β γ:Type}{R:γ→β→Prop}{f:α→γ}:∀ {l:List α} {m:List β},All2 (fun a b=>R (f a) b) l m→All2 R (l.map f) m
 | _,_,.nil=>.nil
 | _,_,.cons h h'=>.cons h (qjC h')
end
end Su
end
section
namespace Su
open Go Fly Go.Proofs
section
variable {P:Program} {V:qa} {fuel t:Nat} {xs:List T}
theorem Zq{ts:List Nat}(hu:qgH P t=some ts)(h:Shp P fuel t xs):∃f' parts,fuel=f'+1∧xs=List.flatten parts∧All2 (Shp P f') ts parts:=by
 cases fuel with
 | zero=>exact absurd h (by simp[Shp])
 | succ fuel=>
  unfold qgH at hu;split at hu
  · rename_i fs hs
    simp only[za]at hu;subst hu;simp only[Shp,hs]at h;obtain⟨parts,h1,h2⟩:=h;exact⟨fuel,parts,rfl,h1,qjC (f:=fun f:Field=>f.type) h2⟩
  · simp at hu
theorem Qp{k:IntKind}(hu:P.underlying t=some (.int k))(h:Shp P fuel t xs):∃n,xs=[.s (.int k n)]∧inR k n=true:=by
 cases fuel with
 | zero=>exact absurd h (by simp[Shp])
 | succ fuel=>simp only[Shp,hu]at h;obtain⟨n,h,h'⟩:=h;exact⟨n,h,h'⟩
theorem qfd(hu:P.underlying t=some .bool)(h:Shp P fuel t xs):∃n,xs=[.s (.bool n)]:=by
 cases fuel with
 | zero=>exact absurd h (by simp[Shp])
 | succ fuel=>simp only[Shp,hu]at h;exact h
theorem qhR(hu:P.underlying t=some .string)(h:Shp P fuel t xs):∃n,xs=[.s (.string n)]:=by
 cases fuel with
 | zero=>exact absurd h (by simp[Shp])
 | succ fuel=>simp only[Shp,hu]at h;obtain⟨n,h,_⟩:=h;exact⟨n,h⟩
theorem Ja{e:Nat}(hu:P.underlying t=some (.slice e))(h:Shp P fuel t xs):∃f' l,fuel=f'+1∧xs=[.sl (P.cellsOf e) l]∧∀x∈l,Shp P f' e x.cells:=by
 cases fuel with
 | zero=>exact absurd h (by simp[Shp])
 | succ fuel=>simp only[Shp,hu]at h;obtain⟨l,h,_,h2⟩:=h;exact⟨fuel,l,rfl,h,fun x hx=>(h2 x hx).2⟩
theorem Y2:∀ {parts:List (List T)} {cs:List Value},RepA V parts.flatten cs→∃css,cs=List.flatten css∧All2 (RepA V) parts css
 | [],cs,h=>by cases h;exact⟨[],rfl,.nil⟩
 | p::parts,cs,h=>by
  rw[VF]at h;obtain⟨v1,v2,rfl,h1,h2⟩:=h.split;obtain⟨css,rfl,h3⟩:=Y2 h2;exact⟨v1::css,by rw[VF],.cons h1 h3⟩
theorem yR{v:Value}{cs:List Value}(h:RepA V [.s v] cs):cs=[v]:=by
 cases h with | cons h h'=>cases h' with | nil=>cases h with | s _=>rfl
theorem Zr{k:Nat}{l:List T}{cs:List Value}(h:RepA V [.sl k l] cs):∃v vs,cs=[v]∧Sl k V v vs∧RepA V (l.flatMap T.cells) vs:=by
 cases h with | cons h h'=>cases h' with | nil=>
 cases h with
 | @sl _ _ vs a cap h hc hw h1 h2 h3=>
  refine⟨_,vs,rfl,⟨a,l.length,cap,rfl,h1,h2,?_,?_⟩,h⟩
  · rw[← h.length]
    clear h h1 h2 h3 hc;induction l with
    | nil=>simp
    | cons x l ih=>rw[Ku,zg,ih fun y hy=>hw y (zD _ hy),hw x (zL ..),zm,zV];omega
  · rcases h3 with h3 | h3
    · left;rw[h3];rfl
    · exact .inr h3
end
section
variable {V:qa}
theorem u41:qgH Tryz.prog 78=some [76,3,4,21,23,9,75]:=by kernel_rfl
theorem u43:qgH Tryz.prog 80=some [74,3,9,75,78,21,21,64,64]:=by kernel_rfl
theorem u54:qgH Tryz.prog 122=some [3,4,9,120,3,4,78,78]:=by kernel_rfl
theorem u25:qgH Tryz.prog 66=some [3,63,64,64]:=by kernel_rfl
theorem u39:Tryz.prog.underlying 76=some (.int .u8):=by kernel_rfl
theorem u37:Tryz.prog.underlying 74=some (.int .u8):=by kernel_rfl
theorem u52:Tryz.prog.underlying 120=some (.int .u8):=by kernel_rfl
theorem u3:Tryz.prog.underlying 3=some (.int .i64):=by kernel_rfl
theorem u21:Tryz.prog.underlying 21=some (.int .i32):=by kernel_rfl
theorem u35:Tryz.prog.underlying 23=some (.int .u64):=by kernel_rfl
theorem u4:Tryz.prog.underlying 4=some .bool:=by kernel_rfl
theorem u9:Tryz.prog.underlying 9=some .string:=by kernel_rfl
theorem u38:Tryz.prog.underlying 75=some (.slice 78):=by kernel_rfl
theorem u22:Tryz.prog.underlying 63=some (.slice 122):=by kernel_rfl
theorem u23:Tryz.prog.underlying 64=some (.slice 80):=by kernel_rfl
theorem n41:Tryz.prog.cellsOf 78=7:=by kernel_rfl
theorem n43:Tryz.prog.cellsOf 80=15:=by kernel_rfl
theorem n54:Tryz.prog.cellsOf 122=20:=by kernel_rfl
theorem qkS{f':Nat}(ih:∀xs cs,Shp Tryz.prog f' 78 xs→RepA V xs cs→∃e:Fly.Ex,Fly.Ex.Is V e cs∧qkQ e):∀(l:List T) (vs:List Value),(∀x∈l,Shp Tryz.prog f' 78 x.cells)→RepA V (l.flatMap T.cells) vs→∃az:Fly.Exs,Fly.Exs.Is V az vs∧RngEs az
 | [],vs,_,h=>by cases h;exact⟨.nil,by simp[Fly.Exs.Is],trivial⟩
 | x::l,vs,hl,h=>by
  rw[Ku]at h;obtain⟨v1,v2,rfl,h1,h2⟩:=h.split;obtain⟨e,he,ge⟩:=ih _ _ (hl x (zL ..)) h1
  obtain⟨az,ha,ga⟩:=qkS ih l v2 (fun y hy=>hl y (zD _ hy)) h2
  exact⟨.cons e az,by simp only[Fly.Exs.Is];exact⟨v1,v2,rfl,he,ha⟩,ge,ga⟩
theorem qmH:∀(N fuel:Nat),fuel≤N→∀xs cs,Shp Tryz.prog fuel 78 xs→RepA V xs cs→∃e:Fly.Ex,Fly.Ex.Is V e cs∧qkQ e:=by
 intro N;induction N with
 | zero=>intro fuel hf xs cs h;have:fuel=0:=(by omega);subst this;exact absurd h (by simp[Shp])
 | succ N ih=>
  intro fuel hf xs cs h hr;obtain⟨f',parts,rfl,rfl,hp⟩:=Zq u41 h;obtain⟨css,rfl,hc⟩:=Y2 hr;cases hp with | cons q1 hp=>cases hp with | cons q2 hp=>cases hp with | cons q3 hp=>cases hp with | cons q4 hp=>cases hp with | cons q5 hp=>cases hp with | cons q6 hp=>cases hp with | cons q7 hp=>cases hp with | nil=>
  cases hc with | cons c1 hc=>cases hc with | cons c2 hc=>cases hc with | cons c3 hc=>cases hc with | cons c4 hc=>cases hc with | cons c5 hc=>cases hc with | cons c6 hc=>cases hc with | cons c7 hc=>cases hc with | nil=>
  obtain⟨op,rfl,gq1⟩:=Qp u39 q1;obtain⟨at_,rfl,gq2⟩:=Qp u3 q2;obtain⟨b,rfl⟩:=qfd u4 q3;obtain⟨i,rfl,gq4⟩:=Qp u21 q4;obtain⟨f,rfl,gq5⟩:=Qp u35 q5;obtain⟨nm,rfl⟩:=qhR u9 q6;obtain⟨f2,l,rfl,rfl,hl⟩:=Ja u38 q7;rw[n41]at c7;obtain⟨v,vs,rfl,hsl,hrl⟩:=Zr c7;obtain⟨az,ha,ga⟩:=qkS (fun xs cs h1 h2=>ih f2 (by omega) xs cs h1 h2) l vs hl hrl
  rw[yR c1,yR c2,yR c3,yR c4,yR c5,yR c6];exact⟨.mk op at_ b i f nm az,by simp only[Fly.Ex.Is];exact⟨v,vs,rfl,hsl,ha⟩,⟨gq4,gq5⟩,ga⟩
theorem qfe{f':Nat}(ih:∀xs cs,Shp Tryz.prog f' 80 xs→RepA V xs cs→∃e:Fly.St_,Fly.St_.Is V e cs∧qt4 e):∀(l:List T) (vs:List Value),(∀x∈l,Shp Tryz.prog f' 80 x.cells)→RepA V (l.flatMap T.cells) vs→∃az:Fly.Sts,Fly.Sts.Is V az vs∧RngSs az
 | [],vs,_,h=>by cases h;exact⟨.nil,by simp[Fly.Sts.Is],trivial⟩
 | x::l,vs,hl,h=>by
  rw[Ku]at h;obtain⟨v1,v2,rfl,h1,h2⟩:=h.split;obtain⟨e,he,ge⟩:=ih _ _ (hl x (zL ..)) h1
  obtain⟨az,ha,ga⟩:=qfe ih l v2 (fun y hy=>hl y (zD _ hy)) h2
  exact⟨.cons e az,by simp only[Fly.Sts.Is];exact⟨v1,v2,rfl,he,ha⟩,ge,ga⟩
theorem quZ:∀(N fuel:Nat),fuel≤N→∀xs cs,Shp Tryz.prog fuel 80 xs→RepA V xs cs→∃e:Fly.St_,Fly.St_.Is V e cs∧qt4 e:=by
 intro N;induction N with
 | zero=>intro fuel hf xs cs h;have:fuel=0:=(by omega);subst this;exact absurd h (by simp[Shp])
 | succ N ih=>
  intro fuel hf xs cs h hr;obtain⟨f',parts,rfl,rfl,hp⟩:=Zq u43 h;obtain⟨css,rfl,hc⟩:=Y2 hr;cases hp with | cons q1 hp=>cases hp with | cons q2 hp=>cases hp with | cons q3 hp=>cases hp with | cons q4 hp=>cases hp with | cons q5 hp=>cases hp with | cons q6 hp=>cases hp with | cons q7 hp=>cases hp with | cons q8 hp=>cases hp with | cons q9 hp=>cases hp with | nil=>
  cases hc with | cons c1 hc=>cases hc with | cons c2 hc=>cases hc with | cons c3 hc=>cases hc with | cons c4 hc=>cases hc with | cons c5 hc=>cases hc with | cons c6 hc=>cases hc with | cons c7 hc=>cases hc with | cons c8 hc=>cases hc with | cons c9 hc=>cases hc with | nil=>
  obtain⟨kd,rfl,gq1⟩:=Qp u37 q1;obtain⟨p,rfl,gq2⟩:=Qp u3 q2;obtain⟨nm,rfl⟩:=qhR u9 q3;obtain⟨lo,rfl,gq6⟩:=Qp u21 q6;obtain⟨hi,rfl,gq7⟩:=Qp u21 q7;obtain⟨f2,l2,e2,rfl,hl2⟩:=Ja u38 q4;obtain⟨f3,l3,e3,rfl,hl3⟩:=Ja u23 q8;obtain⟨f4,l4,e4,rfl,hl4⟩:=Ja u23 q9;rw[n41]at c4;rw[n43]at c8 c9;obtain⟨v2,vs2,rfl,hsl2,hrl2⟩:=Zr c4;obtain⟨v3,vs3,rfl,hsl3,hrl3⟩:=Zr c8;obtain⟨v4,vs4,rfl,hsl4,hrl4⟩:=Zr c9;obtain⟨ex,hex,gex⟩:=qmH _ _ (zJ _) _ _ q5 c5
  obtain⟨ix,hix,gix⟩:=qkS (fun xs cs h1 h2=>qmH _ _ (zJ _) xs cs h1 h2) l2 vs2 hl2 hrl2
  obtain⟨tn,htn,gtn⟩:=qfe (fun xs cs h1 h2=>ih f3 (by omega) xs cs h1 h2) l3 vs3 hl3 hrl3
  obtain⟨el,hel,gel⟩:=qfe (fun xs cs h1 h2=>ih f4 (by omega) xs cs h1 h2) l4 vs4 hl4 hrl4
  rw[yR c1,yR c2,yR c3,yR c6,yR c7];exact⟨.mk kd p nm ix ex lo hi tn el,by
   simp only[Fly.St_.Is];exact⟨v2,vs2,_,v3,vs3,v4,vs4,by simp,hsl2,hix,hex,hsl3,htn,hsl4,hel⟩,gix,gex,gq6,gq7,gtn,gel⟩
theorem qx3{f':Nat}{xs:List T}{cs:List Value}(h:Shp Tryz.prog f' 122 xs)(hr:RepA V xs cs):∃d:Fly.Dc,Fly.Dc.Is V d cs∧qwV d:=by
 obtain⟨f',parts,rfl,rfl,hp⟩:=Zq u54 h;obtain⟨css,rfl,hc⟩:=Y2 hr;cases hp with | cons q1 hp=>cases hp with | cons q2 hp=>cases hp with | cons q3 hp=>cases hp with | cons q4 hp=>cases hp with | cons q5 hp=>cases hp with | cons q6 hp=>cases hp with | cons q7 hp=>cases hp with | cons q8 hp=>cases hp with | nil=>
 cases hc with | cons c1 hc=>cases hc with | cons c2 hc=>cases hc with | cons c3 hc=>cases hc with | cons c4 hc=>cases hc with | cons c5 hc=>cases hc with | cons c6 hc=>cases hc with | cons c7 hc=>cases hc with | cons c8 hc=>cases hc with | nil=>
 obtain⟨at_,rfl,gq1⟩:=Qp u3 q1;obtain⟨inp,rfl⟩:=qfd u4 q2;obtain⟨nm,rfl⟩:=qhR u9 q3;obtain⟨ty,rfl,gq4⟩:=Qp u52 q4;obtain⟨len,rfl,gq5⟩:=Qp u3 q5;obtain⟨rng,rfl⟩:=qfd u4 q6;obtain⟨lo,hlo,glo⟩:=qmH _ _ (zJ _) _ _ q7 c7
 obtain⟨hi,hhi,ghi⟩:=qmH _ _ (zJ _) _ _ q8 c8
 rw[yR c1,yR c2,yR c3,yR c4,yR c5,yR c6];exact⟨⟨at_,inp,nm,ty,len,rng,lo,hi⟩,⟨_,_,by simp,hlo,hhi⟩,gq5,glo,ghi⟩
theorem qrY{f':Nat}:∀(l:List T) (vs:List Value),(∀x∈l,Shp Tryz.prog f' 122 x.cells)→RepA V (l.flatMap T.cells) vs→∃az:List Fly.Dc,QI V az vs∧∀d∈az,qwV d
 | [],vs,_,h=>by cases h;exact⟨[],by simp[QI],fun _ h=>by cases h⟩
 | x::l,vs,hl,h=>by
  rw[Ku]at h;obtain⟨v1,v2,rfl,h1,h2⟩:=h.split;obtain⟨e,he,ge⟩:=qx3 (hl x (zL ..)) h1
  obtain⟨az,ha,ga⟩:=qrY l v2 (fun y hy=>hl y (zD _ hy)) h2
  exact⟨e::az,⟨v1,v2,rfl,he,ha⟩,fun d hd=>by rcases zO.1 hd with h | h;(· rw[h];exact ge);(· exact ga d h)⟩
theorem qrZ{x:T}{v:Value}(h:qrV Tryz.prog 66 x)(hr:Rep V x v):∃(p:Fly.Pg) (cs:List Value),v = .agg cs.toArray∧Fly.Pg.Is V p cs∧qrS p:=by
 obtain⟨hg,fuel,hs⟩:=h;have:Qd Tryz.prog 66=true:=by kernel_rfl
 rw[this]at hg;cases hr with
 | agg hr hc=>
  rename_i l cs
  suffices h:∃p:Fly.Pg,Fly.Pg.Is V p cs∧qrS p by
   obtain⟨p,hp⟩:=h;exact⟨p,cs,rfl,hp⟩
  simp only[T.cells]at hs;obtain⟨f',parts,rfl,rfl,hp⟩:=Zq u25 hs;obtain⟨css,rfl,hc⟩:=Y2 hr;cases hp with | cons q1 hp=>cases hp with | cons q2 hp=>cases hp with | cons q3 hp=>cases hp with | cons q4 hp=>cases hp with | nil=>
  cases hc with | cons c1 hc=>cases hc with | cons c2 hc=>cases hc with | cons c3 hc=>cases hc with | cons c4 hc=>cases hc with | nil=>
  obtain⟨ticks,rfl,gq1⟩:=Qp u3 q1;obtain⟨f2,l2,e2,rfl,hl2⟩:=Ja u22 q2;obtain⟨f3,l3,e3,rfl,hl3⟩:=Ja u23 q3;obtain⟨f4,l4,e4,rfl,hl4⟩:=Ja u23 q4;rw[n54]at c2;rw[n43]at c3 c4;obtain⟨v2,vs2,rfl,hsl2,hrl2⟩:=Zr c2;obtain⟨v3,vs3,rfl,hsl3,hrl3⟩:=Zr c3;obtain⟨v4,vs4,rfl,hsl4,hrl4⟩:=Zr c4;obtain⟨ds,hds,gds⟩:=qrY l2 vs2 hl2 hrl2;obtain⟨ini,hin,gin⟩:=qfe (fun xs cs h1 h2=>quZ _ _ (zJ _) xs cs h1 h2) l3 vs3 hl3 hrl3
  obtain⟨stp,hst,gst⟩:=qfe (fun xs cs h1 h2=>quZ _ _ (zJ _) xs cs h1 h2) l4 vs4 hl4 hrl4
  rw[yR c1];exact⟨⟨ticks,ds,ini,stp⟩,⟨v2,vs2,v3,vs3,v4,vs4,by simp,hsl2,hds,hsl3,hin,hsl4,hst⟩,gq1,gds,gin,gst⟩
 | s _=>simp[T.isAgg]at hg
 | sl _ _ _ _ _ _=>simp[T.isAgg]at hg
 | pt _ _ _=>simp[T.isAgg]at hg
 | fn _ _=>simp[T.isAgg]at hg
 | ql=>simp[T.isAgg]at hg
end
end Su
end
section
set_option maxRecDepth 10000
namespace Su
open Go Fly Go.Proofs
def qjD:List Int:=[1,10,100,1000,10000,100000,1000000,10000000,100000000,1000000000,10000000000,100000000000,1000000000000,10000000000000,100000000000000,1000000000000000,10000000000000000,100000000000000000,1000000000000000000,10000000000000000000]
theorem qjE{V:qa}:∀l:List Int,(∀n∈l,inR .u64 n=true)→RepA V (l.map fun n=>T.s (.int .u64 n)) (l.map (Value.int .u64 ·))
 | [],_=>.nil
 | n::l,h=>.cons (.s (show qgS (.int .u64 n)=true from h n zL)) (qjE l fun m hm=>h m (zD _ hm))
theorem qwX:∀n∈qjD,inR .u64 n=true:=by
 have:(qjD.all (inR .u64 ·))=true:=by decide +kernel
 exact Ko.1 this
theorem gP10:Tryz.prog.globalNamed "internal/strconv.uint64pow10"=some 4:=by kernel_rfl
theorem tP10:(Tryz.prog.globals[4]?).map (·.type)=some 266:=by kernel_rfl
theorem uP10:Tryz.prog.underlying 266=some (.array 20 22):=by kernel_rfl
theorem uU64:Tryz.prog.underlying 22=some (.int .u64):=by kernel_rfl
theorem cU64:Tryz.prog.cellsOf 22=1:=by kernel_rfl
theorem cP10:Tryz.prog.cellsOf 266=20:=by kernel_rfl
theorem qnZ{W:World}(h:W.ShapedOpen Tryz.prog):∃v e f,hv W 3=some (.cells #[v] e f)∧qvj 0 v=true:=by
 have h0:((begin Tryz.prog (fun _ _=>0) default).world.heap[3]?).bind Obj.row?=some (#[.int .i64 0],3):=by kernel_rfl
 obtain⟨cs,hh,hs,hr⟩:=h.1 3 #[.int .i64 0] 3 (KS (by kernel_rfl)) h0
 obtain⟨m,hm⟩:=cell_of_shapedOpen_int (zero:=#[.int .i64 0]) (t:=3) h (KS (by kernel_rfl)) h0 rfl (by kernel_rfl) (by kernel_rfl) Tryz.underlying3
 have h1:cs.size=1:=hs
 have hc:cs[0]?=some (.int .i64 m):=by
  have:W.cell? ⟨3,0,none⟩=cs[0]?:=by simp[World.cell?,hh]
  rw[← this];exact hm
 have e:cs = #[.int .i64 m]:=by
  apply Array.ext
  · simpa using h1
  · intro i g1 g2
    have:i=0:=by simp at g2;omega
    subst this;have:=(zU.1 hc).2
    simpa using this
 subst e;exact⟨_,_,_,hh,rfl⟩
theorem qwY{W:World}{cs:Array Value}(hv0:W.var? Tryz.prog "internal/strconv.uint64pow10"=some cs) (h:cs.toList=qjD.map (Value.int .u64 ·)) (hm:∃v e f,hv W 3=some (.cells #[v] e f)∧qvj 0 v=true):GOK tb (hv W):=by
 refine⟨?_,fun g c hc=>?_⟩
 rotate_left
 · have hc':(bif Nat.beq g 3 then some 0 else none)=some c:=hc
   obtain⟨h1,h2⟩:=qI hc';have:=soi h2;subst this
   obtain rfl:=zb h1
   exact hm
 intro g x hx;have hx':(bif Nat.beq g 4 then some gT4 else none)=some x:=hx
 obtain⟨h1,h2⟩:=qI hx';have hg:=zb h1;subst hg;have:=soi h2;subst this
 simp only[World.var?,gP10,zk]at hv0;split at hv0
 · rename_i c t fr hb
   cases hv0;have hV:hv W 4=some (.cells cs t fr):=hb
   have eT:gT4.cells=qjD.map fun n=>T.s (.int .u64 n):=by kernel_rfl
   have hl:cs.size=20:=by
    have:=congrArg List.length h
    rw[zR]at this;simpa[qjD]using this
   refine⟨Rep.pt (x:=gT4) (off:=0) (o:=0) (vs:=cs.toList) ?_ ?_ ?_,cs,t,fr,hV,?_⟩
   · rw[eT,h];exact qjE _ qwX
   · intro y hy
     rw[eT]at hy;obtain⟨n,_,rfl⟩:=KH.1 hy;rfl
   · intro j c hj
     refine⟨cs,t,fr,hV,?_⟩
     rw[zr,← hj];simp
   · rw[eT,zR,hl];rfl
 · cases hv0
theorem quc{W:World}{enc:TypeId×Value→Unit}{sp:Nat→Bool}{hd:Bool}{cs:List Value}{fuel:Nat}{p:List MemPlace}
 (h:DataW.trod enc Tryz.prog W 0 sp hd fuel 266 cs=some (.agg (qjD.map fun n=>.lit (.int .u64 n)),p)):cs=qjD.map (Value.int .u64 ·):=by
 obtain⟨xs,m,rfl,hx,hcs,hn,hel⟩:=DataW.trod_array uP10 h;simp only[Kk,DataW.agg.injEq]at hx;have hx1:=hx.1;rw[cP10]at hcs;refine WK fun i=>?_
 by_cases hi:i<20
 · have h1:=hel i hi
   rw[cU64,KW,zB (by omega)]at h1;obtain⟨n,e1,e2,_⟩:=DataW.trod_int uU64 h1;have hc:cs[i]?=some (.int .u64 n):=by
    have h2:=congrArg (fun l=>l[0]?) e1
    simp only[zY,K4]at h2;simpa using h2
   have hs:=congrArg (fun l=>l[i]?) hx1
   simp only[Kr]at hs;rw[zB (l:=xs) (by omega)]at hs;rw[hc,Kr];cases hp:qjD[i]? with
   | none=>rw[hp]at hs;simp at hs
   | some k=>
    rw[hp]at hs;simp[e2]at hs;simp[hs]
 · rw[Ki (by omega),Ki (by rw[zR];show 20≤i;omega)]
end Su
namespace Go.Proofs.YtldhknmacepeiaaGreatDoor
open Go Go.ChangeShapes Go.WideShapes Go.ChangeAt Go.RowKit Fly Su
set_option maxRecDepth 100000
theorem ownK:ownKnob Tryz.prog.godebug=none:=by kernel_rfl
theorem qx4:Tryz.prog.underlying 4=some .bool:=by kernel_rfl
theorem qr0:Tryz.prog.globalNamed "flyball/tree.signs"=some 0:=by kernel_rfl
theorem qwZ:(Tryz.prog.globals[0]?).map (·.type)=some 225:=by kernel_rfl
theorem qw0:Tryz.prog.underlying 225=some (.array 12 9):=by kernel_rfl
theorem uStr:Tryz.prog.underlying 9=some .string:=by kernel_rfl
theorem cStr:Tryz.prog.cellsOf 9=1:=by kernel_rfl
theorem qjF{W:World}{enc:TypeId×Value→Unit}{sp:Nat→Bool}{hd:Bool}{cs:Array Value}{fuel:Nat}{p:List MemPlace}(hv0:W.var? Tryz.prog "flyball/tree.signs"=some cs)
 (h:DataW.trod enc Tryz.prog W 0 sp hd fuel 225 cs.toList=some (Rows.laid_flyball_tree_signs,p)):∀o:Int,JA o=true→rd (hv W) 0 (o-5).toNat (.string ⟨(qaJ o).toArray⟩):=by
 obtain⟨xs,m,rfl,hx,_,hn,hel⟩:=DataW.trod_array qw0 h;simp only[Kk]at hx;have hx1:=hx.1;simp only[Rows.laid_flyball_tree_signs,DataW.agg.injEq]at hx1;intro o ho;have ho2:5≤o∧o≤16:=by simpa[JA]using ho
 have hi:(o-5).toNat<12:=by omega
 have h1:=hel _ hi;rw[zB (by omega)]at h1;obtain⟨s,e1,e2,_⟩:=DataW.trod_string uStr h1;rw[cStr,KW]at e1;have hc:cs[(o-5).toNat]?=some (.string s):=by
  have h2:=congrArg (fun l=>l[0]?) e1
  simp only[zY,K4]at h2;simpa using h2
 have hs:(xs.map (·.1))[(o-5).toNat]?=some (.lit (.string s.data.toList)):=by
  rw[Kr,zB (by omega)];simp[e2]
 rw[← hx1]at hs;have hsig:s=⟨(qaJ o).toArray⟩:=by
  have hcase:o=5∨o=6∨o=7∨o=8∨o=9∨o=10∨o=11∨o=12∨o=13∨o=14∨o=15∨o=16:=by omega
  obtain⟨⟨l⟩⟩:=s;rcases hcase with rfl | rfl | rfl | rfl | rfl | rfl | rfl | rfl | rfl | rfl | rfl | rfl <;>
  · simp at hs
    simp[qaJ,← hs]
 subst hsig;have:=World.var?_cell qr0 hv0 (o-5).toNat
 rw[hc]at this;have h3:=(qbd this).2
 exact h3
theorem qkT{W:World}(h:laidMetH Tryz.prog Rows.treeAlikeRow.laid W)(hsh:W.ShapedOpen Tryz.prog):yl (hv W):=by
 rw[MakeChecks.laidMetH_plain _ _ _ (by kernel_rfl)]at h;obtain⟨ps,hL,_⟩:=h;obtain⟨g0,t0,cs0,f0,p0,q0,_,_,_,_,hL,_⟩:=hL;obtain⟨g1,t1,cs1,f1,p1,q1,_,_,_,_,hL,_⟩:=hL;obtain⟨g2,t2,cs2,f2,p2,q2,hg1,ht1,hv1,hd1,hL,_⟩:=hL;obtain⟨g3,t3,cs3,f3,p3,q3,_,_,_,_,hL,_⟩:=hL;obtain⟨g4,t4,cs4,f4,p4,q4,hg2,ht2,hv2,hd2,hL,_⟩:=hL;obtain rfl:=Vm (gP10.symm.trans hg1)
 obtain rfl:=Vm (tP10.symm.trans ht1)
 obtain rfl:=Vm (qr0.symm.trans hg2)
 obtain rfl:=Vm (qwZ.symm.trans ht2)
 exact⟨qwY hv1 (quc hd1) (qnZ hsh),qjF hv2 hd2⟩
noncomputable def qw1:DataW Unit→Array Value
 | .agg l=>(l.map fun | .lit (.int k n)=>Value.int k n | _=>undef).toArray
 | _=>#[]
noncomputable def qu0(os:Os):World :=
 let w:=World.doorLaid Tryz.prog 77 os
 { w with heap:=w.heap.modify ((Tryz.prog.globalNamed "unicode/utf8.first").getD 0) fun
    | .cells _ t frozen=>.cells (qw1 Rows.laid_unicode_utf8_first) t frozen
    | o=>o }
theorem qr1(os:Os)(args:Array Value):laidMetH Tryz.prog Rows.treeAlikeRow.laid ((qu0 os).forCall (fun _ _=>0) ⟨#[],args,[]⟩).memory :=
 laidMetH_of_parts3 (fuel:=8) (laidMet_of_run' 8 (by kernel_rfl) (by kernel_rfl)) (by kernel_rfl) (by kernel_rfl)
end Go.Proofs.YtldhknmacepeiaaGreatDoor
end
