/-
  The law and its row.
-/
import Derived.Test.YtldhknmacepeiaaGreatDoorHWd
import Derived.Test.YtldhknmacepeiaaGreatDoorNB05
import Derived.Test.YtldhknmacepeiaaGreatDoorNB09
import Derived.Test.YtldhknmacepeiaaGreatDoorSuTb
import Derived.Test.YtldhknmacepeiaaGreatDoorNB10
import Derived.Test.YtldhknmacepeiaaGreatDoorNC10
import Derived.Test.YtldhknmacepeiaaGreatDoorNT04
set_option linter.unusedVariables false
set_option linter.unusedSimpArgs false
set_option maxRecDepth 10000
section
namespace Go.Proofs.Sho
open Go Go.RowKit Go.Shelf Go.Proofs Fly Su
attribute [local go_sem] Oper.semAt_some
abbrev HX(V:qb)(w:World)(V':qb)(W:World):Prop:=Holds ⟨fun _=>False,w,V,fun _ _ _=>False⟩ V' [] W
theorem HX.trans{V V1 V2:qb}{w W W2:World}{G:Fly.Own}(h:HX V w V1 W)(k:Holds ⟨fun _=>False,W,V1,fun _ _ _=>False⟩ V2 G W2):HX V w V2 W2 :=
 ⟨h.ext.trans k.ext,k.view,(fun _ hp=>(Ko hp).elim),(fun _ hp=>(Ko hp).elim),.nil,h.sub.trans k.sub,fun r h1 h2=>by
   by_cases h3:V1 r=none
   · rcases k.newer r h3 h2 with h4 | h4
     · exact .inl (Ky h.ext.size h4)
     · exact h4.elim
   · exact h.newer r h1 h3⟩
theorem HX.drew{V V1:qb}{w W:World}(h:HX V w V1 W):HX V w V1 W.drew :=
 ⟨⟨h.ext.os,h.ext.tape,h.ext.output,h.ext.size,h.ext.block⟩,h.view,(fun _ hp=>(Ko hp).elim),(fun _ hp=>(Ko hp).elim),.nil,h.sub,h.newer⟩
theorem HX.add{V:qb}{w W:World}{B:Nat}{o:Obj}(hs:ZX V w)(hb:Below w.heap.size w W)(hB:w.heap.size≤B)(ho:W.heap[B]?=some o):HX V w (addV V B o) W:=by
 have hlt:∀r o,V r=some o→r<w.heap.size:=fun r o h=>(z6.1 (hs r o h)).1
 have hn:V B=none:=by
  cases h:V B with
  | none=>rfl
  | some o=>have:=hlt _ _ h;omega
 refine⟨⟨hb.os,hb.tape,hb.output,hb.size,fun k hk _=>hb.block k hk⟩,fun r u hr=>?_,(fun _ hp=>(Ko hp).elim),(fun _ hp=>(Ko hp).elim),.nil,Fly.Sub.addV hn,fun r h1 h2=>?_⟩
 · unfold addV at hr
   by_cases e:r=B
   · rw[zr e]at hr;subst e;rw[ho];exact hr
   · rw[zp e]at hr;exact(hb.block r (hlt _ _ hr)).trans (hs r u hr)
 · unfold addV at h2
   by_cases e:r=B
   · exact .inl (by show w.heap.size≤r;omega)
   · rw[zp e]at h2;exact absurd h1 h2
theorem qwe(r:Nat)(h:r<18446744073709551616):New (r:Int)=some (ofN r):=by
 have e1:IntKind.u32.wrap (r:Int)=((r % 4294967296:Nat):Int):=by rw[Su.wrap_u32];omega
 have e2:Int.fdiv (r:Int) (2^32)=((r / 4294967296:Nat):Int):=by
  have:=Y5 r 32;rwa [show(2:Nat)^32=4294967296 from rfl]at this
 have e3:IntKind.u32.wrap ((r / 4294967296:Nat):Int)=((r / 4294967296:Nat):Int):=Su.qj1 (by omega) (by omega)
 unfold New;rw[e1,e2,e3];simp only[qd,zg]
 congr 2;omega
theorem qkn{V:qb}{W:World}{v:Value}{a:List Int}(hgk:GOK Su.tb V)(hs:ZX V W)(hr:Rep V (.ql 1 1 a) v):Calls Tryz.prog 67 #[v] W fun e W'=>∃v' V',e = .returned v'∧HX V W V' W'∧Rep V' (.ql 1 1 (ofN (qd a))) v':=by
 have h:∀xs y,((d1 (cQ 1 1)).dec xs).bind qg2=some y→∀V vs,GOK Su.tb V→RepA V xs vs→ju Tryz.prog 67 vs.toArray V [] fun v V' _=>∃rvs,RepA V' ((d1 (cQ 1 1)).enc y) rvs∧v=Qq rvs:=qrn.2.1
 have h2:((d1 (cQ 1 1)).dec [T.ql 1 1 a]).bind qg2=some (ofN (qd a)):=by
  rw[show(d1 (cQ 1 1)).dec [T.ql 1 1 a]=some a from(d1 (cQ 1 1)).de a];rfl
 refine(h _ _ h2 V [v] hgk (.cons hr .nil) W hs (fun _ hp=>(Ko hp).elim) (fun _ hp=>(Ko hp).elim) .nil).mono ?_
 rintro e W' ⟨v',V',G',rfl,hh,rvs,m1,rfl⟩
 cases m1 with | cons k1 k2=>cases k2 with | nil=>
 exact⟨_,V',rfl,⟨⟨hh.ext.os,hh.ext.tape,hh.ext.output,hh.ext.size,fun k hk _=>hh.ext.block k hk (by simp[keys])⟩,hh.view,(fun _ hp=>(Ko hp).elim),(fun _ hp=>(Ko hp).elim),.nil,hh.sub,fun r h1 h2=>(hh.newer r h1 h2).imp id (fun hm=>by simp[keys]at hm)⟩,k1⟩
theorem qni{V:qb}{W:World}{r:Nat}(hgk:GOK Su.tb V)(hl:r<18446744073709551616)(hs:ZX V W):Calls Tryz.prog 22 #[.int .u64 (r:Int)] W fun e W'=>∃v' V',e = .returned v'∧HX V W V' W'∧Rep V' (.ql 1 1 (ofN r)) v':=by
 have h:∀xs y,((d1 (cI .u64)).dec xs).bind (fun a=>New a)=some y→∀V vs,GOK Su.tb V→RepA V xs vs→ju Tryz.prog 22 vs.toArray V [] fun v V' _=>∃rvs,RepA V' ((d1 (cQ 1 1)).enc y) rvs∧v=Qq rvs:=qxt.2.1
 have h2:((d1 (cI .u64)).dec [T.s (.int .u64 (r:Int))]).bind (fun a=>New a)=some (ofN r):=by
  rw[show(d1 (cI .u64)).dec [T.s (.int .u64 (r:Int))]=some (r:Int) from(d1 (cI .u64)).de (r:Int)];exact qwe r hl
 refine(h _ _ h2 V [.int .u64 (r:Int)] hgk (.cons (.s (by show inR .u64 (r:Int)=true;exact qgU.2 ⟨by omega,by omega⟩)) .nil) W hs (fun _ hp=>(Ko hp).elim) (fun _ hp=>(Ko hp).elim) .nil).mono ?_
 rintro e W' ⟨v',V',G',rfl,hh,rvs,m1,rfl⟩
 cases m1 with | cons k1 k2=>cases k2 with | nil=>
 exact⟨_,V',rfl,⟨⟨hh.ext.os,hh.ext.tape,hh.ext.output,hh.ext.size,fun k hk _=>hh.ext.block k hk (by simp[keys])⟩,hh.view,(fun _ hp=>(Ko hp).elim),(fun _ hp=>(Ko hp).elim),.nil,hh.sub,fun r h1 h2=>(hh.newer r h1 h2).imp id (fun hm=>by simp[keys]at hm)⟩,k1⟩
def wI(qs:List Nat):List Int:=qs.map fun z=>((z:Nat):Int)
theorem qf2(qs:List Nat):(wI qs).length=qs.length:=zx ..
theorem qzV(qs:List Nat):(List.map (α:=U 1) (view 1) (wI qs)).length=qs.length:=(zx (α:=U 1) ..).trans (qf2 qs)
theorem qbG:∀qs:List Nat,(List.map (α:=U 1) (view 1) (wI qs)).flatMap T.cells=qs.map fun z=>T.s (vW z)
 | []=>rfl
 | x::l=>by
  show T.s (vW x)::(List.map (α:=U 1) (view 1) (wI l)).flatMap T.cells=_
  rw[qbG l];rfl
theorem qrv:∀(qs:List Nat) (x:T),x∈List.map (α:=U 1) (view 1) (wI qs)→x.cells.length=1
 | [],x,h=>by cases h
 | y::l,x,h=>by
  rcases zN.1 (show x∈view 1 ((y:Nat):Int)::List.map (α:=U 1) (view 1) (wI l) from h)with rfl | h
  · rfl
  · exact qrv l x h
theorem qnj{V:qb}{B off:Nat}{qs:List Nat}{len cap:Nat}(h:∀(j:Nat) (c:Value),(qs.map vW)[j]?=some c→rd V B (off+j) c)(hqw:∀z∈qs,z<4294967296)(hql:qs.length=len)(hlen:len≤cap)(hcap:cap≤maxLen) :
 Rep V (.ql 1 1 (wI qs)) (.slice (some ⟨B,off,none⟩) len cap):=by
 have hw:∀l:List Nat,(∀z∈l,z<4294967296)→RepA V (l.map fun z=>T.s (vW z)) (l.map vW):=by
  intro l;induction l with
  | nil=>exact fun _=>.nil
  | cons x l ih=>
   intro hx;have hx0:=hx x (zE ..)
   exact .cons (.s (show inR .u32 (x:Int)=true from qdi.2 ⟨by omega,by omega⟩)) (ih fun z hz=>hx z (zq _ hz))
 have hl:=qzV qs;have h2:=Rep.sl (V:=V) (k:=1) (l:=List.map (α:=U 1) (view 1) (wI qs)) (vs:=qs.map vW) (a:=some ⟨B,off,none⟩) (cap:=cap) (by rw[qbG];exact hw qs hqw)
  (by rw[qbG];intro x hx;obtain⟨z,_,rfl⟩:=KZ.1 hx;rfl) (qrv qs) (by omega) hcap (.inr ⟨B,off,rfl,h⟩)
 rw[hl,hql]at h2;exact .ql h2
set_option maxRecDepth 100000 in
set_option maxHeartbeats 4000000 in
theorem qwf{V:qb}{w W:World}{B D b len cap rr:Nat}{sa:Option Addr}{qs:List Nat}{Q:Ending→World→Prop}{Kc:Act→World→Prop}(hgk:GOK Su.tb V)(hs:ZX V w)(hB:Below w.heap.size w W)(hBw:w.heap.size≤B)(hDB:B+5≤D)
 (g1:W.heap[B+1]?=some (Obj.cells (qs.map vW).toArray 105 (0,0))) (hql:qs.length=len) (hqw:∀z∈qs,z<4294967296) (hlen:len≤549755813888) (g2:W.heap[B+2]?=some (Obj.cells #[.slice (some ⟨B+1,0,none⟩) len len] 37 (0,0)))
 (g3:W.heap[B+3]?=some (Obj.cells #[.int .u64 (rr:Int)] 22 (0,0))) (hrr:rr<18446744073709551616) (hD:W.heap[D]?=some (.deferred (some [])))
 (hK:∀a w',Code.wpIn Fence.wide 3 Tryz.prog Code.ret (bodyPostM Fence.wide 3 Tryz.prog Tryz.f112 Q) a w'→Kc a w')
 (hQ:∀v1 v2 V1 V2 W2,HX V w V1 W2→Rep V1 (.ql 1 1 (ofN (qd (wI qs)))) v1→Rep V1 (.ql 1 1 (ofN rr)) v2→W2.heap[D]?=some (.deferred (some []))→V2=V1→Q (.returned (.tuple #[v1,v2])) (W2.putObj D (.deferred none))) :
 Code.wpIn Fence.wide 3 Tryz.prog qrd (Exit.then Kc (bodyPostM Fence.wide 3 Tryz.prog Tryz.f112 Q)) (qzS B D b sa len cap) W:=by
 have hx0:HX V w (addV V (B+1) (Obj.cells (qs.map vW).toArray 105 (0,0))) W:=HX.add hs hB (by omega) g1
 have hrep:Rep (addV V (B+1) (Obj.cells (qs.map vW).toArray 105 (0,0))) (.ql 1 1 (wI qs)) (.slice (some ⟨B+1,0,none⟩) len len):=qnj (fun j c hj=>⟨_,_,_,by unfold addV;rw[zr rfl],by rw[List.getElem?_toArray,zF];exact hj⟩) hqw hql (zw _) (by simp[maxLen];omega)
 obtain⟨V0,hV0⟩:∃V0,addV V (B+1) (Obj.cells (qs.map vW).toArray 105 (0,0))=V0:=⟨_,rfl⟩
 rw[hV0]at hx0 hrep;have c2:=Zm g2 (i:=0) rfl
 have c3:=Zm g3 (i:=0) rfl
 unfold qrd qzS;have hmx:Tryz.prog.follows .mixedOrders=true:=by kernel_rfl
 refine Code.wpIn_mono (Q:=Exit.then Kc (fun _ _ _=>False)) (fun e a w h=>by cases e <;> first | exact h | exact h.elim) ?_
 gi_region_with_o (first
  | (refine⟨trivial,?_⟩;gi_at_call 67;refine(callsIn_wide.2 (qkn (V:=V0) (W:=W.drew) (hgk.mono hx0.sub) hx0.view hrep)).mono ?_;rintro e w1 ⟨v1,V1,rfl,hx1,hr1⟩;have c3':=(hx1.ext.below.cell (p:=⟨B+3,0,none⟩) (z6.1 g3).1).trans c3)
  | (refine⟨trivial,?_⟩;gi_at_call 22;refine(callsIn_wide.2 (qni (V:=V1) (W:=w1) ((hgk.mono hx0.sub).mono hx1.sub) hrr hx1.view)).mono ?_;rintro e w2 ⟨v2,V2,rfl,hx2,hr2⟩))
 all_goals (
  refine hK _ _ ?_
  have hD1:w1.heap[D]?=some (.deferred (some [])):=(hx1.ext.block D (z6.1 hD).1 (fun h=>h)).trans hD
  have hD2:w2.heap[D]?=some (.deferred (some [])):=(hx2.ext.block D (z6.1 hD1).1 (fun h=>h)).trans hD1
  gi_wp2
  refine⟨by simp,.inl ⟨_,_,rfl,run_takeDeferred hD2,?_⟩⟩
  refine⟨_,results_tmp2 (t:=4) (u:=5) rfl _ _ _,hQ v1 v2 V2 V2 w2 ((hx0.drew.trans hx1).trans hx2) (Rep.mono hx2.sub hr1) hr2 hD2 rfl⟩)
theorem qB3{b:Nat}{len:Nat}(pre:List (Wo len)):∀z∈(sf b pre).2,z<4294967296:=by
 have:∀(l:List (Wo len)) (s:Nat×List Nat),(∀z∈s.2,z<4294967296)→∀z∈(l.foldl (stp b) s).2,z<4294967296:=by
  intro l;induction l with
  | nil=>exact fun s h=>h
  | cons x l ih=>
   refine fun s h=>ih _ fun z hz=>?_
   rcases V9 hz with hz | rfl
   · exact h z hz
   · exact Vf _ (by omega)
 exact this pre _ fun z hz=>by rw[(Va.1 hz).2];omega
theorem qzW(qs:List Nat)(j:Nat):nth (wI qs) j=((qs[j]?.getD 0:Nat):Int):=by
 unfold nth;have:(wI qs)[j]?=(qs[j]?).map fun z=>((z:Nat):Int):=KB ..
 rw[this];cases qs[j]? <;> rfl
theorem qzX(qs:List Nat)(j y:Nat):wI (qs.set j y)=List.set (wI qs) j ((y:Nat):Int):=WG ..
theorem qwg(zs:List Nat)(m:Nat)(h:m<zs.length):qd (wI (zs.drop m))=zs[m]?.getD 0+4294967296*qd (wI (zs.drop (m+1))):=by
 rw[zG h,zl h];show qd (((zs[m]:Nat):Int)::wI (zs.drop (m+1)))=_
 rw[qd,zg];rfl
theorem qlR{zs:List Nat}(hz:∀z∈zs,z<4294967296)(h0:0<zs.length){b:Nat}(hb:0<b):∀k,k≤zs.length →
 (sf b (YG hz h0 k)).1=qd (wI (zs.drop (zs.length-k))) % b∧qd (wI (sf b (YG hz h0 k)).2)=qd (wI (zs.drop (zs.length-k))) / b*4294967296^(zs.length-k)∧∀j,j<zs.length-k→(sf b (YG hz h0 k)).2[j]?.getD 0=0
 | 0,_=>by
  have e:sf b (YG hz h0 0)=(0,List.replicate zs.length 0):=rfl
  have ev:qd (wI ([]:List Nat))=0:=rfl
  have ez:wI (List.replicate zs.length 0)=List.replicate zs.length 0:=VM ..
  rw[e,We,List.drop_length,ev];refine⟨(Nat.zero_mod b).symm,?_,fun j hj=>?_⟩
  · show qd (wI (List.replicate zs.length 0))=_
    rw[ez,Yo,Nat.zero_div,K7]
  · show(List.replicate zs.length 0)[j]?.getD 0=0
    rw[Vg];split <;> rfl
 | k+1,hk=>by
  obtain⟨i1,i2,i3⟩:=qlR hz h0 hb k (by omega)
  obtain⟨m,hm⟩:∃m,m=zs.length-1-k:=⟨_,rfl⟩
  have e1:zs.length-k=m+1:=by omega
  have e2:zs.length-(k+1)=m:=by omega
  rw[e1]at i1 i2 i3;rw[e2,qfV,qhw];have hml:m<zs.length:=by omega
  have hq:=i3 m (by omega)
  have hlen:=qkm b (YG hz h0 k)
  have hlt:=qrc hb (YG hz h0 k)
  generalize sf b (YG hz h0 k)=s at *
  obtain⟨R,Q⟩:=s;simp only at i1 i2 i3 hq hlen hlt;have hx:=qbE hz m;have hA:=qwg zs m hml;simp only[← hm];show(R*4294967296+zs[m]?.getD 0) % b=_∧qd (wI (Q.set m ((R*4294967296+zs[m]?.getD 0) / b % 4294967296)))=_∧∀j,j<m→(Q.set m ((R*4294967296+zs[m]?.getD 0) / b % 4294967296))[j]?.getD 0=0
  generalize zs[m]?.getD 0=x at *
  generalize hA0:qd (wI (zs.drop (m+1)))=A at *
  rw[hA];have hdiv:=KG A b;have hr1:x+4294967296*A=b*(4294967296*(A / b))+(R*4294967296+x):=by
   rw[i1];generalize A / b=p at *
   generalize A % b=t at *
   rw[← hdiv];grind
  have hr1b:(R*4294967296+x) / b<4294967296:=by
   rw[Kw hb];have:=zu 4294967296 (show R+1≤b by omega)
   rw[zB 4294967296 b];omega
  rw[hr1];refine⟨?_,?_,fun j hj=>?_⟩
  · rw[Nat.mul_add_mod]
  · rw[Kf hr1b,Nat.mul_add_div hb,qzX]
    have hs:=Y4 (wI Q) m (((R*4294967296+x) / b:Nat):Int) (by rw[qf2];omega)
    rw[qzW,hq,zg,i2,zU]at hs;generalize (R*4294967296+x) / b=d at *
    generalize A / b=p at *
    generalize 4294967296^m=P at *
    have hs:qd (List.set (wI Q) m (d:Int))+P*0=p*(P*4294967296)+P*d:=hs
    rw[Vy,Ks]at hs;rw[hs];grind
  · rw[Kj (by omega)];exact i3 j (by omega)
theorem qzY{zs:List Nat}(hz:∀z∈zs,z<4294967296){b:Nat}(hb:0<b){ys:List (Wo zs.length)}(h:All hz ys):(sf b ys).1=qd (wI zs) % b∧qd (wI (sf b ys).2)=qd (wI zs) / b:=by
 rcases h with⟨rfl,h0⟩ | ⟨hl,rfl⟩
 · have:zs=[]:=KA h0
   subst this;exact⟨(Nat.zero_mod b).symm,(Nat.zero_div b).symm⟩
 · obtain⟨h1,h2,_⟩:=qlR hz hl hb zs.length (zw _)
   rw[Vz,KR]at h1 h2;rw[KS,K8]at h2;exact⟨h1,h2⟩
theorem qlS{V V':qb}:∀ {l:List T} {vs:List Value},(∀x∈l,∃v,x=T.s v)→RepA V l vs→RepA V' l vs
 | [],vs,_,h=>by cases h;exact .nil
 | x::l,vs,h,hr=>by
  cases hr with | cons h1 h2=>
  obtain⟨v,rfl⟩:=h x (zE ..)
  cases h1 with | s h1=>exact .cons (.s h1) (qlS (fun y hy=>h y (zq _ hy)) h2)
theorem qi3:∀(l:List (U 1)) (x:T),x∈(l.map (view 1)).flatMap T.cells→∃v,x=T.s v
 | [],x,h=>by cases h
 | y::l,x,h=>by
  rcases zN.1 (show x∈T.s (.int .u32 y)::(l.map (view 1)).flatMap T.cells from h)with rfl | h
  · exact⟨_,rfl⟩
  · exact qi3 l x h
def qf3(V:qb)(D:Nat):qb:=fun r=>if r=D then none else V r
theorem qi4{V:qb}{D:Nat}{l:List (U 1)}{v:Value}(hD:∀arr e fr,V D≠some (.cells arr e fr))(h:Rep V (.ql 1 1 l) v):Rep (qf3 V D) (.ql 1 1 l) v:=by
 cases h with | ql h=>
 cases h with | sl a1 a2 a3 a4 a5 a6=>
 refine .ql (.sl (qlS (qi3 l) a1) a2 a3 a4 a5 (a6.imp id ?_))
 rintro⟨b,off,e,h⟩
 refine⟨b,off,e,fun j c hj=>?_⟩
 obtain⟨arr,e,fr,h1,h2⟩:=h j c hj;refine⟨arr,e,fr,?_,h2⟩
 unfold qf3;rw[zp (fun e2=>by subst e2;exact hD _ _ _ h1)];exact h1
theorem qwh{a:List Int}(h:Wd a):wI (a.map Int.toNat)=a:=by
 induction a with
 | nil=>rfl
 | cons x l ih=>
  have hx:=h.head;show((x.toNat:Nat):Int)::wI (l.map Int.toNat)=_
  rw[ih h.tail];congr 1;omega
theorem short_fing{V:qb}{a:List Int}{b:Nat}{v:Value}(hgk:GOK Su.tb V)(ha:Wd a)(hb0:0<b)(hb1:b<4294967296)(hlen:a.length≤549755813888)(hr:Rep V (.ql 1 1 a) v) :
 ju Tryz.prog 112 #[v,.int .u32 (b:Int)] V [] fun v V' _=>∃rvs,RepA V' [.ql 1 1 (ofN (qd a / b)),.ql 1 1 (ofN (qd a % b))] rvs∧v=Qq rvs:=by
 intro w hs _ _ _;obtain⟨zs,hzs⟩:∃zs,a.map Int.toNat=zs:=⟨_,rfl⟩
 have hzl:zs.length=a.length:=by rw[← hzs,zx]
 have hz:∀z∈zs,z<4294967296:=by
  intro z hz;rw[← hzs]at hz;obtain⟨x,hx,rfl⟩:=KZ.1 hz;have:=ha x hx;omega
 have hwz:wI zs=a:=by rw[← hzs];exact qwh ha
 have hW:∃sa cap,v = .slice sa zs.length cap∧qfX w.heap.size w (.slice sa zs.length cap) zs:=by
  cases hr with | ql hr=>
  cases hr with | @sl _ _ vs ad cap a1 a2 a3 a4 a5 a6=>
  have hl:(List.map (α:=U 1) (view 1) a).length=zs.length:=by rw[hzl];exact zx ..
  refine⟨ad,cap,by rw[hl],?_⟩
  rcases a6 with a6 | ⟨b2,off,rfl,a6⟩
  · have:zs.length=0:=by rw[← hl,a6];rfl
    exact .inl ⟨KA this,ad,cap,by rw[this]⟩
  · by_cases h0:zs.length=0
    · exact .inl ⟨KA h0,_,cap,by rw[h0]⟩
    have hvs:vs=zs.map vW:=by
     have e:=qbG zs;rw[hwz]at e;rw[e]at a1;clear e a6 hl hzs hzl hwz h0;induction zs generalizing vs with
     | nil=>cases a1;rfl
     | cons x l ih=>
      cases a1 with | cons k1 k2=>
      cases k1 with | s k1=>
      rw[K5,ih (fun z hz2=>hz z (zq _ hz2)) k2]
    have hrd:∀j,j<zs.length→rd V b2 (off+j) (vW (zs[j]?.getD 0)):=fun j hj=>a6 j _ (by rw[hvs,KB,zl hj];rfl)
    refine .inr ⟨b2,off,cap,rfl,?_,fun j hj=>?_⟩
    · obtain⟨arr,e,fr,h1,_⟩:=hrd 0 (by omega)
      exact(z6.1 (hs _ _ h1)).1
    · obtain⟨arr,e,fr,h1,h2⟩:=hrd j hj
      exact Zm (hs _ _ h1) h2
 obtain⟨sa,cap,rfl,hI⟩:=hW;refine callsIn_wide.1 (qrf Fence.wide 3 trivial trivial trivial rfl (zw _) sa cap b hb0 hb1 zs hz (by omega) w hI ?_)
 intro D ys W Kc hK hD hA hInv hB hDh;have hlt:=qrc hb0 ys;obtain⟨m1,m2⟩:=qzY hz hb0 hA;rw[hwz]at m1 m2;refine qwf hgk hs hB (zw _) hD hInv.h1 (qkm b ys) (qB3 ys) (by omega) hInv.h2 hInv.h3 (by omega) hDh hK ?_
 rintro v1 v2 V1 V2 W2 hx r1 r2 hD2 _
 rw[m2]at r1;rw[m1]at r2;have hnD:∀arr e fr,V1 D≠some (.cells arr e fr):=fun arr e fr h=>by
  have:=hx.view D _ h
  rw[hD2]at this;cases this
 have hoth:∀r,r≠D→(W2.putObj D (.deferred none)).heap[r]?=W2.heap[r]?:=fun r hr=>World.putObj_heap_other hr
 refine⟨_,qf3 V1 D,[],rfl,⟨⟨hx.ext.os,hx.ext.tape,hx.ext.output,by have:=hx.ext.size;simpa using this,fun k hk _=>(hoth k (by have:k<w.heap.size:=hk;omega)).trans (hx.ext.block k hk (fun h=>h))⟩,
  fun r o hr=>?_,(fun _ hp=>(Ko hp).elim),(fun _ hp=>(Ko hp).elim),.nil,fun r o hr=>?_,fun r h1 h2=>?_⟩,[v1,v2],.cons (qi4 hnD r1) (.cons (qi4 hnD r2) .nil),rfl⟩
 · unfold qf3 at hr
   by_cases e:r=D
   · rw[zr e]at hr;cases hr
   · rw[zp e]at hr;exact(hoth r e).trans (hx.view r o hr)
 · have hlt2:r<w.heap.size:=(z6.1 (hs r o hr)).1
   unfold qf3;rw[zp (by omega)];exact hx.sub r o hr
 · unfold qf3 at h2
   by_cases e:r=D
   · rw[zr e]at h2;exact absurd rfl h2
   · rw[zp e]at h2
     exact(hx.newer r h1 h2).imp id False.elim
end Go.Proofs.Sho
end
section
namespace Fly
open Go Go.Proofs Su
set_option maxRecDepth 10000
noncomputable def tbN:Tabs Tryz.prog:=Su.qlL.sound.tb
section
variable {P:Program} {n:Nat} {X:Cx} {L:Lo} {V:qb} {G:Own} {Q:Value→qb→Own→Prop}
variable {ty:TypeId} {pos:String} {af:Array Edge} {gd:Option (Nat×Bool)} {ds:Option Tmp}
theorem qhx{t e:TypeId}{a:Option Addr}{len cap:Nat}(hu:P.underlying t=some (.slice e))(w:World):(Op.equal t (.slice a len cap) (.slice none 0 0)).run P w = .ok a.isNone w:=by
 show(Op.equalIn (9999+1) t (.slice a len cap) (.slice none 0 0)).run P w=_
 unfold Op.equalIn;rw[Sem.run_bind,Fly.run_underlying hu];cases a <;> rfl
theorem qeL{t u e:TypeId}{x y:Operand}{a:Option Addr}{len cap:Nat}(hx:ev L x=some (.slice a len cap))(hy:ev L y=some (.slice none 0 0))(hu:P.underlying t=some (.slice e))(k:Q (.bool a.isNone) V G) :
 Opr P n X L V G ⟨ds,.binOp .eql t x y u,ty,pos,af,gd⟩ Q:=qjq hx hy rfl (fun w=>by simp[eqGuard]) (qhx hu) k
end
attribute [local irreducible] WC WE WR Opr St Go.Calls qhC qjl qaH Rel ju qhX qjp Owe One qdt Go.CallsD
theorem qzZ{V:qb}{len cap:Nat}{Q:Value→qb→Own→Prop}(hQ:Q (.slice none 0 0) V []):ju Tryz.prog 157 #[.slice none len cap] V [] Q:=by
 refine q9 (args:=[_]) Tryz.func157 rfl Tryz.ntmps157 rfl ?_
 intro X w hM hb hw hV0 hR;dsimp only[Qb,Nat.zero_add,Nat.reduceAdd]
 (repeat' (first | refine jj ?_ | refine qz ?_ | refine jk ?_ | refine qT ?_ | refine qO ?_ | refine jb ?_ | refine jv ?_ | refine jc ?_ | refine qp ?_ | refine qo ?_ | refine qx rfl ?_ | refine qu ?_ | refine jr ?_ | ((first | refine qP rfl ?_ | refine jd ?_ | refine yg rfl rfl rfl ?_);(first | (refine qeL (e:=105) rfl rfl (by kernel_rfl) ?_) | refine qR rfl ?_ | refine qA rfl ?_ | refine qbK rfl rfl ?_ | refine YI rfl rfl ?_ | refine qbL rfl rfl ?_ | refine Z9 rfl rfl ?_ | refine Yd rfl rfl ?_ | refine qbM rfl rfl ?_ | refine qy rfl rfl ?_ | refine jw rfl ?_ | refine qF rfl rfl ?_ | refine qG rfl rfl ?_ | refine qaE rfl rfl (by omega) (by omega) ?_ | refine qV rfl rfl (by omega) (by omega) ?_ | refine qaF rfl rfl (by omega) (by omega) ?_ | refine Z6 rfl rfl ?_ | refine Z7 rfl rfl ?_ | refine Z8 rfl rfl ?_ | refine qk tbN rfl rfl ?_ | refine Qu tbN rfl rfl rfl ?_ | refine qbI rfl rfl ?_ | refine qe4 rfl rfl ?_ | refine qbJ rfl rfl ?_ | refine Q7 rfl rfl ?_ | refine qbN rfl rfl (by decide) ?_ | refine qbO rfl rfl (by decide) ?_ | refine qb0 rfl rfl ?_ | refine Yj rfl rfl ?_ | refine qaQ rfl rfl (by kernel_rfl) ?_ | refine YQ rfl rfl (by kernel_rfl) ?_ | refine qw tbN rfl rfl rfl ?_ | refine qbP rfl ?_ | refine Je tbN rfl rfl rfl ?_ | (apply qS tbN rfl rfl;(· (first | (refine At.own (?_);repeat (first | exact Has.here | refine Has.there ?_)) | exact At.seen (by assumption)));(· exact rfl)) | (apply qQ tbN rfl rfl;(· (first | (refine At.own (?_);repeat (first | exact Has.here | refine Has.there ?_)) | exact At.seen (by assumption)));(· exact rfl)) | (apply qH tbN rfl rfl rfl rfl rfl;(· (repeat (first | exact Upd.here | apply Upd.there)));(· exact rfl)) | (apply qJ tbN rfl rfl rfl rfl rfl;(· (repeat (first | exact Upd.here | apply Upd.there)));(· exact rfl)) | (apply qM tbN (by kernel_rfl) rfl (rfl:tbN.fo _ 0=_);(· (repeat (first | exact Fill.nil | (apply Fill.cons;(· exact rfl);(· exact rfl);(· exact rfl);(· exact rfl);(· exact rfl)))))) | (refine qU rfl ?_;intro b) | (refine qZ rfl rfl ?_;intro b) | (refine qL tbN rfl ?_;intro b) | (apply yd tbN;(· exact rfl);(· exact rfl);(· exact rfl);(· decide);(· (repeat (first | exact Cat.nil | (apply Cat.cons;(· exact rfl);(· exact rfl);(· exact rfl)) | exact App.nil | apply App.cons)));intro b))) | refine Qp rfl rfl rfl rfl ?_ | refine qD rfl ?_ | refine qE rfl ?_ | refine qhF rfl (fun _=>?_) (fun _=>?_) | refine qdu rfl (fun _=>?_) (fun _=>?_) | refine YJ rfl rfl (fun _=>?_) (fun _=>?_) | refine YK rfl rfl (fun _=>?_) (fun _=>?_) | refine qaR rfl (fun _=>?_) (fun _=>?_) | refine qdP rfl (fun _=>?_) (fun _=>?_) | refine JT rfl rfl (fun _=>?_) (fun _=>?_) | refine YR rfl rfl (fun _=>?_) (fun _=>?_)))
 exact jh hM hw hV0 hR [] (VD _) (qcS rfl rfl) hQ
theorem qz0{V:qb}{a:Addr}{cap:Nat}{Q:Value→qb→Own→Prop}(hQ:∀b,Q (.slice (some ⟨b,0,none⟩) 0 0) V [(b,.cells #[] 105 (0,0))]):ju Tryz.prog 157 #[.slice (some a) 0 cap] V [] Q:=by
 refine q9 (args:=[_]) Tryz.func157 rfl Tryz.ntmps157 rfl ?_
 intro X w hM hb hw hV0 hR;dsimp only[Qb,Nat.zero_add,Nat.reduceAdd]
 (repeat' (first | refine jj ?_ | refine qz ?_ | refine jk ?_ | refine qT ?_ | refine qO ?_ | refine jb ?_ | refine jv ?_ | refine jc ?_ | refine qp ?_ | refine qo ?_ | refine qx rfl ?_ | refine qu ?_ | refine jr ?_ | ((first | refine qP rfl ?_ | refine jd ?_ | refine yg rfl rfl rfl ?_);(first | (refine qeL (e:=105) rfl rfl (by kernel_rfl) ?_) | refine qR rfl ?_ | refine qA rfl ?_ | refine qbK rfl rfl ?_ | refine YI rfl rfl ?_ | refine qbL rfl rfl ?_ | refine Z9 rfl rfl ?_ | refine Yd rfl rfl ?_ | refine qbM rfl rfl ?_ | refine qy rfl rfl ?_ | refine jw rfl ?_ | refine qF rfl rfl ?_ | refine qG rfl rfl ?_ | refine qaE rfl rfl (by omega) (by omega) ?_ | refine qV rfl rfl (by omega) (by omega) ?_ | refine qaF rfl rfl (by omega) (by omega) ?_ | refine Z6 rfl rfl ?_ | refine Z7 rfl rfl ?_ | refine Z8 rfl rfl ?_ | refine qk tbN rfl rfl ?_ | refine Qu tbN rfl rfl rfl ?_ | refine qbI rfl rfl ?_ | refine qe4 rfl rfl ?_ | refine qbJ rfl rfl ?_ | refine Q7 rfl rfl ?_ | refine qbN rfl rfl (by decide) ?_ | refine qbO rfl rfl (by decide) ?_ | refine qb0 rfl rfl ?_ | refine Yj rfl rfl ?_ | refine qaQ rfl rfl (by kernel_rfl) ?_ | refine YQ rfl rfl (by kernel_rfl) ?_ | refine qw tbN rfl rfl rfl ?_ | refine qbP rfl ?_ | refine Je tbN rfl rfl rfl ?_ | (apply qS tbN rfl rfl;(· (first | (refine At.own (?_);repeat (first | exact Has.here | refine Has.there ?_)) | exact At.seen (by assumption)));(· exact rfl)) | (apply qQ tbN rfl rfl;(· (first | (refine At.own (?_);repeat (first | exact Has.here | refine Has.there ?_)) | exact At.seen (by assumption)));(· exact rfl)) | (apply qH tbN rfl rfl rfl rfl rfl;(· (repeat (first | exact Upd.here | apply Upd.there)));(· exact rfl)) | (apply qJ tbN rfl rfl rfl rfl rfl;(· (repeat (first | exact Upd.here | apply Upd.there)));(· exact rfl)) | (apply qM tbN (by kernel_rfl) rfl (rfl:tbN.fo _ 0=_);(· (repeat (first | exact Fill.nil | (apply Fill.cons;(· exact rfl);(· exact rfl);(· exact rfl);(· exact rfl);(· exact rfl)))))) | (refine qU rfl ?_;intro b) | (refine qZ rfl rfl ?_;intro b) | (refine qL tbN rfl ?_;intro b) | (apply yd tbN;(· exact rfl);(· exact rfl);(· exact rfl);(· decide);(· (repeat (first | exact Cat.nil | (apply Cat.cons;(· exact rfl);(· exact rfl);(· exact rfl)) | exact App.nil | apply App.cons)));intro b))) | refine Qp rfl rfl rfl rfl ?_ | refine qD rfl ?_ | refine qE rfl ?_ | refine qhF rfl (fun _=>?_) (fun _=>?_) | refine qdu rfl (fun _=>?_) (fun _=>?_) | refine YJ rfl rfl (fun _=>?_) (fun _=>?_) | refine YK rfl rfl (fun _=>?_) (fun _=>?_) | refine qaR rfl (fun _=>?_) (fun _=>?_) | refine qdP rfl (fun _=>?_) (fun _=>?_) | refine JT rfl rfl (fun _=>?_) (fun _=>?_) | refine YR rfl rfl (fun _=>?_) (fun _=>?_)))
 refine qP rfl (qaf (e:=105) (k:=1) tbN rfl rfl rfl (zw 0) ?_)
 (repeat' (first | refine jj ?_ | refine qz ?_ | refine jk ?_ | refine qT ?_ | refine qO ?_ | refine jb ?_ | refine jv ?_ | refine jc ?_ | refine qp ?_ | refine qo ?_ | refine qx rfl ?_ | refine qu ?_ | refine jr ?_ | ((first | refine qP rfl ?_ | refine jd ?_ | refine yg rfl rfl rfl ?_);(first | refine qR rfl ?_ | refine qA rfl ?_ | refine qbK rfl rfl ?_ | refine YI rfl rfl ?_ | refine qbL rfl rfl ?_ | refine Z9 rfl rfl ?_ | refine Yd rfl rfl ?_ | refine qbM rfl rfl ?_ | refine qy rfl rfl ?_ | refine jw rfl ?_ | refine qF rfl rfl ?_ | refine qG rfl rfl ?_ | refine qaE rfl rfl (by omega) (by omega) ?_ | refine qV rfl rfl (by omega) (by omega) ?_ | refine qaF rfl rfl (by omega) (by omega) ?_ | refine Z6 rfl rfl ?_ | refine Z7 rfl rfl ?_ | refine Z8 rfl rfl ?_ | refine qk tbN rfl rfl ?_ | refine Qu tbN rfl rfl rfl ?_ | refine qbI rfl rfl ?_ | refine qe4 rfl rfl ?_ | refine qbJ rfl rfl ?_ | refine Q7 rfl rfl ?_ | refine qbN rfl rfl (by decide) ?_ | refine qbO rfl rfl (by decide) ?_ | refine qb0 rfl rfl ?_ | refine Yj rfl rfl ?_ | refine qaQ rfl rfl (by kernel_rfl) ?_ | refine YQ rfl rfl (by kernel_rfl) ?_ | refine qw tbN rfl rfl rfl ?_ | refine qbP rfl ?_ | refine Je tbN rfl rfl rfl ?_ | (apply qS tbN rfl rfl;(· (first | (refine At.own (?_);repeat (first | exact Has.here | refine Has.there ?_)) | exact At.seen (by assumption)));(· exact rfl)) | (apply qQ tbN rfl rfl;(· (first | (refine At.own (?_);repeat (first | exact Has.here | refine Has.there ?_)) | exact At.seen (by assumption)));(· exact rfl)) | (apply qH tbN rfl rfl rfl rfl rfl;(· (repeat (first | exact Upd.here | apply Upd.there)));(· exact rfl)) | (apply qJ tbN rfl rfl rfl rfl rfl;(· (repeat (first | exact Upd.here | apply Upd.there)));(· exact rfl)) | (apply qM tbN (by kernel_rfl) rfl (rfl:tbN.fo _ 0=_);(· (repeat (first | exact Fill.nil | (apply Fill.cons;(· exact rfl);(· exact rfl);(· exact rfl);(· exact rfl);(· exact rfl)))))) | (refine qU rfl ?_;intro b) | (refine qZ rfl rfl ?_;intro b) | (refine qL tbN rfl ?_;intro b) | (apply yd tbN;(· exact rfl);(· exact rfl);(· exact rfl);(· decide);(· (repeat (first | exact Cat.nil | (apply Cat.cons;(· exact rfl);(· exact rfl);(· exact rfl)) | exact App.nil | apply App.cons)));intro b))) | refine Qp rfl rfl rfl rfl ?_ | refine qD rfl ?_ | refine qE rfl ?_ | refine qhF rfl (fun _=>?_) (fun _=>?_) | refine qdu rfl (fun _=>?_) (fun _=>?_) | refine YJ rfl rfl (fun _=>?_) (fun _=>?_) | refine YK rfl rfl (fun _=>?_) (fun _=>?_) | refine qaR rfl (fun _=>?_) (fun _=>?_) | refine qdP rfl (fun _=>?_) (fun _=>?_) | refine JT rfl rfl (fun _=>?_) (fun _=>?_) | refine YR rfl rfl (fun _=>?_) (fun _=>?_)))
 exact jh hM hw hV0 hR [(b,.cells #[] 105 (0,0))] (VD _) (qcS rfl rfl) (hQ b)
theorem qz1{V:qb}{bb off len cap:Nat}{news:List Value}{Q:Value→qb→Own→Prop}(hn:news.length=len*1)(h1:∀u∈news,u.oneCell'=true)(hr:∀(j:Nat) (u:Value),news[j]?=some u→rd V bb (off+j) u)(h0:0<len)(hl:len≤549755813888)
 (hQ:∀v' Gr',RowC 105 1 v' Gr' len news→Q v' V Gr'):ju Tryz.prog 157 #[.slice (some ⟨bb,off,none⟩) len cap] V [] Q:=by
 refine q9 (args:=[_]) Tryz.func157 rfl Tryz.ntmps157 rfl ?_
 intro X w hM hb hw hV0 hR;dsimp only[Qb,Nat.zero_add,Nat.reduceAdd]
 (repeat' (first | refine jj ?_ | refine qz ?_ | refine jk ?_ | refine qT ?_ | refine qO ?_ | refine jb ?_ | refine jv ?_ | refine jc ?_ | refine qp ?_ | refine qo ?_ | refine qx rfl ?_ | refine qu ?_ | refine jr ?_ | ((first | refine qP rfl ?_ | refine jd ?_ | refine yg rfl rfl rfl ?_);(first | (refine qeL (e:=105) rfl rfl (by kernel_rfl) ?_) | refine qR rfl ?_ | refine qA rfl ?_ | refine qbK rfl rfl ?_ | refine YI rfl rfl ?_ | refine qbL rfl rfl ?_ | refine Z9 rfl rfl ?_ | refine Yd rfl rfl ?_ | refine qbM rfl rfl ?_ | refine qy rfl rfl ?_ | refine jw rfl ?_ | refine qF rfl rfl ?_ | refine qG rfl rfl ?_ | refine qaE rfl rfl (by omega) (by omega) ?_ | refine qV rfl rfl (by omega) (by omega) ?_ | refine qaF rfl rfl (by omega) (by omega) ?_ | refine Z6 rfl rfl ?_ | refine Z7 rfl rfl ?_ | refine Z8 rfl rfl ?_ | refine qk tbN rfl rfl ?_ | refine Qu tbN rfl rfl rfl ?_ | refine qbI rfl rfl ?_ | refine qe4 rfl rfl ?_ | refine qbJ rfl rfl ?_ | refine Q7 rfl rfl ?_ | refine qbN rfl rfl (by decide) ?_ | refine qbO rfl rfl (by decide) ?_ | refine qb0 rfl rfl ?_ | refine Yj rfl rfl ?_ | refine qaQ rfl rfl (by kernel_rfl) ?_ | refine YQ rfl rfl (by kernel_rfl) ?_ | refine qw tbN rfl rfl rfl ?_ | refine qbP rfl ?_ | refine Je tbN rfl rfl rfl ?_ | (apply qS tbN rfl rfl;(· (first | (refine At.own (?_);repeat (first | exact Has.here | refine Has.there ?_)) | exact At.seen (by assumption)));(· exact rfl)) | (apply qQ tbN rfl rfl;(· (first | (refine At.own (?_);repeat (first | exact Has.here | refine Has.there ?_)) | exact At.seen (by assumption)));(· exact rfl)) | (apply qH tbN rfl rfl rfl rfl rfl;(· (repeat (first | exact Upd.here | apply Upd.there)));(· exact rfl)) | (apply qJ tbN rfl rfl rfl rfl rfl;(· (repeat (first | exact Upd.here | apply Upd.there)));(· exact rfl)) | (apply qM tbN (by kernel_rfl) rfl (rfl:tbN.fo _ 0=_);(· (repeat (first | exact Fill.nil | (apply Fill.cons;(· exact rfl);(· exact rfl);(· exact rfl);(· exact rfl);(· exact rfl)))))) | (refine qU rfl ?_;intro b) | (refine qZ rfl rfl ?_;intro b) | (refine qL tbN rfl ?_;intro b) | (apply yd tbN;(· exact rfl);(· exact rfl);(· exact rfl);(· decide);(· (repeat (first | exact Cat.nil | (apply Cat.cons;(· exact rfl);(· exact rfl);(· exact rfl)) | exact App.nil | apply App.cons)));intro b))) | refine Qp rfl rfl rfl rfl ?_ | refine qD rfl ?_ | refine qE rfl ?_ | refine qhF rfl (fun _=>?_) (fun _=>?_) | refine qdu rfl (fun _=>?_) (fun _=>?_) | refine YJ rfl rfl (fun _=>?_) (fun _=>?_) | refine YK rfl rfl (fun _=>?_) (fun _=>?_) | refine qaR rfl (fun _=>?_) (fun _=>?_) | refine qdP rfl (fun _=>?_) (fun _=>?_) | refine JT rfl rfl (fun _=>?_) (fun _=>?_) | refine YR rfl rfl (fun _=>?_) (fun _=>?_)))
 refine qP rfl (qag (e:=105) (k:=1) (m:=0) (z:=[.int .u32 0]) (Gr:=[(b,.cells #[] 105 (0,0))]) (G1:=[]) (xs:=[]) (news:=news) tbN rfl rfl rfl (zm (by kernel_rfl)) rfl rfl (fun w hw j u hj=>?_) hn h1 (RowC.some (g:=b) (cur:=#[]) (zw 0) (zw 0) (by simp[maxLen]) rfl rfl) (zI _) h0 (by omega) fun v' Gr' hR'=>?_)
 · obtain⟨arr,e,f0,q1,q2⟩:=hr j u hj
   rw[Qc,yz (hw.view _ _ q1)];exact q2
 · (repeat' (first | refine jj ?_ | refine qz ?_ | refine jk ?_ | refine qT ?_ | refine qO ?_ | refine jb ?_ | refine jv ?_ | refine jc ?_ | refine qp ?_ | refine qo ?_ | refine qx rfl ?_ | refine qu ?_ | refine jr ?_ | ((first | refine qP rfl ?_ | refine jd ?_ | refine yg rfl rfl rfl ?_);(first | refine qR rfl ?_ | refine qA rfl ?_ | refine qbK rfl rfl ?_ | refine YI rfl rfl ?_ | refine qbL rfl rfl ?_ | refine Z9 rfl rfl ?_ | refine Yd rfl rfl ?_ | refine qbM rfl rfl ?_ | refine qy rfl rfl ?_ | refine jw rfl ?_ | refine qF rfl rfl ?_ | refine qG rfl rfl ?_ | refine qaE rfl rfl (by omega) (by omega) ?_ | refine qV rfl rfl (by omega) (by omega) ?_ | refine qaF rfl rfl (by omega) (by omega) ?_ | refine Z6 rfl rfl ?_ | refine Z7 rfl rfl ?_ | refine Z8 rfl rfl ?_ | refine qk tbN rfl rfl ?_ | refine Qu tbN rfl rfl rfl ?_ | refine qbI rfl rfl ?_ | refine qe4 rfl rfl ?_ | refine qbJ rfl rfl ?_ | refine Q7 rfl rfl ?_ | refine qbN rfl rfl (by decide) ?_ | refine qbO rfl rfl (by decide) ?_ | refine qb0 rfl rfl ?_ | refine Yj rfl rfl ?_ | refine qaQ rfl rfl (by kernel_rfl) ?_ | refine YQ rfl rfl (by kernel_rfl) ?_ | refine qw tbN rfl rfl rfl ?_ | refine qbP rfl ?_ | refine Je tbN rfl rfl rfl ?_ | (apply qS tbN rfl rfl;(· (first | (refine At.own (?_);repeat (first | exact Has.here | refine Has.there ?_)) | exact At.seen (by assumption)));(· exact rfl)) | (apply qQ tbN rfl rfl;(· (first | (refine At.own (?_);repeat (first | exact Has.here | refine Has.there ?_)) | exact At.seen (by assumption)));(· exact rfl)) | (apply qH tbN rfl rfl rfl rfl rfl;(· (repeat (first | exact Upd.here | apply Upd.there)));(· exact rfl)) | (apply qJ tbN rfl rfl rfl rfl rfl;(· (repeat (first | exact Upd.here | apply Upd.there)));(· exact rfl)) | (apply qM tbN (by kernel_rfl) rfl (rfl:tbN.fo _ 0=_);(· (repeat (first | exact Fill.nil | (apply Fill.cons;(· exact rfl);(· exact rfl);(· exact rfl);(· exact rfl);(· exact rfl)))))) | (refine qU rfl ?_;intro b) | (refine qZ rfl rfl ?_;intro b) | (refine qL tbN rfl ?_;intro b) | (apply yd tbN;(· exact rfl);(· exact rfl);(· exact rfl);(· decide);(· (repeat (first | exact Cat.nil | (apply Cat.cons;(· exact rfl);(· exact rfl);(· exact rfl)) | exact App.nil | apply App.cons)));intro b))) | refine Qp rfl rfl rfl rfl ?_ | refine qD rfl ?_ | refine qE rfl ?_ | refine qhF rfl (fun _=>?_) (fun _=>?_) | refine qdu rfl (fun _=>?_) (fun _=>?_) | refine YJ rfl rfl (fun _=>?_) (fun _=>?_) | refine YK rfl rfl (fun _=>?_) (fun _=>?_) | refine qaR rfl (fun _=>?_) (fun _=>?_) | refine qdP rfl (fun _=>?_) (fun _=>?_) | refine JT rfl rfl (fun _=>?_) (fun _=>?_) | refine YR rfl rfl (fun _=>?_) (fun _=>?_)))
   rw[KV];refine jh hM hw hV0 hR Gr' (VD _) (qcS rfl rfl) (hQ _ _ ?_)
   rw[zF,zK]at hR';exact hR'
end Fly
namespace Su
open Go Go.Proofs Fly
theorem qko(l:List T):sub l 0 l.length=some l:=JD l
theorem qhy{P:Program}{f:Nat}{V:qb}{vs:List Value}{l:List T}{e w:Nat}
 (h:ju P f vs.toArray V [] fun v V' G'=>∃ie,RepOB V' [ie] (.row false e w l) ie G'∧RepS V' [ie] (.osl 0 0 l.length) v):ju P f vs.toArray V [] fun v V' _=>∃rvs,RepA V' [.sl w l] rvs∧v=Qq rvs:=by
 intro w0 hs hG hV hnd;refine(h w0 hs hG hV hnd).mono ?_
 rintro ex w' ⟨v,V',G',rfl,hh,ie,m1,m2⟩
 have hsub:sub l 0 l.length=some l:=qko l
 have hz:toTs 64 ⟨[],[],[.row false e w l]⟩ [.osl 0 0 l.length]=some ([.sl w l],(St.mk [] [] [.row false e w l]).frow 0 w l):=by
  simp only[toTs,toT,VS,hsub,zd]
 obtain⟨V2,G2,g2,s2,r2,_⟩:=(Qj (I:=[ie]) (L:=[]) 64).2 ⟨[],[],[.row false e w l]⟩ _ [.osl 0 0 l.length] _ hz V' G' [v] (.cons m2 .nil) ⟨⟨G'++[],.cons m1 .nil,by rw[KV]⟩,fun d sv hd _=>by simp[St.look]at hd⟩ ⟨fun p hp=>(hh.free p (by simp[hp])).2,by have:=hh.nodup;simpa using this⟩
 exact⟨_,V2,G2,rfl,g2.holds _ _ hh,[v],r2,rfl⟩
noncomputable def qrw:PrimD:=⟨List Int,fun xs=>((d1 (cQ 1 1)).dec xs).bind fun l=>bif qmR l then some l else none,fun l=>[.sl 1 (l.map eW)],none,some (105,1),fun _=>none⟩
theorem qkp{V:qb}{v:Value}{l:List T}(hl:l.length≤549755813888)(h:Rep V (.sl 1 l) v) :
 ju Tryz.prog 157 #[v] V [] fun v' V' G'=>∃ie,RepOB V' [ie] (.row false 105 1 l) ie G'∧RepS V' [ie] (.osl 0 0 l.length) v':=by
 cases h with | @sl _ _ vs a cap a1 a2 a3 a4 a5 a6=>
 have hn:vs.length=l.length*1:=by rw[← a1.length,Qg a3]
 by_cases h0:l=[]
 · subst h0
   cases a with
   | none=>exact qzZ ⟨.vrow,.vrow,.oslv rfl⟩
   | some a=>exact qz0 fun b=>⟨.row b 1 0,.row (by simp) (by simp[maxLen]) (by simp) (by simpa using RepA.nil) (by simp) (by simp),by
    have:=RepS.osl (V:=V) (I:=[IE.row b 1 0]) (n:=0) (off:=0) (len:=0) (b:=b) (k:=1) (ct:=0) (cap:=0) rfl (by omega) (by simp[maxLen]) ⟨by simp,by simp⟩
    simpa using this⟩
 · have hpos:0<l.length:=List.length_pos_iff.2 h0
   rcases a6 with a6 | ⟨b,off,rfl,a6⟩
   · exact absurd a6 h0
   · refine qz1 hn (QL a1 a2) a6 hpos hl fun v' Gr' hR=>?_
     obtain⟨b',ct,cap,rfl,b1,b2,b3⟩:=qoy (V:=V) (I:=[.row 0 0 0]) (l:=l) hR hpos rfl a1 a2 a3
     refine⟨.row b' 1 ct,b3.row_any,?_⟩
     have:=RepS.osl (V:=V) (I:=[IE.row b' 1 ct]) (n:=0) (off:=0) (len:=l.length) (b:=b') (k:=1) (ct:=ct) (cap:=cap) rfl (by omega) b2 ⟨b1.1,by omega⟩
     rw[K7]at this;exact this
theorem qi5(xs:List T)(y:List Int)(h:((d1 (cQ 1 1)).dec xs).bind (fun l=>bif qmR l then some l else none)=some y)(V:qb)(vs:List Value)(hr:RepA V xs vs) :
 ju Tryz.prog 157 vs.toArray V [] fun v V' G'=>∃ie,RepOB V' [ie] (.row false 105 1 (y.map eW)) ie G'∧RepS V' [ie] (.osl 0 0 (y.map eW).length) v:=by
 obtain⟨l,h1,h2⟩:=osm h;obtain⟨h3,h4⟩:=qi h2;have:=soi h4;subst this
 have hr2:=(d1 (cQ 1 1)).rep h1 hr
 cases hr2 with | cons k1 k2=>cases k2 with | nil=>
 cases k1 with | ql k1=>
 exact qkp (l:=l.map eW) (by have h5:(l.map (view 1)).length=l.length:=zx ..;rw[show(List.map eW l).length=l.length from h5];exact zm h3) k1
theorem qrx:OkT 157 qrw:=by
 refine⟨by kernel_rfl,fun xs y h V vs _ hr=>qhy (qi5 xs y h V vs hr),fun j hj xs y h V vs _ hr=>?_⟩
 have hj:some ((105,1):Nat×Nat)=some j:=hj
 simp only[zb]at hj;subst hj;intro w0 a1 a2 a3 a4;refine(qi5 xs y h V vs hr w0 a1 a2 a3 a4).mono ?_
 rintro e w' ⟨v,V',G',rfl,hh,ie,m1,m2⟩
 refine⟨v,V',G',rfl,hh,fun w l he hw=>?_⟩
 have he:[T.sl 1 (y.map eW)]=[.sl w l]:=he
 simp only[WD,T.sl.injEq,and_true]at he;obtain⟨rfl,rfl⟩:=he;exact⟨ie,m1,m2⟩
end Su
end
section
namespace Su
noncomputable section
open Go Go.Proofs Fly
def qlT:PrimD:=prim (dc (cQ 1 1) (d1 (cI .u32))) (dc (cQ 1 1) (d1 (cQ 1 1))) qbe
theorem qwi:OkT 112 qlT:=by
 refine⟨by kernel_rfl,fun xs y h V vs hgk hr=>?_,fun j hj=>nomatch hj⟩
 obtain⟨p,h1,h2⟩:=osm (show((dc (cQ 1 1) (d1 (cI .u32))).dec xs).bind qbe=some y from h)
 have hr2:=(dc (cQ 1 1) (d1 (cI .u32))).rep h1 hr
 have hg:=(dc (cQ 1 1) (d1 (cI .u32))).rng hr2
 obtain⟨a,b⟩:=p;obtain⟨h3,h4⟩:=qi h2;have:=soi h4;subst this
 rw[zk,zD]at h3;obtain⟨⟨ha,la⟩,hb⟩:=hg;have hb:=qdi.1 hb;obtain⟨h3a,h3b⟩:=h3;have h3a:0<b:=h3a
 obtain⟨B,rfl⟩:∃B:Nat,b=(B:Int):=⟨b.toNat,by omega⟩
 cases hr2 with | cons k1 k2=>
 cases k2 with | cons k2 k3=>
 cases k3 with | nil=>
 cases k2 with | s k2=>
 exact Go.Proofs.Sho.short_fing hgk (Wd.of ha) (by omega) (by have:=hb.2;omega) (zm h3b) k1
def qlU:PrimD:=prim (d1 (cQ 1 1)) (d1 (cQ 1 1)) qdk
theorem qwj:OkT 157 qlU:=by
 refine⟨by kernel_rfl,fun xs y h V vs hg hr=>?_,fun j hj=>nomatch hj⟩
 have hF:=qrx.2.1 xs y h V vs hg hr;intro w a1 a2 a3 a4;refine(hF w a1 a2 a3 a4).mono ?_
 rintro e w' ⟨v,V',G',rfl,hh,rvs,m1,rfl⟩
 refine⟨_,V',G',rfl,hh,rvs,?_,rfl⟩
 have m1:RepA V' [.sl 1 (List.map (view 1) (y:List (U 1)))] rvs:=m1
 cases m1 with | cons k1 k2=>cases k2 with | nil=>exact .cons (.ql k1) .nil
def qry:qt:=jo [(157,qlU),(112,qlT)] qru
theorem qf4:PkT qry:=qn qnh (qh qwj (qh qwi qq))
end
end Su
end
section
namespace Su
noncomputable section
open Go Go.Proofs Fly
set_option maxRecDepth 100000
def qxy:PrimD:=prim (dc (cQ 1 1) (d1 (cQ 1 1))) (dc (cQ 1 1) (dc (cQ 1 1) (d1 (cI .i64)))) (qfL)
theorem qB4:OkT 108 qxy:=jF ja qf4 (fun fu a=>Div fu a.1 a.2) (by kernel_rfl) (fun _ _=>by kernel_rfl) qyH
def qrz:qt:=jo [(108,qxy)] qry
theorem qnk:PkT qrz:=qn qf4 (qh qB4 qq)
end
end Su
end
section
namespace Su
open Go Go.Proofs Fly
set_option maxRecDepth 100000
noncomputable def qrA:qt:=jo [] qrz
theorem qnl:PkT qrA:=qn qnk qq
end Su
end
section
namespace Su
open Go Go.Proofs Fly
set_option maxRecDepth 100000
noncomputable def qrB:qt:=jo [] qrA
theorem qf5:PkT qrB:=qn qnl qq
end Su
end
section
namespace Su
noncomputable section
open Go Go.Proofs Fly
set_option maxRecDepth 100000
def qlV:PrimD:=prim (d1 (cI .u64)) (d1 (cI .i64)) (qlm)
theorem qwk:OkT 122 qlV:=yj ja qf5 (fun a=>qpw a) (by kernel_rfl) (fun _ _=>by kernel_rfl) qpy
def qrC:qt:=jo [(122,qlV)] qrB
theorem ZT:PkT qrC:=qn qf5 (qh qwk qq)
end
end Su
end
section
namespace Su
noncomputable section
open Go Go.Proofs Fly
set_option maxRecDepth 100000
def qrD:PrimD:=prim (d1 cW) (d1 (cI .i64)) (qpz)
theorem qz2:OkT 152 qrD:=yj ja ZT (fun a=>qyJ a) (by kernel_rfl) (fun _ _=>by kernel_rfl) quC
def qrE:PrimD:=prim (dc cW (d1 (cI .i64))) (d1 cW) (qpA)
theorem qz3:OkT 154 qrE:=jF ja ZT (fun fu a=>qyK fu a.1 a.2) (by kernel_rfl) (fun _ _=>by kernel_rfl) quD
def qrF:PrimD:=prim (dc cW (d1 (cI .i64))) (dc cW (d1 cB)) (qpB)
theorem qz4:OkT 153 qrF:=jF ja ZT (fun fu a=>qyL fu a.1 a.2) (by kernel_rfl) (fun _ _=>by kernel_rfl) quE
def qrG:qt:=jo [(152,qrD),(154,qrE),(153,qrF)] qrC
theorem qcv:PkT qrG:=qn ZT (qh qz2 (qh qz3 (qh qz4 qq)))
end
end Su
end
section
namespace Su
noncomputable section
open Go Go.Proofs Fly
set_option maxRecDepth 100000
def qxz:PrimD:=prim (dc qmO (dc (cI .u8) (dc cB (dc cB (d1 cB))))) (d1 cB) (qw2)
theorem qB5:OkT 155 qxz:=yj ja qcv (fun a=>rUp a.1 a.2.1 a.2.2.1 a.2.2.2.1 a.2.2.2.2) (by kernel_rfl) (fun _ _=>by kernel_rfl) qyN
def qlW:PrimD:=prim (dc qmO (d1 (cI .u8))) (dc (cI .u64) (d1 (cI .u8))) (qlr)
theorem qwl:OkT 156 qlW:=yj ja qcv (fun a=>qpD a.1 a.2) (by kernel_rfl) (fun _ _=>by kernel_rfl) qpE
def qrH:qt:=jo [(155,qxz),(156,qlW)] qrG
theorem qf6:PkT qrH:=qn qcv (qh qB5 (qh qwl qq))
end
end Su
end
section
namespace Su
noncomputable section
open Go Go.Proofs Fly
set_option maxRecDepth 100000
def qi6:PrimD:=prim (dc qmO (d1 (cI .u8))) (dc (cI .u64) (d1 (cI .u8))) (Y9)
theorem qrI:OkT 106 qi6:=yj ja qf6 (fun a=>qj5 a.1 a.2) (by kernel_rfl) (fun _ _=>by kernel_rfl) qmU
def qrJ:qt:=jo [(106,qi6)] qrH
theorem qf7:PkT qrJ:=qn qf6 (qh qrI qq)
end
end Su
end
section
namespace Su
noncomputable section
open Go Go.Proofs Fly
set_option maxRecDepth 100000
def qxA:PrimD:=prim (dc cS (d1 (cI .u8))) (d1 cS) (qiI)
theorem qB6:OkT 117 qxA:=jF ja qf7 (fun fu a=>tLB fu a.1 a.2) (by kernel_rfl) (fun _ _=>by kernel_rfl) qyP
def qrK:qt:=jo [(117,qxA)] qrJ
theorem qf8:PkT qrK:=qn qf7 (qh qB6 qq)
end
end Su
end
section
namespace Su
noncomputable section
open Go Go.Proofs Fly
set_option maxRecDepth 100000
def qrL:PrimD:=prim (d1 (cI .u64)) (d1 (cI .i64)) (fun a=>bLen a)
theorem qz5:OkT 64 qrL:=fnL ja qf8 (by kernel_rfl) (fun _ _=>by kernel_rfl)
def qrM:qt:=jo [(64,qrL)] qrK
theorem qcw:PkT qrM:=qn qf8 (qh qz5 qq)
end
end Su
end
section
namespace Su
noncomputable section
open Go Go.Proofs Fly
set_option maxRecDepth 100000
def qrN:PrimD:=prim (dc (cI .u64) (d1 (cI .i64))) (dc (cQ 1 1) (d1 (cI .i64))) (qhb)
theorem qz6:OkT 20 qrN:=jF ja qcw (fun fu a=>quI fu a.1 a.2) (by kernel_rfl) (fun _ _=>by kernel_rfl) quL
def qrO:PrimD:=prim (d1 (cI .i64)) (d1 (cQ 1 1)) (Za)
theorem qz7:OkT 107 qrO:=yj ja qcw (fun a=>qyQ a) (by kernel_rfl) (fun _ _=>by kernel_rfl) quM
def qrP:qt:=jo [(20,qrN),(107,qrO)] qrM
theorem qf9:PkT qrP:=qn qcw (qh qz6 (qh qz7 qq))
end
end Su
end
section
namespace Su
noncomputable section
open Go Go.Proofs Fly
set_option maxRecDepth 100000
def qlX:PrimD:=prim (dc cB (dc (cQ 1 1) (dc (cQ 1 1) (d1 (cI .u8))))) (dc (cI .u64) (d1 (cI .u8))) (Q0)
theorem qwm:OkT 50 qlX:=yj ja qf9 (fun a=>qlw a.1 a.2.1 a.2.2.1 a.2.2.2) (by kernel_rfl) (fun _ _=>by kernel_rfl) qpK
def qrQ:qt:=jo [(50,qlX)] qrP
theorem qga:PkT qrQ:=qn qf9 (qh qwm qq)
end
end Su
end
section
namespace Su
noncomputable section
open Go Go.Proofs Fly
set_option maxRecDepth 100000
def qi7:PrimD:=prim (d1 cS) (dc (cQ 1 1) (d1 (cI .i64))) (qeq)
theorem qrR:OkT 19 qi7:=jF ja qga (fun fu a=>qep fu a) (by kernel_rfl) (fun _ _=>by kernel_rfl) qmW
def qrS:qt:=jo [(19,qi7)] qrQ
theorem qnm:PkT qrS:=qn qga (qh qrR qq)
end
end Su
end
section
namespace Su
open Go Go.Proofs Fly
set_option maxRecDepth 100000
noncomputable def qrT:qt:=jo [] qrS
theorem qnn:PkT qrT:=qn qnm qq
end Su
end
