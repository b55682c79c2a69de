/-
  The law and its row.
-/
import Derived.Test.YtldhknmacepeiaaGreatDoorFlyV
set_option linter.unusedVariables false
set_option linter.unusedSimpArgs false
set_option maxRecDepth 10000
section
namespace Fly
open Go Go.Proofs Su
set_option maxRecDepth 10000
attribute [local irreducible] WC WE WR Opr St Go.Calls Qy Qf ji Rel jk Qe yR Owe One Qg Go.CallsD
theorem qyD:QO 1=[9]:=rfl
theorem qyE:QO 0=[]:=rfl
theorem qn0(l:qV)(p:Pg):Yd l p=[116,105,99,107,115,32]++l.itoa p.ticks++[59,10]++yg l p.ds++([105,110,105,116,32,123,10]++textSs l 1 p.ini++[125,10,115,116,101,112,32,123,10]++textSs l 1 p.step++[125,10]):=by
 simp only[Yd,Jy,qyE,zt,zw,zD,zy]
def dA(d:Dc):List UInt8:=if d.inp=true then[105,110,112,117,116,32]else[118,97,114,32]
def dL(l:qV)(d:Dc):List UInt8:=if 0<d.len then[91]++l.itoa d.len++[93]else[]
def dR(l:qV)(d:Dc):List UInt8:=if d.rng=true then[32,105,110,32,91]++jJ l d.lo++[44,32]++jJ l d.hi++[93]else[]
theorem qjt(l:qV)(d:Dc):qaP l d=dA d++d.nm.data.toList++[58,32]++qbZ d.ty++dL l d++dR l d++[59,10]:=rfl
set_option maxHeartbeats 16000000 in
theorem cPrt{l:qV}{F:List Int}{V:qc}{sf st:Value}(hP:PrV l F V sf st)(hD:DgV l V){p:Pg}{cx:List Value}(hE:Pg.Is V p cx)(hfl:∀f,f∈qeX p→f∈F)(hrg:qnY p)(hw:wP p≤1500)(hl:(Yd l p).length≤549755813888) :
 ji Tryz.prog 43 [.agg [sf,st].toArray,.agg cx.toArray] V (.string (bs (Yd l p))):=by
 obtain⟨sd,cd,si,ci,ss,cS,rfl,g1,h1,g2,h2,g3,h3⟩:=hE;have hp:=QA.parts h1;unfold wP at hw;obtain⟨rtk,rds,rin,rst⟩:=hrg;simp only[qeX,zS]at hfl;rw[qn0]at hl ⊢;simp only[zb,zf,zk]at hl;have hseg:=Z4 l p.ds;have hall:yg l p.ds=yg l (p.ds.take p.ds.length):=by rw[List.take_length]
 have kt:=hD p.ticks rtk;have ki:=cStm hP hD p.ini 1 (by omega) g2 h2 (fun f h=>hfl f (.inl (.inr h))) rin (by omega)
 have ks:=cStm hP hD p.step 1 (by omega) g3 h3 (fun f h=>hfl f (.inr h)) rst (by omega)
 rw[qyD]at ki ks;generalize hm:p.ds.length=m at *
 refine qT Tryz.func43 rfl Tryz.ntmps43 rfl ?_;intro X w hM hw hV0 hR;dsimp only[qZ,Nat.zero_add,Nat.reduceAdd]
 (repeat'(first|refine qq ?_|refine qa ?_|refine qo ?_|refine qe ?_|refine qt ?_|(refine qn rfl ?_;first|refine qA tb rfl rfl kt ?_|refine jH rfl rfl (by(try simp only[zb,zf,zk]);omega) ?_|refine qd rfl ?_|refine qb tb rfl rfl ?_|(apply qp tb rfl rfl;(·exact At.own .here);(·exact rfl))|(refine qJ rfl ?_;intro b))))
 rename_i bp;refine jC (fun L' V' G' μ=>∃(i:Nat) (T:List UInt8),i≤m∧μ=m-i∧Sub V V'∧T=[116,105,99,107,115,32]++l.itoa p.ticks++[59,10]++yg l (p.ds.take i)∧G'=[(b,.cells [.int .i64 p.ticks,sd,si,ss].toArray 66 (0,0)),(bp,.cells [sf,st].toArray 72 (0,0))]∧L'=[(6,.int .i64 i),(5,.string (bs T)),(4,.string (bs [])),(3,.pointer (some ⟨b,0,none⟩)),(2,.pointer (some ⟨bp,0,none⟩))]) (m0:=m) (by repeat(first|exact .nil|refine .cons rfl ?_)) (zJ _) ⟨0,_,by omega,by omega,Sub.refl _,(by simp[yg]),rfl,rfl⟩ ?_
 rintro L' V' G' μ ⟨i,T,hi,hμ,hVs,hT,hGe,hLe⟩
 subst hGe hLe
 by_cases hlt:i<m
 · obtain⟨ax,lx,qx,rfl,hq1,hq2,hlx,hpx⟩:=g1
   have hxl:=hp.1;have hlx':lx=m:=by omega
   subst hlx';have hbig:lx≤9223372036854775807:=by unfold maxLen at hq2;omega
   obtain⟨bx,ox,rfl,hrx⟩:=hpx.resolve_left (by omega)
   obtain⟨c,hc1,⟨d,hx1,hc2⟩,hc3⟩:=hp.rd hrx (i:=i) (by omega)
   have hmem:=zO hx1
   have hsx:=qde (l:=l) hx1
   have hle:=hseg (i+1)
   rw[hsx,qjt,zb]at hle;have hfin:∀T',T'=T++qaP l d→T'=[116,105,99,107,115,32]++l.itoa p.ticks++[59,10]++yg l (p.ds.take (i+1)):=fun T' h=>by rw[hsx,h,hT,zw]
   have hTl:T.length=8+(l.itoa p.ticks).length+(yg l (p.ds.take i)).length:=by rw[hT];simp only[zb,zf,zk];omega
   rw[qjt]at hfin;clear hT;obtain⟨rl,re1,re2⟩:=rds d hmem;have hf1:∀f,f∈QP d.lo→f∈F:=fun f h=>hfl f (.inl (.inl (qe5 hmem (.inl h))))
   have hf2:∀f,f∈QP d.hi→f∈F:=fun f h=>hfl f (.inl (.inl (qe5 hmem (.inr h))))
   obtain⟨dat,inp,nm,ty,len,rng,elo,ehi⟩:=d;obtain⟨nl,rfl⟩:∃nl,nm=bs nl:=⟨lb nm,(qdd nm).symm⟩
   have en:(bs nl).data.toList=nl:=rfl
   simp only[en]at hle hfin;obtain⟨A,hA⟩:∃A,A=dA ⟨dat,inp,bs nl,ty,len,rng,elo,ehi⟩:=⟨_,rfl⟩
   obtain⟨B,hB⟩:∃B,B=qbZ ty:=⟨_,rfl⟩
   obtain⟨C,hC⟩:∃C,C=dL l ⟨dat,inp,bs nl,ty,len,rng,elo,ehi⟩:=⟨_,rfl⟩
   obtain⟨D,hDD⟩:∃D,D=dR l ⟨dat,inp,bs nl,ty,len,rng,elo,ehi⟩:=⟨_,rfl⟩
   rw[← hA,← hB,← hC,← hDD]at hle hfin;simp only[dA]at hA;simp only[dL]at hC;simp only[dR]at hDD;simp only[]at rl re1 re2 hf1 hf2;simp only[zb,zf,zk]at hle;obtain⟨cl,ch,rfl,k1,k2⟩:=hc2;have kd:=hD len rl;have klo:=fun hl=>c41 hP hD elo k1 hf1 re1 hl
   have khi:=fun hl=>c41 hP hD ehi k2 hf2 re2 hl
   obtain⟨b0,b1,b2,b3,b4,b5,b6,b7,b8,rfl⟩:=k1.lits;obtain⟨d0,d1,d2,d3,d4,d5,d6,d7,d8,rfl⟩:=k2.lits;simp only[zD,zy]at hc1 hc3
   (repeat'(first|refine qq ?_|refine qa ?_|refine qo ?_|refine qe ?_|refine qt ?_|refine qF ?_|((first|refine qn rfl ?_|refine jE ?_);(first|refine Qr rfl rfl (by omega) ?_|refine qB tb rfl rfl rfl (by omega) (by omega) ?_|refine jw tb rfl rfl hc1 (by decide) hc3 hVs ?_|(refine yA tb rfl ?_;intro bd)|refine qh rfl ?_|refine qb tb rfl rfl ?_|refine jP tb rfl rfl rfl ?_|(apply qp tb rfl rfl;(·exact At.own .here);(·exact rfl))|(apply yX tb rfl rfl rfl rfl rfl;(·exact .here);(·exact rfl))))|refine qE rfl ?_))
   obtain⟨GX,hGX⟩:∃GX:Own,GX=[(bd,.cells [.int .i64 dat,.bool inp,.string (bs nl),.int .u8 ty,.int .i64 len,.bool rng,.int .u8 b0,.int .i64 b1,.bool b2,.int .i32 b3,.int .u64 b4,.string b5,.slice b6 b7 b8,.int .u8 d0,.int .i64 d1,.bool d2,.int .i32 d3,.int .u64 d4,.string d5,.slice d6 d7 d8].toArray 122 (0,0)),(b,.cells [.int .i64 p.ticks,(.slice (some ⟨bx,ox,none⟩) lx qx),si,ss].toArray 66 (0,0)),(bp,.cells [sf,st].toArray 72 (0,0))]:=⟨_,rfl⟩
   refine qk2 (fun L' V' G'=>Sub V V'∧G'=GX∧L'=[(7,.pointer (some ⟨bd,0,none⟩)),(6,.int .i64 i),(5,.string (bs (T++A))),(4,.string (bs [])),(3,.pointer (some ⟨b,0,none⟩)),(2,.pointer (some ⟨bp,0,none⟩))]) ?_ ?_
   · cases inp with
     | true=>
      simp only[VG]at hA;rw[hA]at hle;simp only[zf,zk]at hle
      (repeat'(first|refine qa ?_|refine qo ?_|(refine qn rfl ?_;first|refine jH rfl rfl (by(try simp only[zb,zf,zk]);omega) ?_|refine qh rfl ?_|refine qd rfl ?_)|refine qE rfl ?_))
      exact YK (by rw[hA];repeat(first|exact .nil|refine .cons rfl ?_)) (zJ _) ⟨hVs,hGX.symm,rfl⟩
     | false=>
      simp only[Vs,Vv]at hA;rw[hA]at hle;simp only[zf,zk]at hle
      (repeat'(first|refine qa ?_|refine qo ?_|(refine qn rfl ?_;first|refine jH rfl rfl (by(try simp only[zb,zf,zk]);omega) ?_|refine qh rfl ?_|refine qd rfl ?_)|refine qz rfl ?_))
      exact YK (by rw[hA];repeat(first|exact .nil|refine .cons rfl ?_)) (zJ _) ⟨hVs,hGX.symm,rfl⟩
   clear hVs
   rintro L2 V2 G2 ⟨hVs,hG,hL⟩
   rw[hGX]at hG;subst hG hL
   (repeat'(first|refine qq ?_|refine qa ?_|refine qo ?_|refine qe ?_|refine qt ?_|(refine qn rfl ?_;first|refine jH rfl rfl (by(try simp only[zb,zf,zk]);omega) ?_|refine qh rfl ?_|refine qd rfl ?_|refine jI rfl rfl ?_|refine qb tb rfl rfl ?_|(apply qp tb rfl rfl;(·exact At.own .here);(·exact rfl)))))
   refine qtW (fun L' V' G'=>Sub V V'∧G'=GX∧L'=[(7,.pointer (some ⟨bd,0,none⟩)),(6,.int .i64 i),(5,.string (bs (T++A++nl++[58,32]++B))),(4,.string (bs [])),(3,.pointer (some ⟨b,0,none⟩)),(2,.pointer (some ⟨bp,0,none⟩))]) ?_ ?_
   · clear hA hC hDD
     by_cases t1:ty=1
     · subst t1
       have hB:B=[98,111,111,108]:=hB
       rw[hB]at hle;simp only[zf,zk]at hle
       (repeat'(first|refine qa ?_|refine qo ?_|refine qS ?_|(refine qn rfl ?_;first|refine jH rfl rfl (by(try simp only[zb,zf,zk]);omega) ?_|refine qh rfl ?_|refine qd rfl ?_)|refine qE rfl ?_))
       exact YK (by rw[hB];repeat(first|exact .nil|refine .cons rfl ?_)) (zJ _) ⟨hVs,hGX.symm,rfl⟩
     by_cases t2:ty=2
     · subst t2
       have hB:B=[105,110,116]:=hB
       rw[hB]at hle;simp only[zf,zk]at hle
       (repeat'(first|refine qq ?_|refine qa ?_|refine qo ?_|refine qe ?_|refine qS ?_|(refine qn rfl ?_;first|refine qdN rfl rfl (by omega) ?_|refine jH rfl rfl (by(try simp only[zb,zf,zk]);omega) ?_|refine qh rfl ?_|refine qd rfl ?_)|refine qE rfl ?_|refine qz rfl ?_))
       exact YK (by rw[hB];repeat(first|exact .nil|refine .cons rfl ?_)) (zJ _) ⟨hVs,hGX.symm,rfl⟩
     by_cases t3:ty=3
     · subst t3
       have hB:B=[102,108,111,97,116]:=hB
       rw[hB]at hle;simp only[zf,zk]at hle
       (repeat'(first|refine qq ?_|refine qa ?_|refine qo ?_|refine qe ?_|refine qS ?_|(refine qn rfl ?_;first|refine qdN rfl rfl (by omega) ?_|refine qaq rfl rfl (by omega) ?_|refine jH rfl rfl (by(try simp only[zb,zf,zk]);omega) ?_|refine qh rfl ?_|refine qd rfl ?_)|refine qE rfl ?_|refine qz rfl ?_))
       exact YK (by rw[hB];repeat(first|exact .nil|refine .cons rfl ?_)) (zJ _) ⟨hVs,hGX.symm,rfl⟩
     · have hB:B=[]:=by rw[hB];unfold qbZ;rw[zQ t1,zQ t2,zQ t3]
       (repeat'(first|refine qq ?_|refine qa ?_|refine qo ?_|refine qe ?_|refine qF ?_|refine qS ?_|(refine qn rfl ?_;first|refine qaq rfl rfl (by omega) ?_|refine qh rfl ?_|refine qd rfl ?_)|refine qz rfl ?_|refine yL rfl (fun _=>?_) (fun _=>?_)))
       all_goals first
        | (exfalso;omega)
        | exact YK (by rw[hB,z7];repeat(first|exact .nil|refine .cons rfl ?_)) (zJ _) ⟨hVs,hGX.symm,rfl⟩
   clear hVs
   rintro L2 V2 G2 ⟨hVs,hG,hL⟩
   rw[hGX]at hG;subst hG hL
   (repeat'(first|refine qq ?_|refine qa ?_|refine qo ?_|refine qe ?_|(refine qn rfl ?_;first|refine qaT rfl rfl ?_|refine qb tb rfl rfl ?_|(apply qp tb rfl rfl;(·exact At.own .here);(·exact rfl)))))
   refine qk2 (fun L' V' G'=>Sub V V'∧G'=GX∧L'=[(7,.pointer (some ⟨bd,0,none⟩)),(6,.int .i64 i),(5,.string (bs (T++A++nl++[58,32]++B++C))),(4,.string (bs [])),(3,.pointer (some ⟨b,0,none⟩)),(2,.pointer (some ⟨bp,0,none⟩))]) ?_ ?_
   · by_cases hz:0<len
     · rw[z6 hz]at hC
       rw[hC]at hle;simp only[zb,zf,zk]at hle
       (repeat'(first|refine qb2 rfl hz ?_|refine qa ?_|refine qo ?_|(refine qn rfl ?_;first|refine qA tb rfl rfl (kd.mono hVs) ?_|refine jH rfl rfl (by(try simp only[zb,zf,zk]);omega) ?_|refine qh rfl ?_|refine qd rfl ?_|refine qb tb rfl rfl ?_|(apply qp tb rfl rfl;(·exact At.own .here);(·exact rfl)))))
       exact YK (by rw[hC];simp only[← zw];repeat(first|exact .nil|refine .cons rfl ?_)) (zJ _) ⟨hVs,hGX.symm,rfl⟩
     · rw[zQ hz]at hC
       (repeat'(first|refine Yg rfl hz ?_|refine qF ?_))
       exact YK (by rw[hC,z7];repeat(first|exact .nil|refine .cons rfl ?_)) (zJ _) ⟨hVs,hGX.symm,rfl⟩
   clear hVs hC
   rintro L2 V2 G2 ⟨hVs,hG,hL⟩
   rw[hGX]at hG;subst hG hL
   (repeat'(first|refine qq ?_|refine qa ?_|refine qo ?_|refine qe ?_|(refine qn rfl ?_;first|refine qb tb rfl rfl ?_|(apply qp tb rfl rfl;(·exact At.own .here);(·exact rfl)))))
   cases rng with
   | true=>
    simp only[VG]at hDD;rw[hDD]at hle;simp only[zb,zf,zk]at hle;have klo:=klo (by omega)
    have khi:=khi (by omega)
    (repeat' (refine qE rfl ?_))
    refine jo (ms:=[0,1,0,0,8,28,63,127,0,0,512,1852,4095,8191,16383]) 14 mo (by kernel_rfl) (by kernel_rfl) rfl ?_
    repeat (apply Prog.step (Q9 _) (jg _) rfl rfl;(·(intro V1 F1 hs1;(repeat(first|refine jt ?_|refine js ?_));refine qW ?_;(first|refine qh rfl ?_|refine jH rfl rfl (by(try simp only[zb,zf,zk]);omega) ?_|(apply qK tb rfl rfl;(·(refine At.own (Has.app ?_);repeat(first|exact .here|refine .there ?_)));(·exact rfl))|refine qb tb rfl rfl ?_|refine qA tb rfl rfl (klo.mono (hVs.trans hs1)) ?_|refine qA tb rfl rfl (khi.mono (hVs.trans hs1)) ?_);exact Qc));simp only[zy,zD])
    refine Prog.done ?_;intro V1 hs1;repeat(first|refine jp ?_|refine jr ?_)
    have hV2:=hVs.trans hs1
    (repeat'(first|refine qa ?_|refine qo ?_|refine qe ?_|refine qS ?_|(refine qn rfl ?_;first|refine jH rfl rfl (by(try simp only[zb,zf,zk]);omega) ?_|refine qh rfl ?_|refine qd rfl ?_|refine jf rfl rfl (by omega) (by omega) ?_)))
    refine jb (by repeat(first|exact .nil|refine .cons rfl ?_)) (by repeat(first|exact .slnil|apply List.Sublist.cons_cons|apply List.Sublist.cons)) ⟨i+1,_,by omega,rfl,hV2,hfin _ ?_,rfl,rfl⟩ (by omega)
    simp only[hDD,zw,zD,zy]
   | false=>
    simp only[Vs,Vv]at hDD;rw[hDD]at hle
    (repeat'(first|refine qa ?_|refine qo ?_|refine qe ?_|refine qF ?_|refine qS ?_|(refine qn rfl ?_;first|refine jH rfl rfl (by(try simp only[zb,zf,zk]);omega) ?_|refine qh rfl ?_|refine qd rfl ?_|refine jf rfl rfl (by omega) (by omega) ?_)|refine qz rfl ?_))
    refine jb (by repeat(first|exact .nil|refine .cons rfl ?_)) (by repeat(first|exact .slnil|apply List.Sublist.cons_cons|apply List.Sublist.cons)) ⟨i+1,_,by omega,rfl,hVs,hfin _ ?_,rfl,rfl⟩ (by omega)
    simp only[hDD,zw,zD,zy]
 · obtain rfl:i=m:=by omega
   rw[← hall]at hT;have hs':=g1.mono hVs;have hTl:T.length=8+(l.itoa p.ticks).length+(yg l p.ds).length:=by rw[hT];simp only[zb,zf,zk];omega
   (repeat'(first|refine qq ?_|refine qa ?_|refine qo ?_|refine qe ?_|refine jh ?_|refine qG ?_|refine qD ?_|refine qI ?_|(refine qn rfl ?_;first|refine qX tb rfl hs' rfl rfl hp.1 (by decide) ?_|refine QD rfl rfl (by omega) ?_|refine qh rfl ?_|refine qb tb rfl rfl ?_|(apply qp tb rfl rfl;(·exact At.own .here);(·exact rfl)))|refine qz rfl ?_))
   refine jo (ms:=[0,1,0,0,8,28,63,127,0,0,512,1852,4095,8191,16383]) 14 mo (by kernel_rfl) (by kernel_rfl) rfl ?_
   repeat (apply Prog.step (Q9 _) (jg _) rfl rfl;(·(intro V1 F1 hs1;(repeat(first|refine jt ?_|refine js ?_));refine qW ?_;(first|refine qh rfl ?_|refine jH rfl rfl (by(try simp only[zb,zf,zk]);omega) ?_|(apply qp tb rfl rfl;(·exact At.own (.app .here));(·exact rfl))|(apply qK tb rfl rfl;(·(refine At.own (Has.app ?_);repeat(first|exact .here|refine .there ?_)));(·exact rfl))|refine qb tb rfl rfl ?_|refine qA tb rfl rfl (ki.mono (hVs.trans hs1)) ?_|refine qA tb rfl rfl (ks.mono (hVs.trans hs1)) ?_);exact Qc));simp only[zy,zD])
   refine Prog.done ?_;intro V1 hs1;repeat(first|refine jp ?_|refine jr ?_)
   (repeat'(first|refine qo ?_|refine qe ?_|refine qO ?_|((refine qn rfl ?_);(refine qd rfl ?_))))
   (refine qR hM hw hV0 hR (jU rfl rfl) ?_)
   simp only[hT,zw,zD,zy]
end Fly
end
section
namespace Fly
open Go Go.Proofs Su
set_option maxRecDepth 10000
attribute [local irreducible] WC WE WR Opr St Go.Calls Qy Qf ji Rel jk Qe yR Owe One Qg Go.CallsD
def fcs(F:List Int):List Value:=F.map fun f=>Value.int .u64 f
theorem yH(F:List Int):(fcs F).length=F.length*1:=by simp[fcs]
theorem JO(F:List Int):(fcs F).all (·.oneCell')=true:=by
 rw[Ko];intro v hv;obtain⟨f,_,rfl⟩:=KJ.1 hv;rfl
theorem JP(F F':List Int):fcs F++fcs F'=fcs (F++F'):=by simp[fcs]
theorem b23:Tryz.prog.bytesOf 23≤256:=KM (by kernel_rfl)
abbrev FlR(V:qc)(F:List Int)(v:Value)(V':qc):Prop:=Sub V V'∧Sl 1 V' v (fcs F)
def T85(x:Ex):Prop:=∀ {V:qc} {cx:List Value},Ex.Is V x cx→wE x≤100000→Rel Tryz.prog 85 [.agg cx.toArray] V (FlR V (QP x))
theorem qk3:∀ {es:Exs} {x:Ex},x∈es.list→wE x≤wEs es
 | .nil,x,hm=>by simp[Exs.list]at hm
 | .cons e r,x,hm=>by
  rcases zK.1 hm with h|h
  · rw[h];simp only[wEs];omega
  · have:=qk3 h;simp only[wEs];omega
theorem qvp{es:Exs}(i:Nat):(Y3 QP es.list i).length≤wEs es:=by
 have h1:=qhQ QP es.list i;have h2:=floEs_le es;rw[Zp]at h2;omega
set_option maxHeartbeats 4000000 in
theorem c85b{op p:Int}{bo:Bool}{i f:Int}{nm:ByteArray}{es:Exs}(hk:∀x∈es.list,T85 x):T85 (.mk op p bo i f nm es):=by
 intro V cx hE hw0;simp only[wE]at hw0;simp only[Ex.Is]at hE;obtain⟨sx,ex,rfl,hsx,has⟩:=hE;have hp:=Exs.parts has;have hfe:QP (.mk op p bo i f nm es)=(if op=3 then[f]else[])++Y3 QP es.list es.list.length:=by rw[qb0 _ _ (zI _),← Zp];rfl
 rw[hfe];clear hfe;obtain⟨P0,hP0⟩:∃P0,P0=if op=3 then[f]else[]:=⟨_,rfl⟩
 rw[← hP0];have hpp:P0.length≤1:=by rw[hP0];split <;> simp
 have hpl:=fun j=>qvp (es:=es) j
 generalize hm:es.list.length=m at *
 refine Qq Tryz.func85 rfl Tryz.ntmps85 rfl ?_;intro X w hM hw hV0 hR;dsimp only[qZ,Nat.zero_add,Nat.reduceAdd]
 (repeat'(first|refine qq ?_|refine qa ?_|refine qo ?_|refine qe ?_|(refine qn rfl ?_;first|(refine qJ rfl ?_;intro bb)|refine qd rfl ?_|refine jI rfl rfl ?_|refine qb tb rfl rfl ?_|(apply qp tb rfl rfl;(·exact At.own .here);(·exact rfl)))))
 refine qk2 (fun L' V' G'=>∃(v:Value) (Gr:Own) (M:Nat),V'=V∧Row 23 1 v Gr M (fcs P0)∧G'=Gr++[(bb,.cells [.int .u8 op,.int .i64 p,.bool bo,.int .i32 i,.int .u64 f,.string nm,sx].toArray 78 (0,0))]∧L'=[(3,v),(2,.slice none 0 0),(1,.pointer (some ⟨bb,0,none⟩))]) ?_ ?_
 · by_cases ho:op=3
   · rw[z6 ho]at hP0
     (repeat'(first|refine qb2 rfl ho ?_|refine qa ?_|refine qo ?_|(refine qn rfl ?_;first|(apply qnk (k:=1) (m:=0) (m':=1) tb rfl rfl rfl (by decide) b23 rfl rfl (.own .here) rfl rfl (Row.nil) (zr _) (by decide) (by decide);intro v0 Gr0 hRow0)|refine qh rfl ?_|refine qd rfl ?_|refine qb tb rfl rfl ?_|(apply qp tb rfl rfl;(·exact At.own .here);(·exact rfl))|(apply yh tb;(·exact rfl);(·exact rfl);(·exact rfl);(·decide);(·(repeat(first|exact .nil|(apply Cat.cons;(·exact rfl);(·exact rfl);(·exact rfl))|exact .nil|apply App.cons)));intro b))))
     exact YK (by repeat(first|exact .nil|refine .cons rfl ?_)) (List.Sublist.append (zJ _) (List.Sublist.cons _ (zJ _))) ⟨_,_,_,rfl,(by rw[hP0];exact hRow0),rfl,rfl⟩
   · rw[zQ ho]at hP0
     (repeat'(first|refine Yg rfl ho ?_|refine qF ?_))
     exact YK (by repeat(first|exact .nil|refine .cons rfl ?_)) (zJ _) ⟨_,[],0,rfl,(by rw[hP0];exact Row.nil),rfl,rfl⟩
 clear hP0
 rintro L2 V2 G2 ⟨v0,Gr0,M0,rfl,hRow0,hG,hL⟩
 subst hG hL
 (repeat'(first|refine qq ?_|refine qa ?_|refine qo ?_|refine qe ?_|refine qt ?_|((refine qn rfl ?_);(refine qd rfl ?_))))
 refine jC (fun L' V' G' μ=>∃(j:Nat) (v:Value) (Gr:Own) (M:Nat),j≤m∧μ=m-j∧Sub V2 V'∧Row 23 1 v Gr M (fcs (P0++Y3 QP es.list j))∧G'=Gr++[(bb,.cells [.int .u8 op,.int .i64 p,.bool bo,.int .i32 i,.int .u64 f,.string nm,sx].toArray 78 (0,0))]∧L'=[(4,.int .i64 j),(3,v),(2,.slice none 0 0),(1,.pointer (some ⟨bb,0,none⟩))]) (m0:=m) (by repeat(first|exact .nil|refine .cons rfl ?_)) (zJ _) ⟨0,_,_,_,by omega,by omega,Sub.refl _,(by rw[qgu,z7];exact hRow0),rfl,rfl⟩ ?_
 rintro L' V' G' μ ⟨j,v,Gr,M,hj,hμ,hVs,hRow,hGe,hLe⟩
 subst hGe hLe
 by_cases hlt:j<m
 · obtain⟨ax,lx,qx,rfl,hq1,hq2,hlx,hpx⟩:=hsx
   have hxl:=hp.1;have hlx':lx=m:=by omega
   subst hlx';have hbig:lx≤9223372036854775807:=by unfold maxLen at hq2;omega
   obtain⟨bx,ox,rfl,hrx⟩:=hpx.resolve_left (by omega)
   obtain⟨c,hc1,⟨x,hx1,hc2⟩,hc3⟩:=hp.rd hrx (i:=j) (by omega)
   have hmem:=zO hx1
   have hwx:=qk3 hmem;have hfx:=Zo x;have hlen:=hRow.len;rw[yH,zb]at hlen;have hpj:=hpl j;have hcall:=hk x hmem (V:=V') (Ex.Is.mono hVs _ hc2) (by omega)
   (repeat'(first|refine qq ?_|refine qa ?_|refine qo ?_|refine qe ?_|refine qt ?_|refine qF ?_|refine qS ?_|(refine qn rfl ?_;first|(apply qp tb rfl rfl;(·exact At.own (.app .here));(·exact rfl))|refine Qr rfl rfl (by omega) ?_|refine qB tb rfl rfl rfl (by omega) (by omega) ?_|refine jw tb rfl rfl hc1 (by decide) hc3 hVs ?_|(refine jW tb rfl rfl hcall ?_;rintro _ V1 _ ⟨hs1,hS1⟩)|(apply yj tb rfl rfl rfl (by decide) b23 rfl rfl hS1 (yH _) (JO _) hRow (zr _) (by omega);intro v1 Gr1 hRow1)|refine qh rfl ?_|refine qd rfl ?_|refine jf rfl rfl (by omega) (by omega) ?_|refine qb tb rfl rfl ?_|refine jP tb rfl rfl rfl ?_)|refine qE rfl ?_))
   exact jb (by repeat(first|exact .nil|refine .cons rfl ?_)) (zJ _) ⟨j+1,_,_,_,by omega,rfl,hVs.trans hs1,(by rw[qaB hx1,← zw,← JP];exact hRow1),rfl,rfl⟩ (by omega)
 · obtain rfl:j=m:=by omega
   have hs':=hsx.mono hVs;rcases hRow.frozen with⟨rfl,rfl,hnil⟩|⟨g,o,rfl,hfr⟩
   · (repeat'(first|refine qq ?_|refine qa ?_|refine qo ?_|refine qe ?_|refine jh ?_|refine qG ?_|refine qD ?_|refine qI ?_|refine qO ?_|(refine qn rfl ?_;first|(apply qp tb rfl rfl;(·exact At.own (.app .here));(·exact rfl))|refine qX tb rfl hs' rfl rfl hp.1 (by decide) ?_|refine QD rfl rfl (by omega) ?_|refine qh rfl ?_|refine qd rfl ?_|refine qb tb rfl rfl ?_)|refine qz rfl ?_))
     refine yS hM hw hV0 hR (jU rfl rfl) ⟨hVs,?_⟩
     rw[hnil];exact Sl.nil _ _
   · refine qd9 hM (fun hno=>?_)
     have hs2:=hVs.trans (Sub.addV (o:=o) hno)
     have hs3:=hsx.mono hs2
     (repeat'(first|refine qq ?_|refine qa ?_|refine qo ?_|refine qe ?_|refine jh ?_|refine qG ?_|refine qD ?_|refine qI ?_|refine qO ?_|(refine qn rfl ?_;first|refine qX tb rfl hs3 rfl rfl hp.1 (by decide) ?_|refine QD rfl rfl (by omega) ?_|refine qh rfl ?_|refine qd rfl ?_|refine qb tb rfl rfl ?_|(apply qp tb rfl rfl;(·exact At.own .here);(·exact rfl)))|refine qz rfl ?_))
     exact yS hM hw hV0 hR (jU rfl rfl) ⟨hs2,hfr _⟩
mutual
theorem c85:∀x:Ex,T85 x
 | .mk _ _ _ _ _ _ es=>c85b (c85l es)
 termination_by structural x=>x
theorem c85l:∀(es:Exs),∀x∈es.list,T85 x
 | .nil,x,hm=>by simp[Exs.list]at hm
 | .cons e r,x,hm=>by
  rcases zK.1 hm with h|h
  · rw[h];exact c85 e
  · exact c85l r x h
 termination_by structural es=>es
end
end Fly
end
section
namespace Fly
open Go Go.Proofs Su
set_option maxRecDepth 10000
attribute [local irreducible] WC WE WR Opr St Go.Calls Qy Qf ji Rel jk Qe yR Owe One Qg Go.CallsD
theorem qyF{es:Sts}(i:Nat):(Y3 ZJ es.list i).length≤wSs es:=by
 have h1:=qhQ ZJ es.list i;have h2:=floSs_le es;rw[qbh]at h2;omega
theorem qtY{V:qc}{b off:Nat}{cs ce:List Value}{k:Nat}(h:∀j v,cs[j]?=some v→rd V b (off+j) v)(he:∀j v,ce[j]?=some v→cs[k+j]?=some v):∀j v,ce[j]?=some v→rd V b (off+k+j) v:=fun j v hj=>by
 rw[Kp];exact h _ _ (he j v hj)
def T86(es:Sts):Prop:=∀ {V:qc} {sx:Value} {cx:List Value},Sl 15 V sx cx→Sts.Is V es cx→wSs es≤100000→Rel Tryz.prog 86 [sx] V (FlR V (floSs es))
def K86:St_→Prop
 | .mk _ _ _ _ _ _ _ tn el=>T86 tn∧T86 el
set_option maxHeartbeats 8000000 in
theorem qwV{es:Sts}(hk:∀x∈es.list,K86 x):T86 es:=by
 intro V sx cx hsx has hw0;have hp:=Sts.parts has;rw[qbh,← qb0 ZJ es.list (zI _)];have hpl:=fun j=>qyF (es:=es) j
 generalize hm:es.list.length=m at *
 refine Qq Tryz.func86 rfl Tryz.ntmps86 rfl ?_;intro X w hM hw hV0 hR;dsimp only[qZ,Nat.zero_add,Nat.reduceAdd]
 (repeat'(first|refine qq ?_|refine qa ?_|refine qo ?_|refine qe ?_|refine qt ?_|((refine qn rfl ?_);(refine qd rfl ?_))))
 refine jC (fun L' V' G' μ=>∃(i:Nat) (v:Value) (Gr:Own) (M:Nat),i≤m∧μ=m-i∧Sub V V'∧M≤wSs es∧Row 23 1 v Gr M (fcs (Y3 ZJ es.list i))∧G'=Gr++[]∧L'=[(4,.int .i64 i),(3,v),(2,.slice none 0 0),(0,sx)]) (m0:=m) (by repeat(first|exact .nil|refine .cons rfl ?_)) (zJ _) ⟨0,_,[],0,by omega,by omega,Sub.refl _,by omega,Row.nil,rfl,rfl⟩ ?_
 rintro L' V' G' μ ⟨i,v,Gr,M,hi,hμ,hVs,hM1,hRow,hGe,hLe⟩
 subst hGe hLe
 by_cases hlt:i<m
 · obtain⟨ax,lx,qx,rfl,hq1,hq2,hlx,hpx⟩:=hsx
   have hxl:=hp.1;have hlx':lx=m:=by omega
   subst hlx';have hbig:lx≤9223372036854775807:=by unfold maxLen at hq2;omega
   obtain⟨bx,ox,rfl,hrx⟩:=hpx.resolve_left (by omega)
   obtain⟨c,hc1,⟨x,hx1,hc2⟩,hc3⟩:=hp.rd hrx (i:=i) (by omega)
   have hmem:=zO hx1
   have hpj:=hpl i;have hpj1:=hpl (i+1)
   have hsucc:=qaB (f:=ZJ) hx1
   rw[hsucc,zb]at hpj1;have kx:=hk x hmem;obtain⟨kd,pt,nm,ix,ex,lo,hi_,tn,el⟩:=x;obtain⟨kT,kL⟩:=kx;have hwx:=qdO hmem;simp only[wS]at hwx;simp only[ZJ]at hsucc hpj1;simp only[St_.Is]at hc2;obtain⟨s1,c1,ce,s2,c2,s3,c3,rfl,g1,h1,he,g2,h2,g3,h3⟩:=hc2;have hix:=Exs.parts h1;have hie:floEs ix=Y3 QP ix.list ix.list.length:=by rw[qb0 _ _ (zI _),← Zp]
   have hil:=fun j=>qvp (es:=ix) j
   have hel:=he.len;have hbx:=he;obtain⟨a0,a1,a2,a3,a4,a5,a6,a7,a8,rfl⟩:=hbx.lits;simp only[zD,zy]at hc1 hc3;have r3:=hc3 3 _ rfl
   have r4:=qtY (k:=4) hc3 (ce:=[.int .u8 a0,.int .i64 a1,.bool a2,.int .i32 a3,.int .u64 a4,.string a5,.slice a6 a7 a8]) (fun j v hj=>by
    have:j<7:=by have:=(zu.1 hj).1;simpa using this
    rcases j with _|_|_|_|_|_|_|j <;> first|exact hj|omega)
   have r13:=hc3 13 _ rfl
   have r14:=hc3 14 _ rfl
   simp only[zb]at hpj1;rw[hie]at hpj1 hsucc;have q1:=Zo ex;have q2:=floSs_le tn;have q3:=floSs_le el;generalize hm2:ix.list.length=m2 at *
   have hw2:wE ex≤100000:=by omega
   have hw3:wSs tn≤100000:=by omega
   have hw4:wSs el≤100000:=by omega
   have hw5:wEs ix≤100000:=by omega
   (repeat'(first|refine qq ?_|refine qa ?_|refine qo ?_|refine qe ?_|refine qt ?_|refine qF ?_|(refine qn rfl ?_;first|refine Qr rfl rfl (by omega) ?_|refine qh rfl ?_|refine qd rfl ?_|refine jP tb rfl rfl rfl ?_)|refine qE rfl ?_))
   refine jC (fun L' V' G' μ=>∃(k:Nat) (v:Value) (Gr:Own) (M:Nat),k≤m2∧μ=m2-k∧Sub V V'∧Row 23 1 v Gr M (fcs (Y3 ZJ es.list i++Y3 QP ix.list k))∧G'=Gr++[]∧L'=[(5,.int .i64 k),(4,.int .i64 i),(3,v),(2,.slice none 0 0),(0,.slice (some ⟨bx,ox,none⟩) lx qx)]) (m0:=m2) (by repeat(first|exact .nil|refine .cons rfl ?_)) (zJ _) ⟨0,_,_,_,by omega,by omega,hVs,(by rw[qgu,z7];exact hRow),rfl,rfl⟩ ?_
   clear hVs hRow hM1
   rintro L' V' G' μ' ⟨k,v,Gr,M,hki,hμ',hVs,hRow,hGe,hLe⟩
   subst hGe hLe
   have hlen:=hRow.len;rw[yH,zb]at hlen;by_cases hlt2:k<m2
   · obtain⟨ay,ly,qy,rfl,u1,u2,u3,u4⟩:=g1
     have hyl:=hix.1;have hly:ly=m2:=by omega
     have hbig2:ly≤9223372036854775807:=by unfold maxLen at u2;omega
     obtain⟨by_,oy,rfl,hry⟩:=u4.resolve_left (by omega)
     obtain⟨cc,hd1,⟨y,hy1,hd2⟩,hd3⟩:=hix.rd hry (i:=k) (by omega)
     have hm0:=zO hy1
     have hwy:=qk3 hm0;have hfy:=Zo y;have hik:=hil (k+1)
     have hys:=qaB (f:=QP) hy1
     rw[hys,zb]at hik;have hcall:=c85 y (V:=V') (Ex.Is.mono hVs _ hd2) (by omega)
     (repeat'(first|refine qq ?_|refine qa ?_|refine qo ?_|refine qe ?_|refine qt ?_|refine qF ?_|refine qS ?_|(refine qn rfl ?_;first|refine Qr rfl rfl (by omega) ?_|refine qB tb rfl rfl rfl (by omega) (by omega) ?_|refine YS tb rfl rfl r3 hVs ?_|refine jw tb rfl rfl hd1 (by decide) hd3 hVs ?_|(refine jW tb rfl rfl hcall ?_;rintro _ V1 _ ⟨hs1,hS1⟩)|(apply yj tb rfl rfl rfl (by decide) b23 rfl rfl hS1 (yH _) (JO _) hRow (zr _) (by omega);intro v1 Gr1 hRow1)|refine qh rfl ?_|refine qd rfl ?_|refine jf rfl rfl (by omega) (by omega) ?_|refine qb tb rfl rfl ?_|refine jP tb rfl rfl rfl ?_)|refine qE rfl ?_))
     refine jb (by repeat(first|exact .nil|refine .cons rfl ?_)) (zJ _) ⟨k+1,_,_,_,by omega,rfl,hVs.trans hs1,(by rw[hys,← zw,← JP];exact hRow1),rfl,rfl⟩ (by omega)
   · obtain rfl:k=m2:=by omega
     have hik:=hil k;have g1':=g1.mono hVs;have hcE:=c85 ex (V:=V') (Ex.Is.mono hVs _ he) hw2
     (repeat'(first|refine qq ?_|refine qa ?_|refine qo ?_|refine qe ?_|refine jh ?_|refine qG ?_|refine qD ?_|refine qI ?_|(refine qn rfl ?_;first|refine qB tb rfl rfl rfl (by omega) (by omega) ?_|refine YS tb rfl rfl r3 hVs ?_|refine qX tb rfl g1' rfl rfl hix.1 (by decide) ?_|refine QD rfl rfl (by omega) ?_|refine jw tb rfl rfl hel (by decide) r4 hVs ?_|(refine jW tb rfl rfl hcE ?_;rintro _ V1 _ ⟨hs1,hS1⟩)|(apply yj tb rfl rfl rfl (by decide) b23 rfl rfl hS1 (yH _) (JO _) hRow (zr _) (by omega);intro v1 Gr1 hRow1)|refine qh rfl ?_|refine qd rfl ?_|refine qb tb rfl rfl ?_)|refine qz rfl ?_))
     have hV1:=hVs.trans hs1;have hl1:=hRow1.len;rw[zb,yH,yH]at hl1;have hcT:=kT (V:=V1) (g2.mono hV1) (Sts.Is.mono hV1 _ h2) hw3
     (repeat'(first|refine qa ?_|refine qo ?_|refine qe ?_|(refine qn rfl ?_;first|refine qB tb rfl rfl rfl (by omega) (by omega) ?_|refine YS tb rfl rfl r13 hV1 ?_|(refine jW tb rfl rfl hcT ?_;rintro _ V2 _ ⟨hs2,hS2⟩)|(apply yj tb rfl rfl rfl (by decide) b23 rfl rfl hS2 (yH _) (JO _) hRow1 (zr _) (by omega);intro v2 Gr2 hRow2)|refine qh rfl ?_|refine qd rfl ?_|refine qb tb rfl rfl ?_)))
     have hV2:=hV1.trans hs2;have hcL:=kL (V:=V2) (g3.mono hV2) (Sts.Is.mono hV2 _ h3) hw4
     (repeat'(first|refine qa ?_|refine qo ?_|refine qe ?_|refine qS ?_|(refine qn rfl ?_;first|refine YS tb rfl rfl r14 hV2 ?_|(refine jW tb rfl rfl hcL ?_;rintro _ V3 _ ⟨hs3,hS3⟩)|(apply yj tb rfl rfl rfl (by decide) b23 rfl rfl hS3 (yH _) (JO _) hRow2 (zr _) (by omega);intro v3 Gr3 hRow3)|refine qh rfl ?_|refine qd rfl ?_|refine jf rfl rfl (by omega) (by omega) ?_)))
     have hRow4:=hRow3;rw[JP,JP,JP]at hRow4;have hR4:=hRow4.len;refine jb (by repeat(first|exact .nil|refine .cons rfl ?_)) (zJ _) ⟨i+1,_,_,_,by omega,rfl,hV2.trans hs3,?_,(by rw[hsucc,← zw,← zw,← zw];exact hRow4),rfl,rfl⟩ (by omega)
     rw[yH]at hR4;simp only[zb]at hR4;omega
 · obtain rfl:i=m:=by omega
   have hs':=hsx.mono hVs;rw[z7];rcases hRow.frozen with⟨rfl,rfl,hnil⟩|⟨g,o,rfl,hfr⟩
   · (repeat'(first|refine qq ?_|refine qa ?_|refine qo ?_|refine qe ?_|refine jh ?_|refine qG ?_|refine qD ?_|refine qI ?_|refine qO ?_|(refine qn rfl ?_;first|refine qX tb rfl hs' rfl rfl hp.1 (by decide) ?_|refine QD rfl rfl (by omega) ?_|refine qh rfl ?_|refine qd rfl ?_)|refine qz rfl ?_))
     refine yS hM hw hV0 hR (jU rfl rfl) ⟨hVs,?_⟩
     rw[hnil];exact Sl.nil _ _
   · refine qd9 hM (fun hno=>?_)
     have hs2:=hVs.trans (Sub.addV (o:=o) hno)
     have hs3:=hsx.mono hs2
     (repeat'(first|refine qq ?_|refine qa ?_|refine qo ?_|refine qe ?_|refine jh ?_|refine qG ?_|refine qD ?_|refine qI ?_|refine qO ?_|(refine qn rfl ?_;first|refine qX tb rfl hs3 rfl rfl hp.1 (by decide) ?_|refine QD rfl rfl (by omega) ?_|refine qh rfl ?_|refine qd rfl ?_)|refine qz rfl ?_))
     exact yS hM hw hV0 hR (jU rfl rfl) ⟨hs2,hfr _⟩
mutual
theorem c86k:∀x:St_,K86 x
 | .mk _ _ _ _ _ _ _ tn el=>⟨qwV (c86l tn),qwV (c86l el)⟩
 termination_by structural x=>x
theorem c86l:∀(es:Sts),∀x∈es.list,K86 x
 | .nil,x,hm=>by simp[Sts.list]at hm
 | .cons e r,x,hm=>by
  rcases zK.1 hm with h|h
  · rw[h];exact c86k e
  · exact c86l r x h
 termination_by structural es=>es
end
theorem c86(es:Sts):T86 es:=qwV (c86l es)
end Fly
end
section
namespace Fly
open Go
theorem qn1{P:Program}{n:Nat}{X:Cx}{L:Lo}{V:qc}{G:Own}{K:List KI}{e:Exit}{p:Nat×Obj}(hM:X.M=fun _=>False)(h:V p.1=none→WE P n X L (addV V p.1 p.2) G e K):WE P n X L V (p::G) e K:=fun a w ha hw=>h (hw.free _ (zM ..)).2 a w ha hw.freeze
theorem Row.lit{e:TypeId}{v:Value}{Gr:Own}{m:Nat}{xs:List Value}(h:Row e 1 v Gr m xs):∃a l q,v = .slice a l q:=by
 rcases h.parts with⟨h,_⟩|⟨g,cap,cur,h,_⟩ <;> exact⟨_,_,_,h⟩
theorem qn2{P:Program}{n:Nat}{X:Cx}{L:Lo}{V:qc}{G1 Gr:Own}{K:List KI}{c:Code}{e:TypeId}{v:Value}{M:Nat}{xs:List Value}(hM:X.M=fun _=>False)(hR:Row e 1 v Gr M xs)(h:∀V2,Sub V V2→Sl 1 V2 v xs→WC P n X L V2 G1 c K):WC P n X L V (G1++Gr) c K:=by
 rcases hR.frozen with⟨rfl,rfl,rfl⟩|⟨g,o,rfl,hf⟩
 · rw[z7];exact h V (Sub.refl _) (Sl.nil _ _)
 · refine qsS (zF (l₁:=G1) (l₂:=[(g,o)])) ?_
   exact qd9 hM fun hno=>h _ (Sub.addV hno) (hf V)
end Fly
end
section
namespace Fly
open Go Go.Proofs Su
set_option maxRecDepth 10000
attribute [local irreducible] WC WE WR Opr St Go.Calls Qy Qf ji Rel jk Qe yR Owe One Qg Go.CallsD
def fD(d:Dc):List Int:=QP d.lo++QP d.hi
theorem qyG{ds:List Dc}(i:Nat):(Y3 fD ds i).length≤wDs ds:=by
 have h1:=qhQ fD ds i;have h2:=qeY ds;rw[qbi]at h2;exact KF h1 h2
theorem qqq{d:Dc}:∀ {ds:List Dc},d∈ds→wD d≤wDs ds
 | x::r,h=>by
  rcases zK.1 h with h|h
  · subst h;simp only[wDs];omega
  · have:=qqq h;simp only[wDs];omega
set_option maxHeartbeats 8000000 in
theorem cFls{V:qc}{p:Pg}{cx:List Value}(hE:Pg.Is V p cx)(hw0:wP p≤1500):Rel Tryz.prog 39 [.agg cx.toArray] V (FlR V (qeX p)):=by
 obtain⟨sd,cd,si,ci,ss,cS,rfl,g1,h1,g2,h2,g3,h3⟩:=hE;have hp:=QA.parts h1;unfold wP at hw0;have hfp:qeX p=Y3 fD p.ds p.ds.length++floSs p.ini++floSs p.step:=by rw[qb0 _ _ (zI _)];unfold qeX;rw[qbi];rfl
 rw[hfp];clear hfp;have hpl:=fun j=>qyG (ds:=p.ds) j
 have q2:=floSs_le p.ini;have q3:=floSs_le p.step;generalize hm:p.ds.length=m at *
 refine Qq Tryz.func39 rfl Tryz.ntmps39 rfl ?_;intro X w hM hw hV0 hR;dsimp only[qZ,Nat.zero_add,Nat.reduceAdd]
 (repeat'(first|refine qq ?_|refine qa ?_|refine qo ?_|refine qe ?_|refine qt ?_|(refine qn rfl ?_;first|(refine qJ rfl ?_;intro bb)|refine qd rfl ?_)))
 refine jC (fun L' V' G' μ=>∃(i:Nat) (v:Value) (Gr:Own) (M:Nat),i≤m∧μ=m-i∧Sub V V'∧Row 23 1 v Gr M (fcs (Y3 fD p.ds i))∧G'=Gr++[(bb,.cells [.int .i64 p.ticks,sd,si,ss].toArray 66 (0,0))]∧L'=[(4,.int .i64 i),(3,v),(2,.slice none 0 0),(1,.pointer (some ⟨bb,0,none⟩))]) (m0:=m) (by repeat(first|exact .nil|refine .cons rfl ?_)) (zJ _) ⟨0,_,[],0,by omega,by omega,Sub.refl _,Row.nil,rfl,rfl⟩ ?_
 rintro L' V' G' μ ⟨i,v,Gr,M,hi,hμ,hVs,hRow,hGe,hLe⟩
 subst hGe hLe
 have hlen:=hRow.len;rw[yH]at hlen;have hpj:=hpl i;by_cases hlt:i<m
 · obtain⟨ax,lx,qx,rfl,hq1,hq2,hlx,hpx⟩:=g1
   have hxl:=hp.1;have hlx':lx=m:=by omega
   subst hlx';have hbig:lx≤9223372036854775807:=by unfold maxLen at hq2;omega
   obtain⟨bx,ox,rfl,hrx⟩:=hpx.resolve_left (by omega)
   obtain⟨c,hc1,⟨d,hx1,hc2⟩,hc3⟩:=hp.rd hrx (i:=i) (by omega)
   have hmem:=zO hx1
   have hsucc:=qaB (f:=fD) hx1
   have hpj1:=hpl (i+1)
   rw[hsucc]at hpj1;simp only[fD,zb]at hpj1;have hwd:=qqq hmem;unfold wD at hwd;obtain⟨cl,ch,rfl,k1,k2⟩:=hc2;have l1:=k1.len;have l2:=k2.len;obtain⟨b0,b1,b2,b3,b4,b5,b6,b7,b8,rfl⟩:=k1.lits;obtain⟨d0,d1,d2,d3,d4,d5,d6,d7,d8,rfl⟩:=k2.lits;simp only[zD,zy]at hc1 hc3;have r6:=qtY (k:=6) hc3 (ce:=[.int .u8 b0,.int .i64 b1,.bool b2,.int .i32 b3,.int .u64 b4,.string b5,.slice b6 b7 b8]) (fun j v hj=>by
    have:j<7:=by have:=(zu.1 hj).1;simpa using this
    rcases j with _|_|_|_|_|_|_|j <;> first|exact hj|omega)
   have r13:=qtY (k:=13) hc3 (ce:=[.int .u8 d0,.int .i64 d1,.bool d2,.int .i32 d3,.int .u64 d4,.string d5,.slice d6 d7 d8]) (fun j v hj=>by
    have:j<7:=by have:=(zu.1 hj).1;simpa using this
    rcases j with _|_|_|_|_|_|_|j <;> first|exact hj|omega)
   have hcA:=c85 d.lo (V:=V') (Ex.Is.mono hVs _ k1) (by omega)
   (repeat'(first|refine qq ?_|refine qa ?_|refine qo ?_|refine qe ?_|refine qt ?_|refine qF ?_|(refine qn rfl ?_;first|(apply qp tb rfl rfl;(·exact At.own (.app .here));(·exact rfl))|refine Qr rfl rfl (by omega) ?_|refine qB tb rfl rfl rfl (by omega) (by omega) ?_|refine jw tb rfl rfl l1 (by decide) r6 hVs ?_|(refine jW tb rfl rfl hcA ?_;rintro _ V1 _ ⟨hs1,hS1⟩)|(apply yj tb rfl rfl rfl (by decide) b23 rfl rfl hS1 (yH _) (JO _) hRow (zr _) (by omega);intro v1 Gr1 hRow1)|refine qh rfl ?_|refine qd rfl ?_|refine qb tb rfl rfl ?_|refine jP tb rfl rfl rfl ?_)|refine qE rfl ?_))
   have hV1:=hVs.trans hs1;have hcB:=c85 d.hi (V:=V1) (Ex.Is.mono hV1 _ k2) (by omega)
   (repeat'(first|refine qa ?_|refine qo ?_|refine qe ?_|refine qS ?_|(refine qn rfl ?_;first|refine jw tb rfl rfl l2 (by decide) r13 hV1 ?_|(refine jW tb rfl rfl hcB ?_;rintro _ V2 _ ⟨hs2,hS2⟩)|(apply yj tb rfl rfl rfl (by decide) b23 rfl rfl hS2 (yH _) (JO _) hRow1 (zr _) (by omega);intro v2 Gr2 hRow2)|refine qh rfl ?_|refine qd rfl ?_|refine jf rfl rfl (by omega) (by omega) ?_)))
   refine jb (by repeat(first|exact .nil|refine .cons rfl ?_)) (zJ _) ⟨i+1,_,_,_,by omega,rfl,hV1.trans hs2,(by rw[hsucc,fD,← zw,← JP,← JP];exact hRow2),rfl,rfl⟩ (by omega)
 · obtain rfl:i=m:=by omega
   have hs':=g1.mono hVs;have hcI:=c86 p.ini (V:=V') (g2.mono hVs) (Sts.Is.mono hVs _ h2) (by omega)
   (repeat'(first|refine qq ?_|refine qa ?_|refine qo ?_|refine qe ?_|refine jh ?_|refine qG ?_|refine qD ?_|refine qI ?_|(refine qn rfl ?_;first|(apply qp tb rfl rfl;(·exact At.own (.app .here));(·exact rfl))|refine qX tb rfl hs' rfl rfl hp.1 (by decide) ?_|refine QD rfl rfl (by omega) ?_|(refine jW tb rfl rfl hcI ?_;rintro _ V1 _ ⟨hs1,hS1⟩)|(apply yj tb rfl rfl rfl (by decide) b23 rfl rfl hS1 (yH _) (JO _) hRow (zr _) (by omega);intro v1 Gr1 hRow1)|refine qh rfl ?_|refine qd rfl ?_|refine qb tb rfl rfl ?_)|refine qz rfl ?_))
   have hV1:=hVs.trans hs1;have hcS:=c86 p.step (V:=V1) (g3.mono hV1) (Sts.Is.mono hV1 _ h3) (by omega)
   (repeat'(first|refine qo ?_|refine qe ?_|refine qO ?_|(refine qn rfl ?_;first|(refine jW tb rfl rfl hcS ?_;rintro _ V2 _ ⟨hs2,hS2⟩)|(apply yj tb rfl rfl rfl (by decide) b23 rfl rfl hS2 (yH _) (JO _) hRow1 (zr _) (by omega);intro v2 Gr2 hRow2)|refine qd rfl ?_)))
   rw[JP,JP]at hRow2;have hV2:=hV1.trans hs2;rcases hRow2.frozen with⟨rfl,rfl,hnil⟩|⟨g,o,rfl,hfr⟩
   · refine yS hM hw hV0 hR (jU rfl rfl) ⟨hV2,?_⟩
     rw[hnil];exact Sl.nil _ _
   · refine qn1 hM (fun hno=>?_)
     exact yS hM hw hV0 hR (jU rfl rfl) ⟨hV2.trans (Sub.addV (o:=o) hno),hfr _⟩
end Fly
end
section
namespace Fly
open Go Go.Proofs
set_option maxRecDepth 10000
attribute [local irreducible] WC WE WR Opr St Go.Calls Qy Qf yR Owe One Qg
attribute [local irreducible] Wn Yp
def C40(V:qc)(es:Exs):Prop:=∀ {sx:Value} {cx:List Value},Sl 7 V sx cx→Exs.Is V es cx→ji Tryz.prog 135 [sx] V (.int .i64 (Wn (numEs es)))
def K40(V:qc):Ex→Prop
 | .mk _ _ _ _ _ _ es=>C40 V es
theorem c40b{V:qc}{es:Exs}(ih:∀x∈es.list,K40 V x):C40 V es:=by
 intro sx cx hsx has;have hp:=Exs.parts has;generalize hm:es.list.length=m at *
 have hmb:m≤9223372036854775807:=by
  obtain⟨_,l,q,_,hq1,hq2,hl,_⟩:=hsx;have:=hp.1
  unfold maxLen at hq2;omega
 refine qT Tryz.func135 rfl Tryz.ntmps135 rfl ?_;intro X w hM hw hV0 hR;dsimp only[qZ,Nat.zero_add,Nat.reduceAdd]
 (repeat'(first|refine qq ?_|refine qa ?_|refine qo ?_|refine qe ?_|refine qt ?_|(refine qn rfl ?_;first|refine qX tb rfl hsx rfl rfl hp.1 (by decide) ?_|refine qh rfl ?_|refine qd rfl ?_)))
 refine jC (fun L' V' G' μ=>∃i0:Nat,i0≤m∧μ=m-i0∧V'=V∧G'=[]∧L'=[(10,.int .i64 i0),(3,.int .i64 (Wn (m+Yp qeq es.list i0))),(8,sx),(9,.int .i64 m)]) (m0:=m) (by repeat(first|exact .nil|refine .cons rfl ?_|refine SubL.cons (congrArg some (by rw[qap,KQ,qyg hmb])) ?_)) (zJ _) ⟨0,by omega,by omega,rfl,rfl,rfl⟩ ?_
 rintro L' V' G' μ ⟨i0,hi,hμ,hVe,hGe,hLe⟩
 subst hVe hGe hLe
 by_cases hlt:i0<m
 · obtain⟨ax,lx,qx,rfl,hq1,hq2,hlx,hpx⟩:=hsx
   have hxl:=hp.1;have hlx':lx=m:=by omega
   subst hlx';obtain⟨bx,ox,rfl,hrx⟩:=hpx.resolve_left (by omega)
   obtain⟨c,hc1,⟨x,hx1,hc2⟩,hc3⟩:=hp.rd hrx (i:=i0) (by omega)
   have kids:=ih x (zO hx1)
   obtain⟨op,p,bo,i,f,nm,kd⟩:=x;simp only[Ex.Is]at hc2;obtain⟨s1,c1,rfl,g1,h1⟩:=hc2;have k1:=kids g1 h1;obtain⟨_,_,_,rfl⟩:=g1.lit
   (repeat'(first|refine qq ?_|refine qa ?_|refine qo ?_|refine qe ?_|refine qt ?_|refine qF ?_|refine qS ?_|refine jh ?_|refine qG ?_|refine qD ?_|refine qI ?_|refine qO ?_|((first|refine qn rfl ?_|refine jE ?_);(first|refine qbB rfl rfl ?_|refine qB tb rfl rfl rfl (by omega) (by omega) ?_|refine yl tb rfl rfl hc1 (by decide) hc3 ?_|refine qA tb rfl rfl k1 ?_|refine qh rfl ?_|refine qd rfl ?_|refine jV rfl rfl ?_|refine jf rfl rfl (by omega) (by omega) ?_|refine qb tb rfl rfl ?_|(apply qp tb rfl rfl;(·exact At.own .here);(·exact rfl))|(apply yX tb rfl rfl rfl rfl rfl;(·exact .here);(·exact rfl))|(refine yA tb rfl ?_;intro b)))|refine yL rfl (fun _=>?_) (fun _=>?_)))
   all_goals first
    | (exfalso;omega)
    | exact jb (by repeat(first|exact .nil|refine .cons rfl ?_|refine SubL.cons (congrArg some (by first|(rw[qap,qlP])|(congr 2;rw[Jc hx1];simp only[qdm,qeq,qfG,exS];omega)|(congr 2;rw[Jc hx1];simp only[qdm,qcA,qeq,qfG,exS];rw[z6 (by omega)];omega)|(congr 2;rw[Jc hx1];simp only[qdm,qcA,qeq,qfG,exS];rw[zQ (by omega)];omega))) ?_)) (by repeat(first|exact .slnil|apply List.Sublist.cons)) ⟨i0+1,by omega,rfl,rfl,rfl,rfl⟩ (by omega)
 · (repeat'(first|refine qq ?_|refine qa ?_|refine qo ?_|refine qe ?_|refine qt ?_|refine qF ?_|refine jh ?_|refine qG ?_|refine qD ?_|refine qI ?_|refine qO ?_|(refine qn rfl ?_;first|refine qh rfl ?_|refine qd rfl ?_|refine jV rfl rfl ?_)|refine yL rfl (fun _=>?_) (fun _=>?_)))
   all_goals first
    | (exfalso;omega)
    | ((refine qR hM hw hV0 hR (jU rfl rfl) ?_);rw[qeu _ _ (by omega),qfZ,qiG,hm])
mutual
theorem c40k{V:qc}:∀(x:Ex),K40 V x
 | .mk _ _ _ _ _ _ es=>c40b (c40l es)
 termination_by structural x=>x
theorem c40l{V:qc}:∀(es:Exs),∀x∈es.list,K40 V x
 | .nil,x,hm=>by simp[Exs.list]at hm
 | .cons e r,x,hm=>by
  rcases zK.1 hm with h|h
  · rw[h];exact c40k e
  · exact c40l r x h
 termination_by structural x=>x
end
theorem c40{V:qc}(es:Exs):C40 V es:=c40b (c40l es)
end Fly
end
