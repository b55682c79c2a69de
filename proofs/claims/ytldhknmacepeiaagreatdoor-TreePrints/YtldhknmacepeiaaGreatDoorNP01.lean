/-
  What functions compute.
-/
import Derived.Test.YtldhknmacepeiaaGreatDoorTrS
import Derived.ChangeSame
import Derived.ChangeOld
import Derived.DataReads
import Derived.RowKit
set_option linter.unusedVariables false
set_option linter.unusedSimpArgs false
set_option maxRecDepth 10000
section
namespace Su
open Go Fly
noncomputable section
def qdS:Stp (Int×ByteArray×Unit):=fun p0=>(bif(decide (10≤p0.1))then
 (bif(Nat.ble ((ByteArray.size (byI [(IntKind.wrap .u8 (IntKind.wrap .u64 (48+(Int.tmod (IntKind.wrap .u64 (Int.tdiv p0.1 10)) 10))))]))+(ByteArray.size p0.2.1)) 549755813888)then
 some (.inl ((IntKind.wrap .u64 (Int.tdiv p0.1 10)),((byI [(IntKind.wrap .u8 (IntKind.wrap .u64 (48+(Int.tmod (IntKind.wrap .u64 (Int.tdiv p0.1 10)) 10))))])++p0.2.1),()))
 else none)
 else
  some (.inr (p0.1,p0.2.1,())))
def qx0  (fu:Nat)(n:Int):Option ByteArray :=
 (itP fu (qdS) ((IntKind.wrap .u64 n),(byI [(IntKind.wrap .u8 (IntKind.wrap .u64 (48+(Int.tmod (IntKind.wrap .u64 n) 10))))]),())).bind fun x1=>
 some x1.2.1
theorem b1u(k:Nat)(h:k<10):IntKind.u8.wrap (IntKind.u64.wrap (48+(k:Int)))=((48+k:Nat):Int):=by
 rw[yd (by omega) (by omega)];have:IntKind.u8.wrap ((48+k:Nat):Int)=((48+k:Nat):Int):=Zm (by unfold inR;simp;exact⟨by show(0:Int)≤_;omega,by show _≤(255:Int);omega⟩)
 rw[show(48+(k:Int))=((48+k:Nat):Int) by omega,this]
theorem qsy:∀(j N:Nat) (T:List UInt8),N<10^(j+1)→N<18446744073709551616→T.length+j≤1000→∃n m,itP n qdS ((N:Int),bs (UInt8.ofNat (48+N % 10)::T),())=some ((m:Int),bs (dg N++T),())
 | j,N,T,hj,hN,hT=>by
  by_cases h:N<10
  · refine⟨1,(N:Int),?_⟩
    have d0:decide ((10:Int)≤(N:Int))=false:=zq (by omega)
    rw[jR];simp only[qdS,d0,zo,ZD h,WM];rw[show N % 10=N by omega];rfl
  · obtain⟨g,rfl⟩:∃g,j=g+1:=by
     cases j with
     | zero=>exact absurd hj (by omega)
     | succ g=>exact⟨g,rfl⟩
    have d0:decide ((10:Int)≤(N:Int))=true:=zh (by omega)
    have hw:IntKind.u64.wrap ((N / 10:Nat):Int)=((N / 10:Nat):Int):=yd (by omega) (by omega)
    have hb:=b1u (N / 10 % 10) (by omega)
    have hl:Nat.ble ((bs [UInt8.ofNat (48+N / 10 % 10)]).size+(bs (UInt8.ofNat (48+N % 10)::T)).size) 549755813888=true:=zN (by rw[jB,jB];simp;omega)
    obtain⟨n,m,q⟩:=qsy g (N / 10) (UInt8.ofNat (48+N % 10)::T) (by rw[Ke]at hj;omega) (by omega) (by simp;omega)
    refine⟨n+1,m,?_⟩
    rw[jR];simp only[qdS,d0,tdN,hw,tmN,hb,by1,hl,QY,zg];rw[qb1 (by omega:10≤N),zw,WM];exact q
def qsz(n:Int):Option ByteArray:=some (bs (dg (IntKind.u64.wrap n).toNat))
theorem quX(n:Int)(y:ByteArray)(hg:(d1 (cI .i64)).good n)(h:qsz n=some y):∃m,qx0 m n=some y:=by
 have:=soi h;subst this
 obtain⟨h0,h1⟩:=qdI.1 (yT .u64 n)
 obtain⟨N,hN⟩:=VK h0;unfold qx0;rw[hN]at h1 ⊢;obtain⟨m,z,q⟩:=qsy 20 N [] (Kv (by omega:N<18446744073709551616) (by decide)) (by omega) (by decide)
 refine⟨m,?_⟩
 have hb:=b1u (N % 10) (by omega)
 rw[tmN,hb,by1];refine obs q ?_
 rw[z7];rfl
end
end Su
end
section
namespace Su
open Go Fly
noncomputable section
def qx1  (n:Int):Option ByteArray :=
 (bif(decide (n<0))then
 (bif(Nat.ble (1+(ByteArray.size (bs (dg (Int.toNat (IntKind.wrap .u64 (IntKind.wrap .i64 (0-n)))))))) 549755813888)then
 some ((ByteArray.mk (List.toArray [45]))++(bs (dg (Int.toNat (IntKind.wrap .u64 (IntKind.wrap .i64 (0-n)))))))
 else none)
 else
  some (bs (dg (Int.toNat (IntKind.wrap .u64 n)))))
def qsA(n:Int):Option ByteArray:=some (bs (itT n))
theorem dgl2{n j:Nat}(h:n<10^(j+1)):(dg n).length≤j+1:=by
 induction j generalizing n with
 | zero=>rw[ZD (by omega)];simp
 | succ j ih=>
  by_cases h1:n<10
  · rw[ZD h1];simp
  · rw[qb1 (by omega),zb]
    have:=ih (n:=n / 10) (by rw[Ke]at h;omega)
    simp only[VU];omega
theorem quY(n:Int)(y:ByteArray)(hg:(d1 (cI .i64)).good n)(h:qsA n=some y):qx1 n=some y:=by
 have:=soi h;subst this
 obtain⟨h0,h1⟩:=QX.1 hg;unfold qx1 itT;by_cases hn:n<0
 · have e:IntKind.u64.wrap (IntKind.i64.wrap (0-n))=((n.natAbs:Nat):Int):=by
    by_cases hm:n = -9223372036854775808
    · subst hm;decide
    · rw[w64 (by omega) (by omega),yd (by omega) (by omega)];omega
   have hl:=dgl2 (n:=n.natAbs) (j:=18) (by omega)
   rw[zh hn,zg,zg,e,zn,zN (by rw[jB];omega),zg,qgw,QY];rfl
 · rw[zq hn,zo,zo,yd (by omega) (by omega)]
end
end Su
end
section
namespace Su
noncomputable section
open Go Go.Proofs Fly
set_option maxRecDepth 100000
def qsB:PrimD:=prim (d1 (cI .i64)) (d1 cS) (qsz)
theorem qx2:OkT 143 qsB:=YA yI qg0 (fun fu a=>qx0 fu a) (by kernel_rfl) (fun _ _=>by kernel_rfl) quX
def qx3:jl:=Ql [(143,qsB)] qsr
theorem qoz:PkT qx3:=jc qg0 (qQ qx2 jx)
end
end Su
end
section
namespace Su
open Go Go.Proofs Fly
set_option maxRecDepth 100000
noncomputable def qx4:PrimD:=prim (d1 (cI .i64)) (d1 cS) (qsA)
theorem qx5:OkT 90 qx4:=Q0 yI qoz (fun a=>qx1 a) (by kernel_rfl) (fun _ _=>by kernel_rfl) quY
end Su
end
section
namespace Fly
open Go Go.Proofs Su
set_option maxRecDepth 10000
theorem quZ{V:qc}(hgk:GOK Su.tb V){n:Int}(h:inR .i64 n=true):jk Tryz.prog 90 [.int .i64 n].toArray V [] fun v _ G=>v = .string (bs (itT n))∧G=[]:=by
 refine qvT qx5 hgk (xs:=[.s (.int .i64 n)]) (vs:=[_]) (a:=n) ?_ rfl (.cons (.s h) .nil) ?_
 · rfl
 · intro V' rvs m
   cases m with|cons m1 m=>cases m with|nil=>cases m1 with|s _=>exact⟨rfl,rfl⟩
theorem dgV{V:qc}(hsg:yt V):DgV JH V:=fun n hn=>by
 have e:JH.itoa n=itT n:=by show(bif inR .i64 n then itT n else[])=_;rw[hn];rfl
 rw[e];exact Jk (quZ hsg.1 hn)
noncomputable def tcs(F:List Int):List Value:=F.map fun f=>Value.string (bs (JH.flt f))
theorem qu0(F:List Int):(tcs F).length=F.length*1:=by simp[tcs]
theorem qsC{F:List Int}{i:Nat}{f:Int}(h:F[i]?=some f):tcs (F.take (i+1))=tcs (F.take i)++[.string (bs (JH.flt f))]:=by
 unfold tcs;rw[VO,h];simp
mutual
theorem qci:∀ {x:Ex},qe0 x→∀f,f∈QP x→inR .u64 f=true
 | .mk op _ _ _ g _ al,⟨⟨_,h2⟩,h3⟩,f,hf=>by
  simp only[QP,zS]at hf;rcases hf with hf|hf
  · split at hf
    · rw[List.mem_singleton]at hf;rw[hf];exact h2
    · cases hf
  · exact floEs_rng h3 f hf
theorem floEs_rng:∀ {x:Exs},RngEs x→∀f,f∈floEs x→inR .u64 f=true
 | .nil,_,f,hf=>by simp[floEs]at hf
 | .cons e r,⟨h1,h2⟩,f,hf=>by
  simp only[floEs,zS]at hf;rcases hf with hf|hf
  · exact qci h1 f hf
  · exact floEs_rng h2 f hf
end
mutual
theorem qsD:∀ {x:St_},qjr x→∀f,f∈ZJ x→inR .u64 f=true
 | .mk kd p nm ix ex lo hi tn el,⟨h1,h2,_,_,h5,h6⟩,f,hf=>by
  simp only[ZJ,zS]at hf;rcases hf with((hf|hf)|hf)|hf
  · exact floEs_rng h1 f hf
  · exact qci h2 f hf
  · exact floSs_rng h5 f hf
  · exact floSs_rng h6 f hf
theorem floSs_rng:∀ {x:Sts},RngSs x→∀f,f∈floSs x→inR .u64 f=true
 | .nil,_,f,hf=>by simp[floSs]at hf
 | .cons e r,⟨h1,h2⟩,f,hf=>by
  simp only[floSs,zS]at hf;rcases hf with hf|hf
  · exact qsD h1 f hf
  · exact floSs_rng h2 f hf
end
theorem qg1:∀ {ds:List Dc},(∀d∈ds,qtV d)→∀f,f∈Y2 ds→inR .u64 f=true
 | [],_,f,hf=>by simp[Y2]at hf
 | d::r,h,f,hf=>by
  simp only[Y2,zS]at hf;obtain⟨_,h2,h3⟩:=h d zM;rcases hf with(hf|hf)|hf
  · exact qci h2 f hf
  · exact qci h3 f hf
  · exact qg1 (fun d' hd=>h d' (zE _ hd)) f hf
theorem qsE{p:Pg}(h:qnY p):∀f,f∈qeX p→inR .u64 f=true:=fun f hf=>by
 obtain⟨_,h2,h3,h4⟩:=h;simp only[qeX,zS]at hf;rcases hf with(hf|hf)|hf
 · exact qg1 h2 f hf
 · exact floSs_rng h3 f hf
 · exact floSs_rng h4 f hf
attribute [local irreducible] WC WE WR Opr St Go.Calls Qy Qf ji Rel jk Qe yR Owe One Qg Go.CallsD
section
variable {P:Program} {n:Nat} {X:Cx} {L:Lo} {V:qc} {G:Own} {Q:Value→qc→Own→Prop} {ty:TypeId} {pos:String} {af:Array Edge} {gd:Option (Nat×Bool)} {ds:Option Tmp} {t u:TypeId} {x y:Operand}
theorem qsF{p q:ByteArray}(hx:ev L x=some (.string p))(hy:ev L y=some (.string q))(h:p=q)(k:Q (.bool false) V G):Opr P n X L V G ⟨ds,.binOp .neq t x y u,ty,pos,af,gd⟩ Q:=qlN hx hy (by rw[zh h];exact k)
end
theorem b9:Tryz.prog.bytesOf 9≤256:=KM (by kernel_rfl)
set_option maxHeartbeats 16000000 in
theorem qu1{V:qc}(hsg:yt V){p:Pg}{cp:List Value}(hp0:Pg.Is V p cp)(gp:qnY p):ji Tryz.prog 8 [.agg cp.toArray] V (.bool true):=by
 have k6:=c6 hsg;have k7:=c7 p 1500 (by omega) (by omega) hp0
 have hp1:=hp0;obtain⟨sd,cd,si,ci,ss,cS,rfl,g1,h1,g2,h2,g3,h3⟩:=hp1;have hps:=Sts.parts h3;refine qT Tryz.func8 rfl Tryz.ntmps8 rfl ?_;intro X w hM hw hV0 hR;dsimp only[qZ,Nat.zero_add,Nat.reduceAdd]
 (repeat'(first|refine qq ?_|refine qa ?_|refine qo ?_|refine qe ?_|refine qF ?_|refine qO ?_|(refine qn rfl ?_;first|(refine qJ rfl ?_;intro bb)|refine qA tb rfl rfl k6 ?_|(refine jW tb rfl rfl k7 ?_;rintro _ V9 _ ⟨z1,rfl,hVe,a1,b1,w1⟩;obtain rfl:=hVe.symm)|refine qh rfl ?_|refine qd rfl ?_|refine qaT rfl rfl ?_|refine qck rfl ?_|(apply qK tb rfl rfl;(·exact At.own .here);(·exact rfl)))|refine qz rfl ?_|refine yL rfl (fun _=>?_) (fun _=>?_)))
 all_goals first
  | ((refine qR hM hw hV0 hR (jU rfl rfl) ?_);rfl)
  | skip
 have hwp:wP p≤1500:=by omega
 clear w1 a1 b1;have hF:=cFls hp0 hwp;have hfr:=qsE gp;have hfl:=qtU p;obtain⟨F,hFF⟩:∃F,F=qeX p:=⟨_,rfl⟩
 rw[← hFF]at hF hfr hfl;obtain⟨m,hm⟩:∃m,m=F.length:=⟨_,rfl⟩
 (repeat'(first|refine qq ?_|refine qa ?_|refine qo ?_|refine qe ?_|refine qt ?_|((first|refine qn rfl ?_|refine jE ?_);(first|(refine jW tb rfl rfl hF ?_;rintro _ V1 _ ⟨hs1,hS1⟩;obtain⟨fa,fl,fq,rfl⟩:=hS1.lit)|(refine yA tb rfl ?_;intro bw)|refine qd rfl ?_|(apply yX tb rfl rfl rfl rfl rfl;(·exact .here);(·exact rfl))|(apply Jo tb (by kernel_rfl) rfl (rfl:tb.fo _ 0=_);(·(repeat(first|exact Fill.nil|(apply Fill.cons;(·exact rfl);(·exact rfl);(·exact rfl);(·exact rfl);(·exact rfl))))))))))
 refine jC (fun L' V' G' μ=>∃(i:Nat) (va:Option Addr) (vl vq:Nat) (Gr:Own) (M:Nat),i≤m∧μ=m-i∧Sub V1 V'∧Row 9 1 (.slice va vl vq) Gr M (tcs (F.take i))∧G'=[(bw,.cells [.slice fa fl fq,.slice va vl vq].toArray 72 (0,0)),(bb,.cells [.int .i64 p.ticks,sd,si,ss].toArray 66 (0,0))]++Gr∧L'=[(5,.int .i64 i),(4,.pointer (some ⟨bw,0,none⟩)),(3,.bool true),(2,.bool false),(1,.pointer (some ⟨bb,0,none⟩))]) (m0:=m) (by repeat(first|exact .nil|refine .cons rfl ?_)) (zJ _) ⟨0,none,0,0,[],0,by omega,by omega,Sub.refl _,Row.nil,rfl,rfl⟩ ?_
 rintro L' V' G' μ ⟨i,va,vl,vq,Gr,M,hi,hμ,hVs,hRow,hGe,hLe⟩
 subst hGe hLe
 have hlen:=hRow.len;rw[qu0,Ka]at hlen;by_cases hlt:i<m
 · obtain⟨f,hf⟩:∃f,F[i]?=some f:=⟨F[i]'(by omega),zA (by omega)⟩
   have hmem:=zO hf
   obtain⟨a1,l1,q1,e1,b1,b2,b3,b4⟩:=hS1;obtain⟨rfl,rfl,rfl⟩:fa=a1∧fl=l1∧fq=q1:=by injection e1 with h1 h2 h3;exact⟨h1,h2,h3⟩
   clear e1;rw[yH,KK,KK]at b3;obtain⟨x1,o1,rfl,r1⟩:=b4.resolve_left (by omega)
   have e1:=r1 i (.int .u64 f) (by simp[fcs,hf])
   rw[← KK i]at e1;have hbig:fl≤9223372036854775807:=by unfold maxLen at b2;omega
   have kd:=Jk (flok (hfr f hmem) V hsg)
   have hV0':Sub V V':=hs1.trans hVs
   have hsuc:=qsC hf
   (repeat'(first|refine qq ?_|refine qa ?_|refine qo ?_|refine qe ?_|refine qt ?_|refine qF ?_|(refine qn rfl ?_;first|refine Qr rfl rfl (by omega) ?_|refine qh rfl ?_|refine qb tb rfl rfl ?_|refine jP tb rfl rfl rfl ?_|(apply qp tb rfl rfl;(·exact At.own .here);(·exact rfl)))|refine qE rfl ?_))
   refine jo (ms:=[0,1,0,4,0,28,60,124,252,511,1023,2047]) 9 mo (by kernel_rfl) (by kernel_rfl) rfl ?_
   repeat(first|(apply Prog.step (Q9 _) (jg _) rfl rfl;(·(intro V1 F1 hs1;(repeat(first|refine jt ?_|refine js ?_));refine qW ?_;(first|refine qb tb rfl rfl ?_|refine YS tb rfl rfl e1 (hVs.trans hs1) ?_|(apply qp tb rfl rfl;(·exact At.own (.app .here));(·exact rfl))|refine qh rfl ?_|refine qB tb rfl rfl rfl (by omega) (by omega) ?_|refine qA tb rfl rfl (kd.mono (hV0'.trans hs1)) ?_);exact Qc));simp only[zy,zD])|(apply Prog.step (qkm (qaX _ _ _)) (qaj Yu) rfl rfl;(·(intro V1 F1 hs1;(repeat(first|refine jt ?_|refine js ?_));refine qW ?_;apply JW tb hM;(·exact rfl);(·exact rfl);(·exact rfl);(·decide);(·(repeat(first|exact .nil|(apply Cat.cons;(·exact rfl);(·exact rfl);(·exact rfl))|exact .nil|apply App.cons)));intro b2 hb2;exact qdq hb2));simp only[zy,zD]))
   refine Prog.done ?_;intro V1 hs1;repeat(first|refine jp ?_|(refine qbr ?_;rintro _ ⟨b1,rfl,hb1⟩)|refine jr ?_)
   have hSz:Sl 1 V1 (.slice (some ⟨b1,0,none⟩) 1 1) [.string (bs (JH.flt f))]:=⟨_,1,1,rfl,zI _,by unfold maxLen;omega,rfl,.inr ⟨b1,0,rfl,fun i c hi=>⟨_,_,_,hb1,by simpa[bs]using hi⟩⟩⟩
   (repeat'(first|refine qa ?_|refine qo ?_|refine qe ?_|refine qS ?_|((first|refine qn rfl ?_|refine jE ?_);(first|(apply yj tb rfl rfl rfl (by decide) b9 rfl rfl hSz (rfl:_=1*1) rfl hRow (zF (l₁:=[_,_])) (by omega);intro v1 Gr1 hRow1;obtain⟨na,nl,nq,rfl⟩:=(Row.lit hRow1);refine jF (zF (l₂:=[_,_])) ?_)|refine qh rfl ?_|refine qd rfl ?_|refine jf rfl rfl (by omega) (by omega) ?_|refine qb tb rfl rfl ?_|(apply yk tb rfl rfl rfl rfl rfl;(·exact .here);(·exact rfl))))))
   refine jb (by repeat(first|exact .nil|refine .cons rfl ?_)) (zJ _) ⟨i+1,_,_,_,_,_,by omega,rfl,hVs.trans hs1,(by rw[hsuc];exact hRow1),rfl,rfl⟩ (by omega)
 · obtain rfl:i=m:=by omega
   refine qn2 hM hRow fun V2 hs2 hS2=>?_
   rw[hm,List.take_length]at hS2;have hs3:Sub V1 V2:=hVs.trans hs2
   have hsv:Sub V V2:=hs1.trans hs3
   have hS1':=hS1.mono hs3;have hPr:PrV JH F V2 (.slice fa fl fq) (.slice va vl vq):=⟨hS1',hS2⟩
   have hDg:=dgV (hsg.mono hsv)
   have hlf:(fcs F).length=F.length*1:=yH F
   have hS1l:=hS1';have kp:=prt (hsg.mono hsv) (Pg.Is.mono hsv hp0) gp hwp
   have hpl:=qgt Y8 p (by omega)
   have kw:=cPrt hPr hDg (Pg.Is.mono hsv hp0) (fun f h=>by rw[hFF];exact h) gp hwp (by omega)
   have gs:=gp.2.2.2;obtain⟨ms,hms⟩:∃ms,ms=p.step.list.length:=⟨_,rfl⟩
   rw[← hms]at hps;have hwst:wSs p.step≤1500:=by unfold wP at hwp;omega
   (repeat'(first|refine qq ?_|refine qa ?_|refine qo ?_|refine qe ?_|refine qt ?_|refine jh ?_|refine qG ?_|refine qD ?_|refine qI ?_|(refine qn rfl ?_;first|refine qX tb rfl hS1l rfl rfl hlf (by decide) ?_|refine QD rfl rfl (by omega) ?_|refine qh rfl ?_|refine qd rfl ?_|refine qb tb rfl rfl ?_|(apply qp tb rfl rfl;(·exact At.own .here);(·exact rfl)))|refine qz rfl ?_))
   refine jC (fun L' V' G' μ=>∃(i:Nat),i≤ms∧μ=ms-i∧Sub V2 V'∧G'=[(bw,.cells [.slice fa fl fq,.slice va vl vq].toArray 72 (0,0)),(bb,.cells [.int .i64 p.ticks,sd,si,ss].toArray 66 (0,0))]∧L'=[(6,.int .i64 i),(4,.pointer (some ⟨bw,0,none⟩)),(3,.bool true),(2,.bool false),(1,.pointer (some ⟨bb,0,none⟩))]) (m0:=ms) (by repeat(first|exact .nil|refine .cons rfl ?_)) (zJ _) ⟨0,by omega,by omega,Sub.refl _,rfl,rfl⟩ ?_
   rintro L' V3 G' μ' ⟨j,hj,hμ',hV3,hGe,hLe⟩
   subst hGe hLe
   have hsv3:Sub V V3:=hsv.trans hV3
   by_cases hlt2:j<ms
   · obtain⟨ax,lx,qx,rfl,hq1,hq2,hlx,hpx⟩:=g3
     have hxl:=hps.1;have hlx':lx=ms:=by omega
     subst hlx';have hbig:lx≤9223372036854775807:=by unfold maxLen at hq2;omega
     obtain⟨bx,ox,rfl,hrx⟩:=hpx.resolve_left (by omega)
     obtain⟨c,hc1,⟨x,hx1,hc2⟩,hc3⟩:=hps.rd hrx (i:=j) (by omega)
     have hmem:=zO hx1
     have grx:=qe2 hmem gs;have hfx:∀f,f∈ZJ x→f∈F:=fun f h=>by rw[hFF];unfold qeX;exact VC _ (qe4 hmem h)
     have hwx:=qdO hmem;obtain⟨kd,pt,nm,ix,ex,lo,hi_,tn,el⟩:=x;simp only[wS]at hwx;simp only[qjr]at grx;simp only[ZJ,zS]at hfx;simp only[St_.Is]at hc2;obtain⟨s1,c1,ce,s2,c2,s3,c3,rfl,y1,z1',he,y2,z2,y3,z3⟩:=hc2;have htl:=Ye Y8 ex;have kt:=c10 (qj5 grx.2.1) (hsg.mono hsv) (Ex.Is.mono hsv _ he) (by omega)
     have kq:=c41 hPr hDg ex (Ex.Is.mono hsv _ he) (fun f h=>hfx f (.inl (.inl (.inr h)))) grx.2.1 (by omega)
     have hel:=he.len;have hbx:=he;obtain⟨d0,d1,d2,d3,d4,d5,d6,d7,d8,rfl⟩:=hbx.lits;simp only[zD,zy]at hc1 hc3;have r4:=qtY (k:=4) hc3 (ce:=[.int .u8 d0,.int .i64 d1,.bool d2,.int .i32 d3,.int .u64 d4,.string d5,.slice d6 d7 d8]) (fun j v hj=>by
      have:j<7:=by have:=(zu.1 hj).1;simpa using this
      rcases j with _|_|_|_|_|_|_|j <;> first|exact hj|omega)
     (repeat'(first|refine qq ?_|refine qa ?_|refine qo ?_|refine qe ?_|refine qt ?_|refine qF ?_|(refine qn rfl ?_;first|refine Qr rfl rfl (by omega) ?_|refine qh rfl ?_|refine qb tb rfl rfl ?_|refine jP tb rfl rfl rfl ?_|(apply qp tb rfl rfl;(·(refine At.own (?_);repeat(first|exact .here|refine .there ?_)));(·exact rfl)))|refine qE rfl ?_))
     refine jo (ms:=[0,1,0,7,15,31,63,0,0,256,0,1792,3840,7936,16383,32767]) 16 mo (by kernel_rfl) (by kernel_rfl) rfl ?_
     repeat (apply Prog.step (Q9 _) (jg _) rfl rfl;(·(intro V1 F1 hs1;(repeat(first|refine jt ?_|refine js ?_));refine qW ?_;(first|refine qb tb rfl rfl ?_|refine jw tb rfl rfl hel (by decide) r4 (hsv3.trans hs1) ?_|(apply qp tb rfl rfl;(·(refine At.own (Has.app ?_);repeat(first|exact .here|refine .there ?_)));(·exact rfl))|(apply qK tb rfl rfl;(·exact At.own (.app .here));(·exact rfl))|refine qh rfl ?_|refine qB tb rfl rfl rfl (by omega) (by omega) ?_|refine qA tb rfl rfl (kt.mono (hV3.trans hs1)) ?_|refine qA tb rfl rfl (kq.mono (hV3.trans hs1)) ?_|refine qsF rfl rfl rfl ?_);exact Qc));simp only[zy,zD])
     refine Prog.done ?_;intro V1 hs1;repeat(first|refine jp ?_|refine jr ?_)
     (repeat'(first|refine qa ?_|refine qo ?_|refine qe ?_|refine qF ?_|refine qS ?_|(refine qn rfl ?_;first|refine qh rfl ?_|refine qd rfl ?_|refine jf rfl rfl (by omega) (by omega) ?_)|refine qz rfl ?_))
     exact jb (by repeat(first|exact .nil|refine .cons rfl ?_)) (zJ _) ⟨j+1,by omega,rfl,hV3.trans hs1,rfl,rfl⟩ (by omega)
   · obtain rfl:j=ms:=by omega
     have g3':=g3.mono hsv3
     (repeat'(first|refine qq ?_|refine qa ?_|refine qo ?_|refine qe ?_|refine jh ?_|refine qG ?_|refine qD ?_|refine qI ?_|(refine qn rfl ?_;first|refine qX tb rfl g3' rfl rfl hps.1 (by decide) ?_|refine QD rfl rfl (by omega) ?_|refine qh rfl ?_|refine qb tb rfl rfl ?_|(apply qp tb rfl rfl;(·(refine At.own (?_);repeat(first|exact .here|refine .there ?_)));(·exact rfl)))|refine qz rfl ?_))
     refine jo (ms:=[0,1,3,7,3,3,63,127,255,511]) 9 mo (by kernel_rfl) (by kernel_rfl) rfl ?_
     repeat (apply Prog.step (Q9 _) (jg _) rfl rfl;(·(intro V1 F1 hs1;(repeat(first|refine jt ?_|refine js ?_));(first|(refine qW ?_;(first|refine qh rfl ?_|refine qY rfl rfl ?_);exact Qc)|(refine qnn (t:=true) rfl rfl (fun _=>?_) (fun h=>by cases h);(first|(apply qK tb rfl rfl;(·(refine At.own (Has.app ?_);repeat(first|exact .here|refine .there ?_)));(·exact rfl))|refine qA tb rfl rfl (kp.mono (hV3.trans hs1)) ?_|refine qA tb rfl rfl (kw.mono (hV3.trans hs1)) ?_|refine qm8 rfl rfl rfl ?_);exact Qc))));simp only[zy,zD])
     refine Prog.done ?_;intro V1 hs1;repeat(first|refine jp ?_|refine jr ?_)
     (repeat'(first|refine qo ?_|refine qe ?_|refine qO ?_|((refine qn rfl ?_);(refine qd rfl ?_))))
     (refine qR hM hw hV0 hR (jU rfl rfl) ?_)
     rfl
end Fly
end
section
namespace Su
open Go Fly
def Qw(P:Program)(t:Nat):Bool:=match P.underlying t with
 | some (.struct _)=>true
 | _=>false
def qg2(P:Program)(S:List Nat)(n:Nat):Nat→List Field→Bool
 | o,[]=>Nat.beq o n
 | o,f::fs=>Nat.beq f.offset o&&(S.contains f.type&&qg2 P S n (o+P.cellsOf f.type) fs)
def Y9(P:Program)(S:List Nat)(t:Nat):Bool:=match P.underlying t with
 | some .bool=>Nat.beq (P.cellsOf t) 1
 | some (.int _)=>Nat.beq (P.cellsOf t) 1
 | some (.float _)=>Nat.beq (P.cellsOf t) 1
 | some .string=>Nat.beq (P.cellsOf t) 1
 | some (.slice e)=>Nat.beq (P.cellsOf t) 1&&(S.contains e&&Nat.blt 0 (P.cellsOf e))
 | some (.struct fs)=>qg2 P S (P.cellsOf t) 0 fs.toList
 | _=>false
inductive All2 {α β:Type} (R:α→β→Prop):List α→List β→Prop
 | nil:All2 R [] []
 | cons {a:α} {b:β} {l:List α} {m:List β} (h:R a b) (h':All2 R l m):All2 R (a::l) (b::m)
def Shp(P:Program):Nat→Nat→List T→Prop
 | 0,_,_=>False
 | fuel+1,t,xs=>match P.underlying t with
  | some .bool=>∃b,xs=[.s (.bool b)]
  | some (.int k)=>∃n,xs=[.s (.int k n)]∧(Lit.int k n).wf=true
  | some (.float k)=>∃b,xs=[.s (.float k b)]∧(Lit.float k b).wf=true
  | some .string=>∃s,xs=[.s (.string s)]∧s.size≤maxLen
  | some (.slice e)=>∃l,xs=[.sl (P.cellsOf e) l]∧l.length≤maxLen∧∀x∈l,x.isAgg=Qw P e∧Shp P fuel e x.cells
  | some (.struct fs)=>∃parts:List (List T),xs=parts.flatten∧All2 (fun(f:Field) p=>Shp P fuel f.type p) fs.toList parts
  | _=>False
def hv(w:World):qc:=fun b=>w.heap[b]?
theorem qu2{a:Addr}{m n:Nat}(h:n≠0∨m=0∨a.spot=none):(a.add m).add n=a.add (m+n):=by
 unfold Addr.add;by_cases hn:n=0
 · subst hn;simp
 · by_cases hm:m=0
   · subst hm;simp[hn]
   · simp[hn,hm,Kp]
theorem qbn{w:World}{a:Addr}{v:Value}(h:w.cell? a=some v):a.spot=none∧rd (hv w) a.block a.off v:=by
 unfold World.cell? at h
 split at h
 · rename_i c e f hb
   cases hs:a.spot with
   | some s=>rw[hs]at h;simp at h
   | none=>rw[hs]at h;exact⟨rfl,c,e,f,hb,by simpa using h⟩
 · simp at h
theorem qnb(a:Addr)(n:Nat):(a.add n).off=a.off+n∧(a.add n).block=a.block:=by
 unfold Addr.add;split
 · rename_i h;subst h;exact⟨rfl,rfl⟩
 · exact⟨rfl,rfl⟩
theorem qnc{w:World}{a:Addr}{k:Nat}(hk:0<k):∀(css:List (List Value)) (s:Nat),(∀i cs,css[i]?=some cs→w.cells? 0 (a.add ((s+i)*k)) k=some cs)→∀j c,css.flatten[j]?=some c→rd (hv w) a.block (a.off+s*k+j) c∧w.cell? (a.add (s*k+j))=some c
 | [],s,h,j,c,hj=>by simp at hj
 | c0::css,s,h,j,c,hj=>by
  obtain⟨_,hl,hc⟩:=World.cells?_some (h 0 c0 rfl)
  simp only[KQ]at hc;rw[Wc]at hj;rcases VH j k with hjk|hjk
  · rw[Ki (by omega)]at hj
    have h1:=hc j hjk;rw[hj]at h1;have h3:w.cell? (a.add (s*k+j))=some c:=by
     by_cases hj0:j=0
     · subst hj0
       have:(a.add (s*k)).add 0=a.add (s*k):=by unfold Addr.add;simp
       rw[this]at h1;exact h1
     · rw[qu2 (.inl hj0)]at h1;exact h1
    obtain⟨_,h2⟩:=qbn h3;rw[(qnb _ _).1,(qnb _ _).2]at h2;exact⟨by rw[Kp];exact h2,h3⟩
  · rw[Kl (by omega),hl]at hj
    have h2:=qnc hk css (s+1) (fun i cs hi=>by
     have:=h (i+1) cs (by simpa using hi)
     rw[show s+1+i=s+(i+1) by omega];exact this) (j-k) c hj
    have e1:(s+1)*k+(j-k)=s*k+j:=by rw[zR];omega
    rw[Kp,e1]at h2;exact⟨by rw[Kp];exact h2.1,h2.2⟩
end Su
end
section
namespace Su
open Go Fly
theorem qln{β γ:Type}{f:Nat→Option (List β)}{g:List β→Option γ}{n:Nat}{r:List γ}(h:(List.range n).mapM (fun i=>(f i).bind g)=some r) :
 ∃css:List (List β),css.length=n∧∀(i:Nat) (cs:List β),css[i]?=some cs→f i=some cs∧∃y,y∈r∧g cs=some y:=by
 have hl:r.length=n:=by simpa using mapM_some_length h
 refine⟨(List.range n).map fun i=>(f i).getD [],by simp,fun i cs hi=>?_⟩
 have hin:i<n:=by
  have:=(zu.1 hi).1
  simpa using this
 have h1:=mapM_some_get h i i (by simp[hin])
 rw[zA (by omega)]at h1;obtain⟨c,hc,hg⟩:=VJ.1 h1;have:cs=c:=by
  rw[Ku,List.getElem?_range hin]at hi;simp[hc]at hi;exact hi.symm
 subst this;exact⟨hc,_,List.getElem_mem _,hg⟩
theorem qnd{α β:Type}{R:α→β→Prop}:∀ {l:List α},(∀x∈l,∃y,R x y)→∃m,All2 R l m
 | [],_=>⟨[],.nil⟩
 | x::l,h=>by
  obtain⟨y,hy⟩:=h x (zM ..)
  obtain⟨m,hm⟩:=qnd (l:=l) fun z hz=>h z (zE _ hz)
  exact⟨y::m,.cons hy hm⟩
theorem All2.length{α β:Type}{R:α→β→Prop}{l:List α}{m:List β}(h:All2 R l m):l.length=m.length:=by
 induction h with
 | nil=>rfl
 | cons _ _ ih=>simp[ih]
theorem All2.right{α β:Type}{R:α→β→Prop}{l:List α}{m:List β}(h:All2 R l m):∀y∈m,∃x,R x y:=by
 induction h with
 | nil=>intro y hy;simp at hy
 | cons hr _ ih=>
  intro y hy;rcases zK.1 hy with rfl|hy
  · exact⟨_,hr⟩
  · exact ih y hy
section
variable {H:Type} {enc:TypeId×Value→H} {P:Program} {w:World} {S:List Nat}
def qu3(enc:TypeId×Value→H)(P:Program)(w:World)(fuel t:Nat)(cs:List Value)(x:DataW H×List MemPlace):Prop :=
 (∃xs,RepA (hv w) xs cs∧(∀y∈xs,y.isAgg=false)∧xs.length=P.cellsOf t∧Shp P fuel t xs)∧∀sp:Nat→Bool,(∀p∈x.2,sp p.block=true)→DataW.trod enc P w 0 sp true fuel t cs=some x
theorem qne{fuel t:Nat}{xs:List T}(h:Shp P fuel t xs)(hg:Qw P t=false)(hok:Y9 P S t=true):∃x,xs=[x]∧x.isAgg=false∧x.cells=[x]:=by
 cases fuel with
 | zero=>exact absurd h (by simp[Shp])
 | succ fuel=>
  unfold Shp at h;unfold Qw at hg;split at h
  · obtain⟨b,rfl⟩:=h;exact⟨_,rfl,rfl,rfl⟩
  · obtain⟨b,rfl,_⟩:=h;exact⟨_,rfl,rfl,rfl⟩
  · obtain⟨b,rfl,_⟩:=h;exact⟨_,rfl,rfl,rfl⟩
  · obtain⟨b,rfl,_⟩:=h;exact⟨_,rfl,rfl,rfl⟩
  · obtain⟨b,rfl,_⟩:=h;exact⟨_,rfl,rfl,rfl⟩
  · rename_i hu;rw[hu]at hg;simp at hg
  · exact absurd h (by simp)
theorem qoA{fuel e:Nat}{cs:List Value}{x:DataW H×List MemPlace}(hok:Y9 P S e=true)(h:qu3 enc P w fuel e cs x) :
 ∃z:T,RepA (hv w) z.cells cs∧(∀y∈z.cells,y.isAgg=false)∧z.cells.length=P.cellsOf e∧z.isAgg=Qw P e∧Shp P fuel e z.cells:=by
 obtain⟨⟨xs,h1,h2,h3,h4⟩,_⟩:=h;cases hg:Qw P e with
 | true=>exact⟨.agg xs,h1,h2,h3,rfl,h4⟩
 | false=>
  obtain⟨z,rfl,hz,hzc⟩:=qne h4 hg hok;exact⟨z,by rw[hzc];exact h1,by rw[hzc];exact h2,by rw[hzc];exact h3,hz,by rw[hzc];exact h4⟩
theorem qg3{fuel e:Nat}:∀ {css:List (List Value)} {l:List T},All2 (fun cs z=>RepA (hv w) z.cells cs∧(∀y∈z.cells,y.isAgg=false)∧z.cells.length=P.cellsOf e∧z.isAgg=Qw P e∧Shp P fuel e z.cells) css l →
 RepA (hv w) (l.flatMap T.cells) css.flatten∧(∀y∈l.flatMap T.cells,y.isAgg=false)
 | _,_,.nil=>⟨.nil,by simp⟩
 | _,_,.cons h h'=>by
  obtain⟨h1,h2⟩:=qg3 h';rw[Kx,Wc];refine⟨h.1.append h1,fun y hy=>?_⟩
  rcases zS.1 hy with hy|hy
  · exact h.2.1 y hy
  · exact h2 y hy
theorem qfu{fuel:Nat}{cs:List Value}(ih:∀t∈S,∀(cs:List Value) (x:DataW H×List MemPlace),DataW.trod enc P w 0 (fun _=>true) true fuel t cs=some x→qu3 enc P w fuel t cs x):∀(fs:List Field) (o:Nat) (ys:List (DataW H×List MemPlace)),
 qg2 P S cs.length o fs=true→fs.mapM (fun f=>DataW.trod enc P w 0 (fun _=>true) true fuel f.type ((cs.drop f.offset).take (P.cellsOf f.type)))=some ys →
 ∃parts:List (List T),RepA (hv w) parts.flatten (cs.drop o)∧(∀y∈parts.flatten,y.isAgg=false)∧All2 (fun(f:Field) p=>Shp P fuel f.type p) fs parts
 | [],o,ys,ht,_=>by
  have:=zd ht;subst this
  rw[KW (zI _)];exact⟨[],.nil,by simp,.nil⟩
 | f::fs,o,ys,ht,h=>by
  simp only[qg2,zp]at ht;obtain⟨h1,h2,h3⟩:=ht;have:=zd h1;subst this
  rw[List.mapM_cons]at h;obtain⟨y,hy,h⟩:=qf (a:=DataW.trod enc P w 0 (fun _=>true) true fuel f.type ((cs.drop f.offset).take (P.cellsOf f.type))) h
  obtain⟨ys',hys,_⟩:=qf (a:=fs.mapM (fun f=>DataW.trod enc P w 0 (fun _=>true) true fuel f.type ((cs.drop f.offset).take (P.cellsOf f.type)))) h
  obtain⟨⟨xs,a1,a2,a3,a4⟩,_⟩:=ih f.type (by simpa using h2) _ _ hy
  obtain⟨parts,b1,b2,b3⟩:=qfu ih fs _ _ h3 hys;refine⟨xs::parts,?_,fun z hz=>?_,.cons a4 b3⟩
  · rw[Wc,← Kw (P.cellsOf f.type) (cs.drop f.offset),List.drop_drop]
    exact a1.append b1
  · rw[Wc]at hz
    rcases zS.1 hz with hz|hz
    · exact a2 z hz
    · exact b2 z hz
theorem qoB(hS:∀t∈S,Y9 P S t=true):∀(fuel t:Nat),t∈S→∀(cs:List Value) (x:DataW H×List MemPlace),DataW.trod enc P w 0 (fun _=>true) true fuel t cs=some x→qu3 enc P w fuel t cs x:=by
 intro fuel;induction fuel with
 | zero=>intro t _ cs x h;simp[DataW.trod]at h
 | succ fuel ih=>
  intro t htS cs x h;have hok:=hS t htS;have one:∀(v:Value),qhf v=true→cs=[v]→Nat.beq (P.cellsOf t) 1=true→Shp P (fuel+1) t [.s v]→(∀sp:Nat→Bool,(∀p∈x.2,sp p.block=true)→DataW.trod enc P w 0 sp true (fuel+1) t cs=some x)→qu3 enc P w (fuel+1) t cs x:=by
   rintro v hv' rfl h1 h2 h3
   exact⟨⟨[.s v],.cons (.s hv') .nil,by simp[T.isAgg],by rw[zd h1];rfl,h2⟩,h3⟩
  have hh:=h;rw[DataW.trod_step]at h;unfold DataW.trodStep at h;split at h
  case h_1 b hu=>
   refine one _ rfl rfl (by simpa[Y9,hu]using hok) (by simp only[Shp,hu];exact⟨b,rfl⟩) fun sp _=>?_
   rw[DataW.trod_step]at hh ⊢;unfold DataW.trodStep at hh ⊢;simp only[hu]at hh ⊢;exact hh
  case h_2 k k' n hu=>
   split at h
   · rename_i hc
     obtain⟨rfl,hw⟩:=hc;refine one (.int k' n) (show qhf (.int k' n)=true from hw) rfl (by simpa[Y9,hu]using hok) (by simp only[Shp,hu];exact⟨n,rfl,hw⟩) fun sp _=>?_
     rw[DataW.trod_step]at hh ⊢;unfold DataW.trodStep at hh ⊢;simp only[hu]at hh ⊢;exact hh
   · simp at h
  case h_3 k k' b hu=>
   split at h
   · rename_i hc
     obtain⟨rfl,hw⟩:=hc;refine one _ rfl rfl (by simpa[Y9,hu]using hok) (by simp only[Shp,hu];exact⟨b,rfl,hw⟩) fun sp _=>?_
     rw[DataW.trod_step]at hh ⊢;unfold DataW.trodStep at hh ⊢;simp only[hu]at hh ⊢;exact hh
   · simp at h
  case h_4 st hu=>
   split at h
   · rename_i hc
     refine one _ (by show Nat.ble _ _=true;rw[Wj];exact hc) rfl (by simpa[Y9,hu]using hok) (by simp only[Shp,hu];exact⟨st,rfl,hc⟩) fun sp _=>?_
     rw[DataW.trod_step]at hh ⊢;unfold DataW.trodStep at hh ⊢;simp only[hu]at hh ⊢;exact hh
   · simp at h
  case h_7 e hu=>
   simp only[Y9,hu,zp]at hok;refine⟨⟨[.sl (P.cellsOf e) []],.cons (.sl (l:=[]) (vs:=[]) .nil (by simp) (by simp) (by simp) (by simp[maxLen]) (.inl rfl)) .nil,by simp[T.isAgg],by rw[zd hok.1];rfl,?_⟩,fun sp _=>?_⟩
   · simp only[Shp,hu];exact⟨[],rfl,by simp,by simp⟩
   · rw[DataW.trod_step]at hh ⊢;unfold DataW.trodStep at hh ⊢;simp only[hu]at hh ⊢;exact hh
  case h_8 e a len cap hu=>
   simp only[Y9,hu,zp,List.contains_iff_mem]at hok;obtain⟨ho1,ho2,ho3⟩:=hok;have hk:0<P.cellsOf e:=by rw[VY]at ho3;exact ho3
   simp only[]at h;split at h
   · rename_i hc
     obtain⟨hc0,hc1,hc2⟩:=hc;simp only[Vx,VJ]at h;obtain⟨elems,he,rest,hrest,rfl⟩:=h;have hlen:elems.length=len:=by simpa using mapM_some_length he
     obtain⟨css,hcl,hcs⟩:=qln he;have hz:∀cs∈css,∃z:T,RepA (hv w) z.cells cs∧(∀y∈z.cells,y.isAgg=false)∧z.cells.length=P.cellsOf e∧z.isAgg=Qw P e∧Shp P fuel e z.cells:=by
      intro cs hm;obtain⟨i,hi⟩:=K7.1 hm
      obtain⟨_,y,_,hy⟩:=hcs i cs hi;exact qoA (hS e ho2) (ih e ho2 _ _ hy)
     obtain⟨l,hl⟩:=qnd hz;obtain⟨r1,r2⟩:=qg3 hl;have hll:l.length=len:=by rw[← hl.length,hcl]
     have hrd:=qnc (w:=w) (a:=a) hk css 0 fun i cs hi=>by rw[zt];exact(hcs i cs hi).1
     refine⟨⟨[.sl (P.cellsOf e) l],.cons ?_ .nil,by simp[T.isAgg],by rw[zd ho1];rfl,?_⟩,fun sp hsp=>?_⟩
     · rw[← hll]
       refine .sl r1 r2 (fun x hx=>?_) (by rw[hll];exact hc1) hc2 ?_
       · obtain⟨cs,hx1⟩:=hl.right x hx
         exact hx1.2.2.1
       · cases hl0:css with
         | nil=>rw[hl0]at hcl;left;rw[← KP];rw[hll,← hcl];rfl
         | cons c0 css'=>
          right;have h0:=(hcs 0 c0 (by rw[hl0];rfl)).1
          obtain⟨_,hcl0,hcc⟩:=World.cells?_some h0
          have h00:=hcc 0 hk
          have hc00:c0[0]?=some (c0[0]'(by omega)):=by rw[zA]
          rw[hc00]at h00;have hsp:a.spot=none:=by
           have e0:(a.add (0*P.cellsOf e)).add 0=a:=by unfold Addr.add;simp
           rw[e0]at h00;exact(qbn h00).1
          refine⟨a.block,a.off,by cases a;simp at hsp;subst hsp;rfl,fun j c hj=>?_⟩
          rw[← hl0]at hj;have:=(hrd j c hj).1
          simpa using this
     · simp only[Shp,hu]
       refine⟨l,rfl,by omega,fun x hx=>?_⟩
       obtain⟨cs,hx1⟩:=hl.right x hx;exact⟨hx1.2.2.2.1,hx1.2.2.2.2⟩
     · rw[DataW.trod_step]
       unfold DataW.trodStep;simp only[hu];rw[z6 ⟨hc0,hc1,hc2⟩];simp only[Vx,VJ];have elem:∀(i:Nat) (y:DataW H×List MemPlace),y∈elems++rest→(w.cells? 0 (a.add (i*P.cellsOf e)) (P.cellsOf e)).bind (DataW.trod enc P w 0 (fun _=>true) true fuel e)=some y →
        (w.cells? 0 (a.add (i*P.cellsOf e)) (P.cellsOf e)).bind (DataW.trod enc P w 0 sp true fuel e)=some y:=by
        intro i y hy h1;obtain⟨cs,h2,h3⟩:=VJ.1 h1;refine VJ.2 ⟨cs,h2,(ih e ho2 _ _ h3).2 sp fun p hp=>hsp p ?_⟩
        exact VC _ (KU.2 ⟨y,hy,hp⟩)
       refine⟨elems,mapM_carry he fun i y _ hy h1=>elem i y (KX _ hy) h1,rest,?_,rfl⟩
       simp only[VG]at hrest;by_cases h0:cap-len=0
       · rw[h0]at hrest ⊢
         simp at hrest;subst hrest;split <;> rfl
       · have hrl:rest.length=cap-len:=by simpa using mapM_some_length hrest
         have:sp a.block=true:=hsp (.cell a.block (a.off+0)) (KX _ (MemPlace.mem_row.2 ⟨0,Wx (by omega) hk,rfl⟩))
         rw[z6 this];exact mapM_carry hrest fun i y _ hy h1=>elem _ y (VC _ hy) h1
   · simp at h
  case h_9 fs hu=>
   simp only[Y9,hu]at hok;split at h
   · rename_i hc
     simp only[Vx]at h;obtain⟨ys,hy,rfl⟩:=h;rw[← hc]at hok;obtain⟨parts,b1,b2,b3⟩:=qfu ih fs.toList 0 ys hok hy
     rw[Vm]at b1;refine⟨⟨parts.flatten,b1,b2,by rw[b1.length,hc],?_⟩,fun sp hsp=>?_⟩
     · simp only[Shp,hu];exact⟨parts,rfl,b3⟩
     · rw[DataW.trod_step]
       unfold DataW.trodStep;simp only[hu];rw[z6 hc];simp only[Vx];have inS:∀(N:Nat) (l:List Field) (o:Nat),qg2 P S N o l=true→∀f∈l,f.type∈S:=by
        intro N l;induction l with
        | nil=>intro o _ f hf;simp at hf
        | cons g l ihl=>
         intro o ht f hf;simp only[qg2,zp]at ht;rcases zK.1 hf with rfl|hf
         · simpa using ht.2.1
         · exact ihl _ ht.2.2 f hf
       refine⟨ys,mapM_carry hy fun f y hf hym h1=>(ih f.type (inS _ _ _ hok f hf) _ _ h1).2 sp fun p hp=>hsp p (KU.2 ⟨y,hym,hp⟩),rfl⟩
   · simp at h
  all_goals first
   | (rename_i hu;simp[Y9,hu]at hok;done)
   | (rename_i hu _;simp[Y9,hu]at hok;done)
   | (simp at h;done)
end
end Su
end
section
namespace Su
open Go Fly Go.RowKit Go.ChangeShapes
section
variable {H:Type} {enc:TypeId×Value→H} {P:Program} {w:World} {S:List Nat}
def qsG(P:Program)(t:Nat)(x:T):Prop:=x.isAgg=Qw P t∧∃fuel,Shp P fuel t x.cells
theorem qu4{r:Reach}{b0:Nat}{t:Nat}{cs:Array Value}(hok:Y9 P S t=true)(hg:Qw P t=false)(h:Value.okWide P w r b0 t (.agg cs)):False:=by
 unfold Y9 at hok;unfold Value.okWide Cell.okWide Cell.ok at h;unfold Qw at hg;split at hok
 all_goals rename_i hu
 all_goals first
  | (simp[hu]at hok;done)
  | (simp[hu]at hg;done)
  | (simp[hu]at h;done)
theorem qsH(hS:∀t∈S,Y9 P S t=true){r:Reach}{b0 t:Nat}{v:Value}{d:DataW H}{p:List MemPlace}(ht:t∈S)(hval:Value.okWide P w r b0 t v)(h:DataW.Trod enc P w 0 (fun _=>true) true t v d p) :
 (∃x,Rep (hv w) x v∧qsG P t x)∧∀sp:Nat→Bool,(∀q∈p,sp q.block=true)→DataW.Trod enc P w 0 sp true t v d p:=by
 obtain⟨fuel,hf⟩:=h;have hgood:=qoB hS fuel t ht _ _ hf;refine⟨?_,fun sp hsp=>⟨fuel,hgood.2 sp hsp⟩⟩
 obtain⟨⟨xs,h1,h2,h3,h4⟩,_⟩:=hgood;cases hg:Qw P t with
 | true=>
  have:∃cs,v = .agg cs:=by
   unfold Qw at hg;split at hg
   · rename_i fs hu
     unfold Value.okWide at hval;rw[hu]at hval;obtain⟨cs,rfl,_⟩:=hval;exact⟨cs,rfl⟩
   · simp at hg
  obtain⟨cs,rfl⟩:=this;simp only[Value.cells]at h1;exact⟨.agg xs,.agg h1 h2,by rw[hg];rfl,fuel,h4⟩
 | false=>
  obtain⟨z,rfl,hz,hzc⟩:=qne h4 hg (hS t ht)
  have hvc:v.cells = #[v]:=by
   cases v with
   | agg cs=>exact absurd hval fun h=>qu4 (hS t ht) hg h
   | _=>rfl
  rw[hvc]at h1;cases h1 with
  | cons h1 _=>exact⟨z,h1,by rw[hz,hg],fuel,by rw[hzc];exact h4⟩
theorem qbo(hS:∀t∈S,Y9 P S t=true){r:Reach}{b0:Nat}:∀(ts:List Nat) (vs:List Value) (ds:List (DataW H)) (p:List MemPlace),(∀t∈ts,t∈S)→(∀(j:Nat) t v,ts[j]?=some t→vs[j]?=some v→Value.okWide P w r b0 t v) →
 DataW.TrodAll enc P w 0 (fun _=>true) true ts vs ds p →
 (∃xs,RepA (hv w) xs vs∧All2 (qsG P) ts xs)∧∀sp:Nat→Bool,(∀q∈p,sp q.block=true)→DataW.TrodAll enc P w 0 sp true ts vs ds p
 | [],vs,ds,p,_,_,h=>by
  obtain⟨rfl,rfl,rfl⟩:=trodAll_nil h;exact⟨⟨[],.nil,.nil⟩,fun _ _=>rfl⟩
 | t::ts,vs,ds,p,hts,hval,h=>by
  obtain⟨v,vs1,d,ds1,a,b,rfl,rfl,rfl,h1,h2⟩:=trodAll_cons h;obtain⟨⟨x,a1,a2⟩,a3⟩:=qsH hS (hts t (zM ..)) (hval 0 t v rfl rfl) h1
  obtain⟨⟨xs,b1,b2⟩,b3⟩:=qbo hS ts vs1 ds1 b (fun u hu=>hts u (zE _ hu)) (fun j t v hj hv=>hval (j+1) t v (by simpa using hj) (by simpa using hv)) h2
  exact⟨⟨x::xs,.cons a1 b1,.cons a2 b2⟩,fun sp hsp=>⟨a,b,a3 sp fun q hq=>hsp q (KX _ hq),b3 sp fun q hq=>hsp q (VC _ hq),rfl⟩⟩
theorem qaR{w':World}{base:Nat}{sp:Nat→Bool}:∀(ts:List Nat) (vs:List Value) (ds:List (DataW H)) (p:List MemPlace),DataW.TrodAll enc P w base sp true ts vs ds p→(∀q∈p,w.sameAt w' q)→DataW.TrodAll enc P w' base sp true ts vs ds p
 | [],vs,ds,p,h,_=>by
  obtain⟨rfl,rfl,rfl⟩:=trodAll_nil h;exact rfl
 | t::ts,vs,ds,p,h,hs=>by
  obtain⟨v,vs1,d,ds1,a,b,rfl,rfl,rfl,h1,h2⟩:=trodAll_cons h;obtain⟨fuel,hf⟩:=h1;exact⟨a,b,⟨fuel,DataW.trod_carry _ _ _ _ hf fun q hq=>hs q (KX _ hq)⟩,qaR ts vs1 ds1 b h2 fun q hq=>hs q (VC _ hq),rfl⟩
end
end Su
end
section
namespace Su
open Go Fly Go.RowKit Go.ChangeShapes
section
variable {H:Type} {enc:TypeId×Value→H} {P:Program} {S:List Nat}
theorem qdj{w:World}{base:Nat}{sp:Nat→Bool}{held:Bool}:∀ {ts:List Nat} {vs:List Value} {ds:List (DataW H)} {p:List MemPlace},DataW.TrodAll enc P w base sp held ts vs ds p→ds.length=ts.length
 | [],_,_,_,h=>by obtain⟨rfl,rfl,rfl⟩:=trodAll_nil h;rfl
 | _::_,_,_,_,h=>by
  obtain⟨v,vs1,d,ds1,a,b,rfl,rfl,rfl,h1,h2⟩:=trodAll_cons h;simp[qdj h2]
theorem qu5{W W':World}{may:MemPlace→Prop}(ho:W'.os=W.os)(hp:W'.output=W.output)(hb:∀b,b<W.heap.size→W'.heap[b]?=W.heap[b]?):W.keptBut W' may:=by
 refine⟨ho,hp,fun i hi=>?_⟩
 rw[hb i hi];cases W.heap[i]? with
 | none=>rfl
 | some o=>cases o <;> first|exact⟨rfl,rfl,rfl,fun _ _=>rfl⟩|exact .inr ⟨rfl,rfl⟩|rfl
theorem qoC{fn:Func}{s:ChangeSpec}{apart fresh handsOn again:Bool}(hS:∀t∈S,Y9 P S t=true)(hpar:∀t∈fn.params.toList,t∈S){tb:Nat}(hres:fn.resultTypes = #[tb])(htb:P.underlying tb=some .bool)(hvars:s.vars=[])
 (hsn:∀ds:List (DataW H),ds.length=fn.params.size→s.fn H ds = { results:=[.lit (.bool true)],args:=ds }) {W:World} {args:Array Value} {ds gs:List (DataW H)} {before:List MemPlace} {b0:Nat} {r:Reach}
 (hval:∀(j:Nat) t v,fn.params[j]?=some t→args[j]?=some v→Value.okWide P W r b0 t v) (hW:DataW.Whole enc P fn.params.toList s.vars apart W args.toList ds gs before) {W':World} (ho:W'.os=W.os) (hp:W'.output=W.output) (hb:∀b,b<W.heap.size→W'.heap[b]?=W.heap[b]?) :
 s.post enc P fn apart fresh handsOn again W args (.bool true) W':=by
 have hW0:=hW;have hlt:=hW.lt;obtain⟨p,q,hA,hV,rfl,hz,hn⟩:=hW;have hlen:ds.length=fn.params.size:=by rw[qdj hA];simp
 have hV0:gs=[]∧q=[]:=by
  rw[hvars]at hV;cases gs with
  | nil=>exact⟨rfl,hV⟩
  | cons g l=>exact absurd hV (by intro h;cases h)
 obtain⟨rfl,rfl⟩:=hV0;have same:∀x∈p,W.sameAt W' x:=by
  intro x hx;have h1:=hlt x (KX _ hx)
  cases x with
  | cell b off=>simp only[World.sameAt,World.cell?];rw[hb b h1]
  | map b=>exact hb b h1
 have hargs:=(qbo hS _ _ _ _ hpar (fun j t v hj hv=>hval j t v (by simpa using hj) (by simpa using hv)) hA).2
 have hcarry:∀sp:Nat→Bool,(∀x∈p,sp x.block=true)→DataW.TrodAll enc P W' 0 sp true fn.params.toList args.toList ds p:=fun sp hsp=>qaR _ _ _ _ (hargs sp hsp) same
 have hfn:=hsn ds hlen;have hresult:∀(bs:Nat) (sp:Nat→Bool) (hd:Bool),DataW.TrodAll enc P W' bs sp hd fn.resultTypes.toList ((Value.bool true).resultList fn.resultTypes.size) [.lit (.bool true)] []:=by
  intro bs sp hd;rw[hres];exact trodAll_mk1 (shut_bool htb true)
 have hold:∀x∈p,(fun b=>decide (b<W.heap.size)) x.block=true:=fun x hx=>by simpa using hlt x (KX _ hx)
 have hvs:∀sp,DataW.TrodVars enc P W' sp s.vars (s.fn H (ds++[])).vars []:=fun sp=>by rw[z7,hfn,hvars];rfl
 refine⟨ds,[],p++[],[],p,[],hW0,?_,?_,hvs _,qu5 ho hp hb,fun _=>⟨?_,?_⟩⟩
 · rw[z7,hfn];exact hresult _ _ _
 · rw[z7,hfn];exact hcarry _ hold
 · intro j t r0 h1 h2
   rw[hres]at h1 h2;have:(Value.bool true).resultList #[tb].size=[.bool true]:=rfl
   rw[this]at h2;cases j with
   | zero=>
    simp at h1 h2;subst h1 h2
    unfold Value.okWide;rw[htb];simp[Cell.okWide,Cell.ok,htb]
   | succ j=>simp at h1
 · refine⟨_,[],([]++p)++[],⟨[]++p,[],trodAll_append (hcarry _ fun _ _=>rfl) (hresult _ _ _),?_,rfl,?_,?_⟩,?_⟩
   · have:=hvs (fun _=>true)
     rw[z7,hfn]at this;exact this
   · intro b off hm
     have hm':MemPlace.cell b off∈p:=by simpa using hm
     have h1:b<W.heap.size:=hlt _ (KX _ hm')
     have h2:=hz b off (by simpa using hm')
     unfold World.frozen? at h2 ⊢
     rw[hb b h1];exact h2
   · intro ha;simpa using hn ha
   · intro x hx _;simpa using hx
theorem qsI{fn:Func}{f:FuncId}{s:ChangeSpec}{apart fresh handsOn again:Bool}(hS:∀t∈S,Y9 P S t=true)(hpar:∀t∈fn.params.toList,t∈S){tb:Nat}(hres:fn.resultTypes = #[tb])(htb:P.underlying tb=some .bool)(hvars:s.vars=[])
 (hsn:∀ds:List (DataW H),ds.length=fn.params.size→s.fn H ds = { results:=[.lit (.bool true)],args:=ds }) {W:World} {args:Array Value} {ds gs:List (DataW H)} {before:List MemPlace} {b0:Nat} {r:Reach}
 (hval:∀(j:Nat) t v,fn.params[j]?=some t→args[j]?=some v→Value.okWide P W r b0 t v) (hW:DataW.Whole enc P fn.params.toList s.vars apart W args.toList ds gs before)
 (h:∀xs,RepA (hv W) xs args.toList→All2 (qsG P) fn.params.toList xs→jk P f args (hv W) [] fun v _ _=>v = .bool true) :
 Calls P f args W fun e W'=>∃v,e = .returned v∧s.post enc P fn apart fresh handsOn again W args v W':=by
 obtain⟨p,q,hA,hV,hpq,hz,hn⟩:=id hW;obtain⟨⟨xs,h1,h2⟩,_⟩:=qbo hS _ _ _ _ hpar (fun j t v hj hv=>hval j t v (by simpa using hj) (by simpa using hv)) hA
 refine(h xs h1 h2 W (fun _ _ h=>h) (fun _ h=>by cases h) (fun _ h=>by cases h) VN).mono ?_
 rintro e W' ⟨v,V',G',rfl,hh,rfl⟩
 exact⟨_,rfl,qoC hS hpar hres htb hvars hsn hval hW hh.ext.os hh.ext.output fun b hb=>hh.ext.block b hb (by simp[keys])⟩
end
end Su
end
