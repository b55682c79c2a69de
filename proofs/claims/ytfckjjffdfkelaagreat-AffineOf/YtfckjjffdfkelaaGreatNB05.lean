/-
  What functions of the program compute, in plain Lean, and that the evaluator finds it.
-/
import Derived.Test.YtfckjjffdfkelaaGreatSuSd
import Derived.Test.YtfckjjffdfkelaaGreatNC01
import Derived.Test.YtfckjjffdfkelaaGreatRb
import Derived.Test.YtfckjjffdfkelaaGreatFlyM
set_option linter.unusedVariables false
set_option linter.unusedSimpArgs false
set_option maxRecDepth 10000
section
namespace Su
open Go Fly
noncomputable section
theorem qGW:((List.range 256).all fun i=>decide ((Yy[i]?).map UInt8.toNat=some (qo i)))=true:=by decide +kernel
theorem qcL{i:Nat}(h:i<256):∃b:UInt8,Yy[i]?=some b∧b.toNat=qo i:=by
 have:=KH.1 qGW i (qHF.2 h)
 have h2:=KC this;cases hb:Yy[i]? with
 | none=>rw[hb]at h2;cases h2
 | some b=>rw[hb]at h2;exact⟨b,rfl,by simpa using h2⟩
theorem qhQ(x:Nat)(h:x<4294967296):qhP (x:Int)=some (qo x:Int):=by
 have b32:qo x≤32:=yC.2 (by simpa using h)
 have fd:∀(y k:Nat),Int.fdiv (y:Int) (2^k)=((y / 2^k:Nat):Int):=fun y k=>by
  rw[Vs _ (by have:=zK k;exact_mod_cast Va _)];simp
 have w8:∀(y:Nat),y<256→IntKind.u8.wrap (y:Int)=y:=fun y hy=>wu8 (by omega) (by omega)
 have wn:∀(y:Nat),y<256→IntKind.i64.wrap (y:Int)=y:=fun y hy=>w64 (by omega) (by omega)
 have ws:∀(y z:Nat),y<256→z<256→IntKind.i64.wrap ((y:Int)+(z:Int))=((y+z:Nat):Int):=fun y z hy hz=>by rw[w64 (by omega) (by omega)];rfl
 have bl:∀y,y<256→qo y≤8:=fun y hy=>yC.2 (by simpa using hy)
 unfold qhP;by_cases h1:65536≤x
 · have d1:decide ((65536:Int)≤(x:Int))=true:=zf (by omega)
   rw[d1,zd,fd];have hb:=Yu (n:=x) (k:=16) h1
   by_cases h2:256≤x / 2^16
   · have d2:decide ((256:Int)≤((x / 2^16:Nat):Int))=true:=zf (by omega)
     have hlt:x / 2^16 / 2^8<256:=by omega
     obtain⟨b,hb1,hb2⟩:=qcL hlt;have hb':=Yu (n:=x / 2^16) (k:=8) h2
     have:=bl _ hlt
     rw[d2,zd,fd,w8 _ hlt,zf (by omega),zd,zl,hb1,zi,hb2];rw[wn (qo _) (by omega),show((16:Int)+8)=((24:Nat):Int) from rfl,wn 24 (by omega),ws _ _ (by omega) (by omega)]
     congr 2;omega
   · have d2:decide ((256:Int)≤((x / 2^16:Nat):Int))=false:=zk (by omega)
     have hlt:x / 2^16<256:=by omega
     obtain⟨b,hb1,hb2⟩:=qcL hlt;have:=bl _ hlt
     rw[d2,zh,w8 _ hlt,zf (by omega),zd,zl,hb1,zi,hb2];rw[wn (qo _) (by omega),show(16:Int)=((16:Nat):Int) from rfl,ws _ _ (by omega) (by omega)]
     congr 2;omega
 · have d1:decide ((65536:Int)≤(x:Int))=false:=zk (by omega)
   rw[d1,zh];by_cases h2:256≤x
   · have d2:decide ((256:Int)≤(x:Int))=true:=zf (by omega)
     have hlt:x / 2^8<256:=by omega
     obtain⟨b,hb1,hb2⟩:=qcL hlt;have hb':=Yu (n:=x) (k:=8) h2
     have:=bl _ hlt
     rw[d2,zd,fd,w8 _ hlt,zf (by omega),zd,zl,hb1,zi,hb2];rw[wn (qo _) (by omega),show((0:Int)+8)=((8:Nat):Int) from rfl,wn 8 (by omega),ws _ _ (by omega) (by omega)]
     congr 2;omega
   · have d2:decide ((256:Int)≤(x:Int))=false:=zk (by omega)
     have hlt:x<256:=by omega
     obtain⟨b,hb1,hb2⟩:=qcL hlt;have:=bl _ hlt
     rw[d2,zh,w8 _ hlt,zf (by omega),zd,zl,hb1,zi,hb2];rw[wn (qo _) (by omega),WP,wn _ (by omega)]
theorem qgi(v:Nat):v≠0→∃(l:List Int) (x:Nat),ofN v=l++[(x:Int)]∧x≠0∧x<4294967296∧Wd l∧v=qa l+4294967296^l.length*x:=by
 induction v using Nat.strongRecOn with
 | _ v ih=>
  intro hv;rw[qlZ hv];by_cases hB:v<4294967296
  · refine⟨[],v,?_,hv,hB,.nil,by simp[qa]⟩
    rw[KA hB,Vu hB,Yx];rfl
  · obtain⟨l,x,h1,h2,h3,h4,h5⟩:=ih (v / 4294967296) (by omega) (by omega)
    refine⟨((v % 4294967296:Nat):Int)::l,x,by rw[h1];rfl,h2,h3,.cons (by omega) (by omega) h4,?_⟩
    simp only[qa,zq,Kx,zl];have e:4294967296^l.length*4294967296*x=4294967296*(4294967296^l.length*x):=by rw[zL (4294967296^l.length) 4294967296,zR]
    rw[e];have:=Vb v 4294967296
    rw[h5]at this;rw[KO]at this;omega
theorem Zt(k:Nat):(4294967296:Nat)^k=2^(32*k):=by rw[Nat.pow_mul]
theorem qhR{l:List Int}{x:Nat}(hw:Wd l)(hx:x≠0):qo (qa l+4294967296^l.length*x)=32*l.length+qo x:=by
 have h1:=jo l hw;have hp:0<4294967296^l.length:=Nat.pow_pos (by omega)
 have h2:2^(32*l.length)≤qa l+4294967296^l.length*x:=by
  rw[← Zt];have:4294967296^l.length*1≤4294967296^l.length*x:=KB _ (by omega)
  omega
 rw[Yu h2,← Zt,VU _ _ hp,Vu h1,zQ]
theorem qpH(a:List Int)(h:qo (qa a)<4611686018427387904):Len a=some (qo (qa a):Int):=by
 unfold Len;generalize qa a=v at h ⊢
 by_cases hv:v=0
 · subst hv;rfl
 · obtain⟨l,x,h1,h2,h3,h4,h5⟩:=qgi v hv
   have hb:qo v=32*l.length+qo x:=by rw[h5];exact qhR h4 h2
   have hbx:qo x≤32:=yC.2 (by simpa using h3)
   have hl:(ofN v).length=l.length+1:=by rw[h1];simp
   have d1:decide (((ofN v).length:Int)=0)=false:=zk (by omega)
   have e1:IntKind.i64.wrap (((ofN v).length:Int)-1)=(l.length:Int):=by rw[hl,w64 (by omega) (by omega)];omega
   have e2:IntKind.i64.wrap (32*(l.length:Int))=32*(l.length:Int):=w64 (by omega) (by omega)
   have hi:idx (ofN v) (l.length:Int)=some (x:Int):=by rw[jB,h1];simp
   rw[d1,zh,e1,hi,zi,qhQ x h3,zi,e2,w64 (by omega) (by omega),hb];simp
end
end Su
end
section
namespace Su
open Go Fly
noncomputable section
def qjE:(Int×(List Int)×Nat×Int×Int×(List T)×Unit)→Option ((Int×(List Int)×Nat×Int×Int×(List T)×Unit) ⊕ (Int×(List Int)×Nat×Int×Int×(List T)×Unit)):=fun p0=>(bif(decide (p0.2.2.2.2.1<p0.2.2.2.1))then
 (At p0.2.1 p0.2.2.2.2.1).bind fun x1=>
 (At p0.2.1 (IntKind.wrap .i64 (p0.2.2.2.2.1+1))).bind fun x2=>
 (bif(decide (0≤(Int.tmod p0.1 32)))then
 (bif((true&&(Nat.beq p0.2.2.1 p0.2.2.2.2.2.1.length))&&(Nat.ble (p0.2.2.2.2.2.1.length+(List.length [(T.s (.int .u32 (IntKind.wrap .u32 (Int.fdiv (Fly.qD Go.BinOp.or .u64 x1 (IntKind.wrap .u64 (x2*(2^32)))) (2^(min (Int.toNat (Int.tmod p0.1 32)) 64))))))])) 549755813888))then
 some (.inl (p0.1,p0.2.1,(List.length (p0.2.2.2.2.2.1++[(T.s (.int .u32 (IntKind.wrap .u32 (Int.fdiv (Fly.qD Go.BinOp.or .u64 x1 (IntKind.wrap .u64 (x2*(2^32)))) (2^(min (Int.toNat (Int.tmod p0.1 32)) 64))))))])),p0.2.2.2.1,(IntKind.wrap .i64 (p0.2.2.2.2.1+1)),(p0.2.2.2.2.2.1++[(T.s (.int .u32 (IntKind.wrap .u32 (Int.fdiv (Fly.qD Go.BinOp.or .u64 x1 (IntKind.wrap .u64 (x2*(2^32)))) (2^(min (Int.toNat (Int.tmod p0.1 32)) 64))))))]),()))
 else none)
 else none)
 else
  some (.inr (p0.1,p0.2.1,p0.2.2.1,p0.2.2.2.1,p0.2.2.2.2.1,p0.2.2.2.2.2.1,())))
def Shr  (fu:Nat)(a:(List Int))(sh:Int):Option (List Int) :=
 (bif(decide ((List.length a:Int)≤(IntKind.wrap .i64 (Int.tdiv (max sh 0) 32))))then
 some []
 else
  (bif(true&&(((decide (0≤(IntKind.wrap .i64 (Int.tdiv (max sh 0) 32))))&&(decide ((IntKind.wrap .i64 (Int.tdiv (max sh 0) 32))≤(List.length a:Int))))&&(decide ((List.length a:Int)≤(List.length a:Int)))))then
  (itP fu (qjE) ((max sh 0),(List.take (Int.toNat ((List.length a:Int)-(IntKind.wrap .i64 (Int.tdiv (max sh 0) 32)))) (List.drop (Int.toNat (IntKind.wrap .i64 (Int.tdiv (max sh 0) 32))) a)),0,(((List.length (List.take (Int.toNat ((List.length a:Int)-(IntKind.wrap .i64 (Int.tdiv (max sh 0) 32)))) (List.drop (Int.toNat (IntKind.wrap .i64 (Int.tdiv (max sh 0) 32))) a))):Nat):Int),(0:Int),[],())).bind fun x3=>
  (Su.sub x3.2.2.2.2.2.1 0 x3.2.2.1).bind fun x4=>
  (Su.sub x3.2.2.2.2.2.1 0 x3.2.2.1).bind fun x5=>
  (Su.sub x3.2.2.2.2.2.1 0 x3.2.2.1).bind fun x6=>
  ((jW 1 x4).bind fun x7=>
  some (ofN (qa x7))).bind fun x8=>
  some x8
 else none))
abbrev qgj:=(Int×Nat×Int×(List Int)×Int×Int×(List T)×Unit)
def qjF:qgj→Option (qgj ⊕ qgj):=fun p1=>(bif(decide (p1.2.2.2.2.2.1<p1.2.2.2.2.1))then
 (idx p1.2.2.2.1 p1.2.2.2.2.2.1).bind fun x2=>
 (bif(decide (0≤(Int.tmod p1.1 32)))then
 (bif((true&&(Nat.beq p1.2.1 p1.2.2.2.2.2.2.1.length))&&(Nat.ble (p1.2.2.2.2.2.2.1.length+(List.length [(T.s (.int .u32 (IntKind.wrap .u32 (Fly.qD Go.BinOp.or .u64 p1.2.2.1 (IntKind.wrap .u64 ((IntKind.wrap .u64 x2)*(2^(min (Int.toNat (Int.tmod p1.1 32)) 64))))))))])) 549755813888))then
 some (.inl (p1.1,(List.length (p1.2.2.2.2.2.2.1++[(T.s (.int .u32 (IntKind.wrap .u32 (Fly.qD Go.BinOp.or .u64 p1.2.2.1 (IntKind.wrap .u64 ((IntKind.wrap .u64 x2)*(2^(min (Int.toNat (Int.tmod p1.1 32)) 64))))))))])),(Int.fdiv (Fly.qD Go.BinOp.or .u64 p1.2.2.1 (IntKind.wrap .u64 ((IntKind.wrap .u64 x2)*(2^(min (Int.toNat (Int.tmod p1.1 32)) 64))))) (2^32)),p1.2.2.2.1,p1.2.2.2.2.1,(IntKind.wrap .i64 (p1.2.2.2.2.2.1+1)),(p1.2.2.2.2.2.2.1++[(T.s (.int .u32 (IntKind.wrap .u32 (Fly.qD Go.BinOp.or .u64 p1.2.2.1 (IntKind.wrap .u64 ((IntKind.wrap .u64 x2)*(2^(min (Int.toNat (Int.tmod p1.1 32)) 64))))))))]),()))
 else none)
 else none)
 else
  some (.inr (p1.1,p1.2.1,p1.2.2.1,p1.2.2.2.1,p1.2.2.2.2.1,p1.2.2.2.2.2.1,p1.2.2.2.2.2.2.1,())))
def Shl  (fu:Nat)(a:(List Int))(sh:Int):Option ((List Int)×Int) :=
 (Len a).bind fun x0=>
 (bif(decide (x0=0))then
 some ([],(0:Int))
 else
  (bif(decide ((IntKind.wrap .i64 (65536-x0))<(max sh 0)))then
  some ([],(20:Int))
 else
  (bif(((true&&(decide (0≤(IntKind.wrap .i64 (Int.tdiv (max sh 0) 32)))))&&(decide ((IntKind.wrap .i64 (Int.tdiv (max sh 0) 32))≤(IntKind.wrap .i64 ((IntKind.wrap .i64 ((IntKind.wrap .i64 (Int.tdiv (max sh 0) 32))+(List.length a:Int)))+1)))))&&(decide ((IntKind.wrap .i64 ((IntKind.wrap .i64 ((IntKind.wrap .i64 (Int.tdiv (max sh 0) 32))+(List.length a:Int)))+1))≤549755813888)))then
  (itP fu (qjF) ((max sh 0),(Int.toNat (IntKind.wrap .i64 (Int.tdiv (max sh 0) 32))),(0:Int),a,(List.length a:Int),(0:Int),(List.replicate (Int.toNat (IntKind.wrap .i64 (Int.tdiv (max sh 0) 32))) (T.s (.int .u32 0))),())).bind fun x3=>
  (bif((true&&(Nat.beq x3.2.1 x3.2.2.2.2.2.2.1.length))&&(Nat.ble (x3.2.2.2.2.2.2.1.length+(List.length [(T.s (.int .u32 (IntKind.wrap .u32 x3.2.2.1)))])) 549755813888))then
  (Su.sub (x3.2.2.2.2.2.2.1++[(T.s (.int .u32 (IntKind.wrap .u32 x3.2.2.1)))]) 0 (List.length (x3.2.2.2.2.2.2.1++[(T.s (.int .u32 (IntKind.wrap .u32 x3.2.2.1)))]))).bind fun x4=>
  (Su.sub (x3.2.2.2.2.2.2.1++[(T.s (.int .u32 (IntKind.wrap .u32 x3.2.2.1)))]) 0 (List.length (x3.2.2.2.2.2.2.1++[(T.s (.int .u32 (IntKind.wrap .u32 x3.2.2.1)))]))).bind fun x5=>
  ((jW 1 x4).bind fun x6=>
  some (ofN (qa x6))).bind fun x7=>
  some (x7,(0:Int))
 else none)
 else none)))
theorem qaI(y k:Nat):Int.fdiv (y:Int) (2^k)=((y / 2^k:Nat):Int):=by
 have h0:(0:Int)≤(2:Int)^k:=Int.pow_nonneg (by decide)
 rw[Vs _ h0];simp
theorem qjG{x y r:Nat}(hr:x<2^r):x ||| y*2^r=x+y*2^r:=by
 have:=WZ hr y
 rw[zL,Xw,← this];omega
theorem qdv{a:List Int}(h:Wd a)(i:Nat):qa a / 4294967296^i=qa (a.drop i):=by
 by_cases hi:i≤a.length
 · have h1:=yq (a.take i) (a.drop i)
   rw[Ky,Kj,Vq hi]at h1;rw[h1,VU _ _ (Nat.pow_pos (by omega)),Vu (yO h i),zQ]
 · rw[KM (by omega)]
   have:=jo a h
   have:qa a<4294967296^i:=Ki this (Kf (by omega) (by omega))
   rw[Vu this];rfl
theorem qhS(a:List Int)(i:Nat):qa (a.drop i)=(nth a i).toNat+4294967296*qa (a.drop (i+1)):=by
 unfold nth;by_cases hi:i<a.length
 · rw[Kk hi,zD hi];rfl
 · rw[KM (by omega),KM (by omega),K5 (by omega)];rfl
theorem qup{a:List Int}(h:Wd a)(i r:Nat)(hr:r≤32):qa a / 2^r / 4294967296^i % 4294967296=((nth a i).toNat+4294967296*(nth a (i+1)).toNat) / 2^r % 4294967296:=by
 rw[Kv,zL,← Kv,qdv h,qhS,qhS];generalize qa (a.drop (i+1+1))=z
 have hp:=zK r;obtain⟨q,hq⟩:∃q,4294967296=2^r*q:=⟨2^(32-r),by rw[← zW,show r+(32-r)=32 by omega]⟩
 have e:(nth a i).toNat+4294967296*((nth a (i+1)).toNat+4294967296*z)=((nth a i).toNat+4294967296*(nth a (i+1)).toNat)+2^r*(4294967296*(q*z)):=by
  rw[KO,← KD]
  congr 1
  rw[← zR (2^r),zL (2^r),zR,← zR (2^r),← hq]
 rw[e,VU _ _ hp,Ww]
theorem Wd.drop{a:List Int}(h:Wd a)(i:Nat):Wd (a.drop i):=fun x hx=>h x (KZ hx)
theorem qze(q:Nat):Wd [((q % 4294967296:Nat):Int)]:=.cons (by omega) (by omega) .nil
theorem quq(B k x vo q:Nat)(hv:vo=x % B^k)(hq:x / B^k % B=q):vo+B^k*q=x % B^(k+1):=by
 rw[Nat.mod_pow_succ,hv,hq]
theorem Ja(l:List Int)(q:Nat):qa (l++[(q:Int)])=qa l+4294967296^l.length*q:=by
 rw[yq];show qa l+4294967296^l.length*((q:Int).toNat+4294967296*0)=_
 rw[zl,VB,Kr]
theorem ql5(a:List Int)(ha:Wd a)(s:Nat)(hlen:a.length≤549755813887):∀(k i:Nat) (out:List Int),i+k=a.length→out.length=i→Wd out→qa out=qa a / 2^(s % 32) % 4294967296^i →
 ∃out':List Int,out'.length=a.length∧Wd out'∧qa out'=qa a / 2^(s % 32) % 4294967296^a.length ∧
  ∃n,itP n qjE ((s:Int),a,i,(a.length:Int),(i:Int),out.map eW,())=some ((s:Int),a,a.length,(a.length:Int),(a.length:Int),out'.map eW,())
 | 0,i,out,hk,ho,hw,hv=>by
  have:i=a.length:=by omega
  subst this;exact⟨out,ho,hw,hv,QL (by simp[qjE])⟩
 | k+1,i,out,hk,ho,hw,hv=>by
  obtain⟨x0,x1⟩:=jU ha i;obtain⟨y0,y1⟩:=jU ha (i+1)
  obtain⟨X,hX⟩:∃X:Nat,nth a i=(X:Int):=⟨(nth a i).toNat,by omega⟩
  obtain⟨Y,hY⟩:∃Y:Nat,nth a (i+1)=(Y:Int):=⟨(nth a (i+1)).toNat,by omega⟩
  have hr:s % 32<32:=Vr _ (by omega)
  have e1:IntKind.i64.wrap ((i:Int)+1)=((i+1:Nat):Int):=by rw[w64 (by omega) (by omega)];rfl
  have e2:Int.tmod (s:Int) 32=((s % 32:Nat):Int):=by rw[Wp (by omega)];rfl
  have e3:IntKind.u64.wrap ((Y:Int)*2^32)=((Y*4294967296:Nat):Int):=by
   rw[show((Y:Int)*2^32)=((Y*4294967296:Nat):Int) by rw[Kq];rfl];exact jS (by omega) (by omega)
  have e4:qD .or .u64 (X:Int) ((Y*4294967296:Nat):Int)=((X+Y*4294967296:Nat):Int):=by
   rw[qfw (by omega) (by omega)];have:=qjG (x:=X) (y:=Y) (r:=32) (by simp;omega)
   rw[show(2:Nat)^32=4294967296 from rfl]at this;rw[this]
  have e5:Int.fdiv ((X+Y*4294967296:Nat):Int) (2^(min (s % 32) 64))=(((X+Y*4294967296) / 2^(s % 32):Nat):Int):=by
   rw[Vq (Wl (Ki hr (by decide)))];exact qaI _ _
  generalize hQ:(X+Y*4294967296) / 2^(s % 32)=Q at *
  have e6:IntKind.u32.wrap (Q:Int)=((Q % 4294967296:Nat):Int):=by rw[wrap_u32];omega
  have hword:=qup ha i (s % 32) (by omega)
  rw[hX,hY]at hword;simp only[zl]at hword;rw[zL 4294967296 Y,hQ]at hword;have hval:qa (out++[((Q % 4294967296:Nat):Int)])=qa a / 2^(s % 32) % 4294967296^(i+1):=by
   rw[Ja,ho];exact quq _ _ _ _ _ hv hword
  obtain⟨out',h1,h2,h3,h4⟩:=ql5 a ha s hlen k (i+1) (out++[((Q % 4294967296:Nat):Int)]) (by omega) (by simp[ho]) (hw.app (qze Q)) hval
  refine⟨out',h1,h2,h3,QK ?_ h4⟩
  have d1:decide ((i:Int)<(a.length:Int))=true:=zf (by omega)
  have d2:decide ((0:Int)≤((s % 32:Nat):Int))=true:=zf (by omega)
  have hb1:Nat.beq i (out.map eW).length=true:=by rw[zr,ho];exact VA _
  have hb2:Nat.ble ((out.map eW).length+[eW ((Q % 4294967296:Nat):Int)].length) 549755813888=true:=by
   rw[VW,zr,ho];simp;omega
  simp only[qjE,d1,zd,e1,Q8 ha,hX,hY,zi,e2,d2,e3,e4,zl,e5,e6];rw[hb1,hb2];simp[ho]
def qCr(p:List Int×Int):Option (List Int):=bif Nat.ble p.1.length 549755813887 then some (ofN (qa p.1 / 2^(max p.2 0).toNat))else none
theorem qDY(p:List Int×Int)(y:List Int)(hg:(dc (cQ 1 1) (d1 (cI .i64))).good p)(h:qCr p=some y):∃n,Shr n p.1 p.2=some y:=by
 obtain⟨a,s⟩:=p;obtain⟨⟨ha,la⟩,hs⟩:=hg;obtain⟨hm,h⟩:=qi h;have:=soi h;subst this
 have hlen:a.length≤549755813887:=zo hm
 have hs':=YK.1 hs;obtain⟨S,hS⟩:∃S:Nat,max s 0=(S:Int):=⟨(max s 0).toNat,by omega⟩
 have hw:=Wd.of ha;have e1:Int.tdiv (S:Int) 32=((S / 32:Nat):Int):=by rw[W9 (by omega)];rfl
 have e2:IntKind.i64.wrap ((S / 32:Nat):Int)=((S / 32:Nat):Int):=w64 (by omega) (by omega)
 show∃n,Shr n a s=some (ofN (qa a / 2^(max s 0).toNat))
 unfold Shr;rw[hS,e1,e2];simp only[zl];have split:qa a / 2^S=qa (a.drop (S / 32)) / 2^(S % 32):=by
  rw[← qdv hw,Zt,Kv,← zW]
  congr 2;omega
 by_cases hge:a.length≤S / 32
 · refine⟨0,?_⟩
   rw[zf (by omega),zd,split,KM hge];simp[qa,Yx]
 · obtain⟨out,h1,h2,h3,n,h4⟩:=ql5 (a.drop (S / 32)) (hw.drop _) S (by rw[Vf];omega) (a.drop (S / 32)).length 0 [] (by omega) rfl .nil (by simp[qa,XL])
   refine⟨n,?_⟩
   rw[zk (by omega),zh,zf (by omega),zf (by omega),zf (by omega)];have et:a.length-S / 32=(a.drop (S / 32)).length:=by rw[Vf]
   have ed:List.take ((a.length:Int)-((S / 32:Nat):Int)).toNat (a.drop (S / 32))=a.drop (S / 32):=zS (by rw[Vf];omega)
   rw[XN]at h4;simp only[zY,zd,ed];rw[show([]:List T)=([]:List Int).map eW from rfl,h4];have hsb:sub (out.map eW) 0 (a.drop (S / 32)).length=some (out.map eW):=by
    have:=YL (out.map eW)
    rwa [zr,h1]at this
   simp only[zi,hsb,Q9];show some (ofN (qa out))=_
   have hlt:qa (a.drop (S / 32)) / 2^(S % 32)<4294967296^(a.drop (S / 32)).length:=KX (VG _ _) (jo _ (hw.drop _))
   rw[h3,KA hlt,split]
theorem obB{α β:Type}{o:Option α}{x:α}{f:α→Option β}{r:Option β}(h:o=some x)(k:f x=r):o.bind f=r:=by rw[h];exact k
theorem qpI(Bk Bi B r vo c x va:Nat)(h:vo+c*(Bk*Bi)=va*r*Bk) :
 (vo+Bk*Bi*((c+x*r) % B))+(c+x*r) / B*(Bk*(Bi*B))=(va+Bi*x)*r*Bk:=by
 have:=X3 (c+x*r) B
 generalize (c+x*r) % B=m at *
 generalize (c+x*r) / B=d at *
 grind
theorem ql6(a:List Int)(ha:Wd a)(s:Nat)(hlen:s / 32+a.length≤549755813887):∀(m i:Nat) (out:List Int) (c:Nat),i+m=a.length→out.length=s / 32+i→Wd out→c<2^(s % 32) →
 qa out+c*(4294967296^(s / 32)*4294967296^i)=qa (a.take i)*2^(s % 32)*4294967296^(s / 32) →
 ∃(out':List Int) (c':Nat),out'.length=s / 32+a.length∧Wd out'∧c'<2^(s % 32)∧qa out'+c'*(4294967296^(s / 32)*4294967296^a.length)=qa a*2^(s % 32)*4294967296^(s / 32) ∧
  ∃n,itP n qjF ((s:Int),s / 32+i,(c:Int),a,(a.length:Int),(i:Int),out.map eW,())=some ((s:Int),s / 32+a.length,(c':Int),a,(a.length:Int),(a.length:Int),out'.map eW,())
 | 0,i,out,c,hk,ho,hw,hc,hv=>by
  have:i=a.length:=by omega
  subst this;rw[zS (zE _)]at hv;exact⟨out,c,ho,hw,hc,hv,QL (by simp[qjF])⟩
 | m+1,i,out,c,hk,ho,hw,hc,hv=>by
  have hia:i<a.length:=by omega
  obtain⟨x0,x1⟩:=jU ha i;obtain⟨X,hX⟩:∃X:Nat,nth a i=(X:Int):=⟨(nth a i).toNat,by omega⟩
  have hXl:X<4294967296:=by omega
  have hx:idx a (i:Int)=some (X:Int):=by rw[jB,zD hia,← hX];simp[nth,zD hia]
  have hr:s % 32<32:=Vr _ (by omega)
  have hp31:2^(s % 32)≤2147483648:=by
   have:=Kf (n:=2) (by omega) (show s % 32≤31 by omega);simpa using this
  have hvs:=qpI (4294967296^(s / 32)) (4294967296^i) 4294967296 (2^(s % 32)) (qa out) c X (qa (a.take i)) hv
  have hc2:(c+X*2^(s % 32)) / 4294967296<2^(s % 32):=by
   rw[KP (by omega)];have:=zH (2^(s % 32)) (show X≤4294967295 by omega)
   omega
  have e2:Int.tmod (s:Int) 32=((s % 32:Nat):Int):=by rw[Wp (by omega)];rfl
  have e3:IntKind.u64.wrap (IntKind.u64.wrap (X:Int)*2^min (s % 32) 64)=((X*2^(s % 32):Nat):Int):=by
   have ex:IntKind.u64.wrap (X:Int)=(X:Int):=jS (by omega) (by omega)
   rw[Vq (Wl (Ki hr (by decide))),ex];have h1:X*2^(s % 32)≤4294967295*2147483648:=Vd (by omega) hp31
   rw[show((X:Int)*2^(s % 32))=((X*2^(s % 32):Nat):Int) by rw[Kq,Int.natCast_pow];rfl];exact jS (by omega) (by omega)
  have e4:qD .or .u64 (c:Int) ((X*2^(s % 32):Nat):Int)=((c+X*2^(s % 32):Nat):Int):=by
   have h1:X*2^(s % 32)≤4294967295*2147483648:=Vd (by omega) hp31
   rw[qfw (by omega) (by omega),qjG hc]
  generalize hT:c+X*2^(s % 32)=t at *
  have e5:IntKind.u32.wrap (t:Int)=((t % 4294967296:Nat):Int):=by rw[wrap_u32];omega
  have e6:Int.fdiv (t:Int) (2^32)=((t / 4294967296:Nat):Int):=by
   have:=qaI t 32;rwa [show(2:Nat)^32=4294967296 from rfl]at this
  have e9:IntKind.i64.wrap ((i:Int)+1)=((i+1:Nat):Int):=by rw[w64 (by omega) (by omega)];rfl
  have hvt:qa (a.take (i+1))=qa (a.take i)+4294967296^i*X:=by rw[qR,hX,zl]
  obtain⟨out',c',h1,h2,h3,h4,h5⟩:=ql6 a ha s hlen m (i+1) (out++[((t % 4294967296:Nat):Int)]) (t / 4294967296) (by omega) (by simp[ho];omega) (hw.app (qze t)) hc2 (by
   rw[Ja,ho,hvt,← hvs,zW,Kx])
  refine⟨out',c',h1,h2,h3,h4,QK ?_ h5⟩
  have d1:decide ((i:Int)<(a.length:Int))=true:=zf (by omega)
  have d2:decide ((0:Int)≤((s % 32:Nat):Int))=true:=zf (by omega)
  have hb1:Nat.beq (s / 32+i) (out.map eW).length=true:=by rw[zr,ho];exact VA _
  have hb2:Nat.ble ((out.map eW).length+[eW ((t % 4294967296:Nat):Int)].length) 549755813888=true:=by
   rw[VW,zr,ho];simp;omega
  simp only[qjF,d1,zd,hx,zi,e2,d2,zl,e3,e4,e5,e6,e9];rw[hb1,hb2];simp[ho];omega
def qpJ(v s:Nat):List Int×Int:=if v=0 then([],0)else if 65536<qo v+s then([],20)else(ofN (v*2^s),0)
def shlL:{f:Nat→Nat→List Int×Int // ∀v s,f v s=qpJ v s}:=Classical.choice ⟨⟨_,fun _ _=>rfl⟩⟩
def qrK(v s:Nat):List Int×Int:=shlL.1 v s
theorem qpK(v s:Nat):qrK v s=qpJ v s:=shlL.2 v s
def okSL:{f:List Int→Bool // ∀a,f a=Nat.ble a.length 1000000}:=Classical.choice ⟨⟨_,fun _=>rfl⟩⟩
def okS(a:List Int):Bool:=okSL.1 a
theorem qn8(a:List Int):okS a=Nat.ble a.length 1000000:=okSL.2 a
def qhT(p:List Int×Int):Option (List Int×Int):=bif okS p.1 then
 some (qrK (qa p.1) (max p.2 0).toNat)else none
theorem qDZ(p:List Int×Int)(y:List Int×Int)(hg:(dc (cQ 1 1) (d1 (cI .i64))).good p)(h:qhT p=some y):∃n,Shl n p.1 p.2=some y:=by
 obtain⟨a,s⟩:=p;obtain⟨⟨ha,la⟩,hs⟩:=hg;obtain⟨hm,h⟩:=qi h;have:=soi h;subst this
 have hm:okS a=true:=hm
 rw[qn8]at hm;have hlen:a.length≤1000000:=zo hm
 have hs':=YK.1 hs;obtain⟨S,hS⟩:∃S:Nat,max s 0=(S:Int):=⟨(max s 0).toNat,by omega⟩
 have hw:=Wd.of ha;have hbl:qo (qa a)≤32*a.length:=yC.2 (by rw[← Zt];exact jo a hw)
 have e0:Len a=some (qo (qa a):Int):=qpH a (by omega)
 show∃n,Shl n a s=some (qrK (qa a) (max s 0).toNat)
 rw[qpK];unfold qpJ;unfold Shl;rw[hS,e0,zl];simp only[zi];by_cases hz:qa a=0
 · refine⟨0,?_⟩
   rw[Kp hz,hz,show qo 0=0 from rfl];rfl
 · have hb0:qo (qa a)≠0:=fun e=>by
    have:=yC.1 (XZ e)
    simp at this;omega
   have dz:decide (((qo (qa a):Nat):Int)=0)=false:=zk (by omega)
   have ew:IntKind.i64.wrap (65536-((qo (qa a):Nat):Int))=65536-((qo (qa a):Nat):Int):=w64 (by omega) (by omega)
   rw[zZ hz];by_cases hl:65536<qo (qa a)+S
   · refine⟨0,?_⟩
     rw[Kp hl,dz,zh,ew,zf (by omega),zd]
   · have hSl:S≤65536:=by omega
     have e1:Int.tdiv (S:Int) 32=((S / 32:Nat):Int):=by rw[W9 (by omega)];rfl
     have e2:IntKind.i64.wrap ((S / 32:Nat):Int)=((S / 32:Nat):Int):=w64 (by omega) (by omega)
     have e3:IntKind.i64.wrap (((S / 32:Nat):Int)+(a.length:Int))=((S / 32+a.length:Nat):Int):=by rw[w64 (by omega) (by omega)];rfl
     have e4:IntKind.i64.wrap (((S / 32+a.length:Nat):Int)+1)=((S / 32+a.length+1:Nat):Int):=by rw[w64 (by omega) (by omega)];rfl
     obtain⟨out,c,h1,h2,h3,h4,n,h5⟩:=ql6 a hw S (by omega) a.length 0 (List.replicate (S / 32) 0) 0 (by omega) (by simp) (fun x hx=>by
      have:=(Vj.1 hx).2;subst this;exact⟨Vy _,by decide⟩) (zK _) (by simp[Z0,qa])
     refine⟨n,?_⟩
     rw[zZ hl,dz,zh,ew,zk (by omega),zh];rw[e1,e2,e3,e4,zf (show(0:Int)≤((S / 32:Nat):Int) by omega),zf (show((S / 32:Nat):Int)≤((S / 32+a.length+1:Nat):Int) by omega),zf (show((S / 32+a.length+1:Nat):Int)≤549755813888 by omega)];simp only[zY,zd,zl];rw[We,Kr]at h5;refine obB h5 ?_
     have hcl:c<4294967296:=by
      have:=Kf (n:=2) (by omega) (show S % 32≤31 by omega);simp at this;omega
     have e5:IntKind.u32.wrap (c:Int)=(c:Int):=qn0 (by omega) (by omega)
     have hb1:Nat.beq (S / 32+a.length) (out.map eW).length=true:=by rw[zr,h1];exact VA _
     have hb2:Nat.ble ((out.map eW).length+[eW (c:Int)].length) 549755813888=true:=by
      rw[VW,zr,h1];simp;omega
     have em:out.map eW++[T.s (.int .u32 (c:Int))]=(out++[(c:Int)]).map eW:=by rw[KN];rfl
     simp only[e5];rw[hb1,hb2,em,YL];simp only[zY,zd,zi,Q9];show some (ofN (qa (out++[(c:Int)])),(0:Int))=_
     rw[Ja,h1,zL _ c,zW,h4,show 2^S=2^(S % 32)*4294967296^(S / 32) by rw[Zt,← zW];congr 1;omega,zR]
end
end Su
end
section
namespace Su
open Go Fly
noncomputable section
def qjH:((List Int)×(List Int)×Nat×Int×Int×Int×(List T)×Unit)→Option (((List Int)×(List Int)×Nat×Int×Int×Int×(List T)×Unit) ⊕ ((List Int)×(List Int)×Nat×Int×Int×Int×(List T)×Unit)):=fun p0=>(bif(decide (p0.2.2.2.2.2.1<p0.2.2.2.2.1))then
 (At p0.1 p0.2.2.2.2.2.1).bind fun x1=>
 (At p0.2.1 p0.2.2.2.2.2.1).bind fun x2=>
 (bif((true&&(Nat.beq p0.2.2.1 p0.2.2.2.2.2.2.1.length))&&(Nat.ble (p0.2.2.2.2.2.2.1.length+(List.length [(T.s (.int .u32 (IntKind.wrap .u32 (IntKind.wrap .u64 ((IntKind.wrap .u64 (x1-x2))-p0.2.2.2.1)))))])) 549755813888))then
 some (.inl (p0.1,p0.2.1,(List.length (p0.2.2.2.2.2.2.1++[(T.s (.int .u32 (IntKind.wrap .u32 (IntKind.wrap .u64 ((IntKind.wrap .u64 (x1-x2))-p0.2.2.2.1)))))])),(Int.fdiv (IntKind.wrap .u64 ((IntKind.wrap .u64 (x1-x2))-p0.2.2.2.1)) (2^63)),p0.2.2.2.2.1,(IntKind.wrap .i64 (p0.2.2.2.2.2.1+1)),(p0.2.2.2.2.2.2.1++[(T.s (.int .u32 (IntKind.wrap .u32 (IntKind.wrap .u64 ((IntKind.wrap .u64 (x1-x2))-p0.2.2.2.1)))))]),()))
 else none)
 else
  some (.inr (p0.1,p0.2.1,p0.2.2.1,p0.2.2.2.1,p0.2.2.2.2.1,p0.2.2.2.2.2.1,p0.2.2.2.2.2.2.1,())))
def Sub  (fu:Nat)(a:(List Int))(b:(List Int)):Option ((List Int)×Bool) :=
 (bif(decide ((JC (qa a) (qa b))<0))then
 some ([],false)
 else
  (itP fu (qjH) (a,b,0,(0:Int),(List.length a:Int),(0:Int),[],())).bind fun x3=>
  (Su.sub x3.2.2.2.2.2.2.1 0 x3.2.2.1).bind fun x4=>
  (Su.sub x3.2.2.2.2.2.2.1 0 x3.2.2.1).bind fun x5=>
  (Su.sub x3.2.2.2.2.2.2.1 0 x3.2.2.1).bind fun x6=>
  ((jW 1 x4).bind fun x7=>
  some (ofN (qa x7))).bind fun x8=>
  some (x8,true))
abbrev Z1:=((List Int)×Int×Nat×Int×Int×(List T)×Unit)
def Z2:Z1→Option (Z1 ⊕ Z1):=fun p0=>(bif(decide (p0.2.2.2.2.1<p0.2.2.2.1))then
 (At p0.1 p0.2.2.2.2.1).bind fun x1=>
 (bif(decide (0≤p0.2.1))then
 (bif(decide (0<p0.2.2.2.2.1))then
 (At p0.1 (IntKind.wrap .i64 (p0.2.2.2.2.1-1))).bind fun x2=>
 (bif(decide (0≤p0.2.1))then
 (bif((true&&(decide (0≤p0.2.2.2.2.1)))&&(decide (p0.2.2.2.2.1<(p0.2.2.1:Int))))then
 ((p0.2.2.2.2.2.1)[(0+p0.2.2.2.2.1.toNat)]?).bind fun x3=>
 (asI .u32 (.t x3)).bind fun x4=>
 some (.inl (p0.1,p0.2.1,p0.2.2.1,p0.2.2.2.1,(IntKind.wrap .i64 (p0.2.2.2.2.1+1)),(List.set p0.2.2.2.2.2.1 (0+p0.2.2.2.2.1.toNat) (T.s (.int .u32 (IntKind.wrap .u32 (Fly.qD Go.BinOp.or .u64 (IntKind.wrap .u64 (x1*(2^(min p0.2.1.toNat 64)))) (Int.fdiv (IntKind.wrap .u64 (x2*(2^(min p0.2.1.toNat 64)))) (2^32))))))),()))
 else none)
 else none)
 else
  (bif((true&&(decide (0≤p0.2.2.2.2.1)))&&(decide (p0.2.2.2.2.1<(p0.2.2.1:Int))))then
  ((p0.2.2.2.2.2.1)[(0+p0.2.2.2.2.1.toNat)]?).bind fun x5=>
  (asI .u32 (.t x5)).bind fun x6=>
  some (.inl (p0.1,p0.2.1,p0.2.2.1,p0.2.2.2.1,(IntKind.wrap .i64 (p0.2.2.2.2.1+1)),(List.set p0.2.2.2.2.2.1 (0+p0.2.2.2.2.1.toNat) (T.s (.int .u32 (IntKind.wrap .u32 (IntKind.wrap .u64 (x1*(2^(min p0.2.1.toNat 64)))))))),()))
 else none))
 else none)
 else
  some (.inr (p0.1,p0.2.1,p0.2.2.1,p0.2.2.2.1,p0.2.2.2.2.1,p0.2.2.2.2.2.1,())))
theorem subw{X Y r:Nat}(hX:X<4294967296)(hY:Y<4294967296)(hr:r≤1):∃z r':Nat,z<4294967296∧r'≤1∧z+Y+r=X+r'*4294967296 ∧
 IntKind.u32.wrap (IntKind.u64.wrap (IntKind.u64.wrap ((X:Int)-(Y:Int))-(r:Int)))=(z:Int)∧Int.fdiv (IntKind.u64.wrap (IntKind.u64.wrap ((X:Int)-(Y:Int))-(r:Int))) (2^63)=(r':Int):=by
 rw[wrap_u32,wrap_u64,wrap_u64,Vs _ (by decide),show(2:Int)^63=9223372036854775808 from rfl];by_cases h:Y+r≤X
 · exact⟨X-(Y+r),0,by omega,by omega,by omega,by omega,by omega⟩
 · exact⟨X+4294967296-(Y+r),1,by omega,by omega,by omega,by omega,by omega⟩
theorem qzf{P B vo vb va r x y z r':Nat}(h:vo+vb=va+r*P)(hz:z+y+r=x+r'*B):(vo+P*z)+(vb+P*y)=(va+P*x)+r'*(P*B):=by grind
theorem ql7(a b:List Int)(ha:Wd a)(hb:Wd b)(hN:a.length≤549755813887):∀(k i:Nat) (out:List Int) (r:Nat),i+k=a.length→out.length=i→Wd out→r≤1 →
 qa out+qa (b.take i)=qa (a.take i)+r*4294967296^i →
 ∃(out':List Int) (r':Nat),out'.length=a.length∧Wd out'∧r'≤1∧qa out'+qa (b.take a.length)=qa a+r'*4294967296^a.length ∧
  ∃n,itP n qjH (a,b,i,(r:Int),(a.length:Int),(i:Int),out.map eW,())=some (a,b,a.length,(r':Int),(a.length:Int),(a.length:Int),out'.map eW,())
 | 0,i,out,r,hk,ho,hw,hr,hv=>by
  have:i=a.length:=by omega
  subst this;rw[zS (zE a.length)]at hv;exact⟨out,r,ho,hw,hr,hv,QL (by simp[qjH])⟩
 | k+1,i,out,r,hk,ho,hw,hr,hv=>by
  obtain⟨x0,x1⟩:=jU ha i;obtain⟨y0,y1⟩:=jU hb i;obtain⟨X,hX⟩:∃X:Nat,nth a i=(X:Int):=⟨(nth a i).toNat,by omega⟩
  obtain⟨Y,hY⟩:∃Y:Nat,nth b i=(Y:Int):=⟨(nth b i).toNat,by omega⟩
  obtain⟨z,r',z1,z2,z3,z4,z5⟩:=subw (X:=X) (Y:=Y) (r:=r) (by omega) (by omega) hr
  have e3:IntKind.i64.wrap ((i:Int)+1)=((i+1:Nat):Int):=by rw[w64 (by omega) (by omega)];rfl
  obtain⟨out',r2,h1,h2,h4,h5,h6⟩:=ql7 a b ha hb hN k (i+1) (out++[(z:Int)]) r' (by omega) (by simp[ho]) (hw.app (.cons (by omega) (by omega) .nil)) z2 (by
   rw[Ja,qR,qR,ho,hX,hY,zl,zl,Kx];exact qzf hv z3)
  refine⟨out',r2,h1,h2,h4,h5,QK ?_ h6⟩
  have hi:(i:Int)<(a.length:Int):=by omega
  have hb1:Nat.beq i (out.map eW).length=true:=by rw[zr,ho];exact VA _
  have hb2:Nat.ble ((out.map eW).length+[eW (z:Int)].length) 549755813888=true:=by
   rw[VW,zr,ho];simp;omega
  simp only[qjH,Q8 ha,Q8 hb,zi,zf hi,zd,hX,hY,z4,z5,e3];rw[hb1,hb2];simp[ho]
theorem qhU(b:List Int)(h:Wd b)(n:Nat)(hn:qa b<4294967296^n):qa (b.take n)=qa b:=by
 by_cases hl:n≤b.length
 · have h1:=yq (b.take n) (b.drop n)
   rw[Ky,Kj,Vq hl,← qdv h,Vu hn,VB,Kr]at h1;exact h1.symm
 · rw[zS (by omega)]
theorem qpL(a b:Nat):decide (JC a b<0)=decide (a<b):=by
 unfold JC;by_cases h:a<b
 · rw[Kp h,zf h];rfl
 · rw[zZ h,zk h]
   by_cases h2:a=b
   · rw[Kp h2];rfl
   · rw[zZ h2];rfl
def qhV(p:List Int×List Int):Option (List Int×Bool):=bif Nat.ble p.1.length 549755813887 then some (if qa p.1<qa p.2 then([],false)else(ofN (qa p.1-qa p.2),true))else none
theorem qD0(p:List Int×List Int)(y:List Int×Bool)(hg:(dc (cQ 1 1) (d1 (cQ 1 1))).good p)(h:qhV p=some y):∃n,Sub n p.1 p.2=some y:=by
 obtain⟨a,b⟩:=p;obtain⟨⟨ha,la⟩,hb,lb⟩:=hg;obtain⟨hm,h⟩:=qi h;have:=soi h;subst this
 have hlen:a.length≤549755813887:=zo hm
 have hwa:=Wd.of ha;have hwb:=Wd.of hb;show∃n,Sub n a b=some (if qa a<qa b then([],false)else(ofN (qa a-qa b),true))
 unfold Sub;rw[qpL];by_cases hlt:qa a<qa b
 · refine⟨0,?_⟩
   rw[Kp hlt,zf hlt,zd]
 · obtain⟨out,r,h1,h2,h3,h4,n,h5⟩:=ql7 a b hwa hwb hlen a.length 0 [] 0 (by omega) rfl .nil (by omega) (by simp[qa])
   refine⟨n,?_⟩
   rw[zZ hlt,zk hlt,zh];refine obB h5 ?_
   have hs:sub (out.map eW) 0 a.length=some (out.map eW):=by
    have:=YL (out.map eW)
    rwa [zr,h1]at this
   simp only[hs,zi,Q9];have hva:=jo a hwa;rw[qhU b hwb a.length (by omega)]at h4;have ho:=jo out h2;rw[h1]at ho;have hr0:r=0:=by
    cases r with
    | zero=>rfl
    | succ r=>rw[zV,KU]at h4;omega
   subst hr0;show some (ofN (qa out),true)=_
   rw[show qa out=qa a-qa b by omega]
def ql8:Nat→Nat→List Int
 | 0,_=>[]
 | k+1,v=>((v % 4294967296:Nat):Int)::ql8 k (v / 4294967296)
theorem ql9:∀(k v:Nat),(ql8 k v).length=k
 | 0,_=>rfl
 | k+1,v=>by rw[ql8,zq,ql9 k]
theorem qpM:∀(k v:Nat),Wd (ql8 k v)
 | 0,_=>.nil
 | k+1,v=>.cons (by omega) (by omega) (qpM k _)
theorem qur(k v:Nat):qa (ql8 k v)=v % 4294967296^k:=by
 induction k generalizing v with
 | zero=>simp[ql8,qa,XL]
 | succ k ih=>
  have h1:=Nat.mod_mul (x:=v) (a:=4294967296) (b:=4294967296^k)
  rw[Kx,zL (4294967296^k),h1];simp only[ql8,qa,ih];rw[zl]
theorem qus{c x r:Nat}(hr:r≤32)(hc:c<2^r):(c+x*2^r) / 4294967296=x*2^r / 4294967296:=by
 have e:4294967296=2^r*2^(32-r):=by rw[← zW,show r+(32-r)=32 by omega]
 rw[e,← Kv,← Kv,Nat.add_mul_div_right _ _ (zK r),Vu hc,Nat.mul_div_cancel _ (zK r),zQ]
theorem qzg(o:List Int)(k:Nat)(y:Int):((o++List.replicate (k+1) 0).map eW).set o.length (eW y)=((o++[y])++List.replicate k 0).map eW:=by
 rw[KN,Xy,zZ (by simp),zr,Vi,Wj,KY,Wn,KN,KN,Ke];rfl
theorem qma(a:List Int)(ha:Wd a)(r:Nat)(hr:r<32)(size:Nat)(hN:size≤549755813887):∀(k i:Nat) (o:List Int) (c:Nat),i+k=size→o.length=i→Wd o→c<2^r →
 (i=0→c=0)→(∀j,i=j+1→c=(nth a j).toNat*2^r / 4294967296)→qa o+c*4294967296^i=qa (a.take i)*2^r →
 ∃(o':List Int) (c':Nat),o'.length=size∧Wd o'∧qa o'+c'*4294967296^size=qa (a.take size)*2^r ∧
  ∃n,itP n Z2 (a,(r:Int),size,(size:Int),(i:Int),(o++List.replicate k 0).map eW,())=some (a,(r:Int),size,(size:Int),(size:Int),o'.map eW,())
 | 0,i,o,c,hk,ho,hw,hc,_,_,hv=>by
  have:i=size:=by omega
  subst this;refine⟨o,c,ho,hw,hv,QL ?_⟩
  rw[List.replicate_zero,zO];simp[Z2]
 | k+1,i,o,c,hk,ho,hw,hc,hc0,hcs,hv=>by
  obtain⟨x0,x1⟩:=jU ha i;obtain⟨X,hX⟩:∃X:Nat,nth a i=(X:Int):=⟨(nth a i).toNat,by omega⟩
  have hXl:X<4294967296:=by omega
  have hp31:2^r≤2147483648:=by
   have:=Kf (n:=2) (by omega) (show r≤31 by omega);simpa using this
  have hxl:X*2^r≤4294967295*2147483648:=Vd (by omega) hp31
  have hvs:=qpI 1 (4294967296^i) 4294967296 (2^r) (qa o) c X (qa (a.take i)) (by rw[KU,Wb];exact hv)
  rw[qus (by omega) hc,KU,KU,Wb]at hvs;have hmin:min r 64=r:=by omega
  have em:∀Z:Nat,Z<4294967296→IntKind.u64.wrap ((Z:Int)*2^min r 64)=((Z*2^r:Nat):Int):=fun Z hZ=>by
   have h1:Z*2^r≤4294967295*2147483648:=Vd (by omega) hp31
   rw[hmin,show((Z:Int)*2^r)=((Z*2^r:Nat):Int) by rw[Kq,Int.natCast_pow];rfl];exact jS (by omega) (by omega)
  have hvt:qa (a.take (i+1))=qa (a.take i)+4294967296^i*X:=by rw[qR,hX,zl]
  have e9:IntKind.i64.wrap ((i:Int)+1)=((i+1:Nat):Int):=by rw[w64 (by omega) (by omega)];rfl
  have hc2:X*2^r / 4294967296<2^r:=by
   rw[KP (by omega)];have:=zH (2^r) (show X≤4294967295 by omega)
   have:=zK r
   omega
  obtain⟨o',c',h1,h2,h4,h5⟩:=qma a ha r hr size hN k (i+1) (o++[(((c+X*2^r) % 4294967296:Nat):Int)]) (X*2^r / 4294967296) (by omega) (by simp[ho]) (hw.app (qze _)) hc2 (fun h=>by omega)
   (fun j hj=>by(have:j=i:=(by omega));subst this;rw[hX,zl]) (by rw[Ja,ho,hvt,← hvs,Kx])
  refine⟨o',c',h1,h2,h4,QK ?_ h5⟩
  have d1:decide ((i:Int)<(size:Int))=true:=zf (by omega)
  have d2:decide ((0:Int)≤(r:Int))=true:=zf (by omega)
  have d3:decide ((0:Int)≤(i:Int))=true:=zf (by omega)
  have hget:((o++List.replicate (k+1) 0).map eW)[i]?=some (eW 0):=by
   rw[KN,zP (by simp[ho]),zr,ho,Vi];rfl
  have hset:=qzg o k (((c+X*2^r) % 4294967296:Nat):Int)
  rw[ho]at hset;have ewrap:∀t:Nat,IntKind.u32.wrap (t:Int)=((t % 4294967296:Nat):Int):=fun t=>by rw[wrap_u32];omega
  simp only[Z2,d1,zd,Q8 ha,hX,zi,d2,d3,zl,em X hXl,zY,zG,zQ,hget,QM,e9];by_cases hi0:i=0
  · subst hi0
    obtain rfl:c=0:=hc0 rfl
    have d4:decide ((0:Int)<((0:Nat):Int))=false:=rfl
    rw[d4,zh,ewrap];simp only[zQ]at hset ⊢;rw[show T.s (.int .u32 ((X*2^r % 4294967296:Nat):Int))=eW ((X*2^r % 4294967296:Nat):Int) from rfl,hset]
  · obtain⟨j,rfl⟩:∃j,i=j+1:=⟨i-1,by omega⟩
    have hcj:=hcs j rfl;obtain⟨y0,y1⟩:=jU ha j;obtain⟨Y,hY⟩:∃Y:Nat,nth a j=(Y:Int):=⟨(nth a j).toNat,by omega⟩
    rw[hY,zl]at hcj;have d4:decide ((0:Int)<((j+1:Nat):Int))=true:=zf (by omega)
    have e5:IntKind.i64.wrap (((j+1:Nat):Int)-1)=(j:Int):=by rw[w64 (by omega) (by omega)];omega
    have e6:Int.fdiv ((Y*2^r:Nat):Int) (2^32)=(c:Int):=by
     have:=qaI (Y*2^r) 32;rw[show(2:Nat)^32=4294967296 from rfl]at this;rw[this,hcj]
    have e7:qD .or .u64 ((X*2^r:Nat):Int) (c:Int)=((c+X*2^r:Nat):Int):=by
     rw[qfw (by omega) (by omega),Xw,qjG hc]
    rw[d4,zd,e5,Q8 ha,hY,zi,em Y (by omega),e6,e7,ewrap];rw[show T.s (.int .u32 (((c+X*2^r) % 4294967296:Nat):Int))=eW (((c+X*2^r) % 4294967296:Nat):Int) from rfl,hset]
end
end Su
end
section
namespace Su
open Go Fly
def qmb(l:List Int):Bool:=Nat.ble l.length 549755813888
def Jj(l:List Int):Option (List Int):=bif qmb l then some l else none
def qcM(p:List Int×Int):Option (List Int×List Int):=bif decide (0<p.2)&&qmb p.1 then some (ofN (qa p.1 / p.2.toNat),ofN (qa p.1 % p.2.toNat))else none
end Su
end
section
namespace Su
theorem qut{B P f d2 top n2 D N Dr Nr:Nat}(hD:D=(f*B+d2)*P+Dr)(hN:N=(top*B+n2)*P+Nr)(hNr:Nr<P)(hn2:n2<B)(hf:0<f):N<(top / f+1)*D:=by
 have h1:top+1≤(top / f+1)*f:=by
  have:=Vb top f
  have h2:=Vr top hf;rw[zV,KU,zL];omega
 have h2:top*B+n2+1≤(top / f+1)*(f*B+d2):=by
  have h3:=zH B h1;rw[zV,KU]at h3;have h4:(top / f+1)*(f*B+d2)=(top / f+1)*f*B+(top / f+1)*d2:=by rw[KO,zR]
  rw[h4];omega
 have h3:N<(top*B+n2+1)*P:=by rw[hN,zV (top*B+n2) 1 P,KU];omega
 have h4:(top*B+n2+1)*P≤(top / f+1)*(f*B+d2)*P:=zH P h2
 have h5:(top / f+1)*(f*B+d2)*P≤(top / f+1)*D:=by
  rw[zR,hD];exact KB _ (Nat.le_add_right _ _)
 omega
theorem qzh{B P f d2 top n2 D N Dr Nr g left:Nat}(hD:D=(f*B+d2)*P+Dr)(hN:N=(top*B+n2)*P+Nr)(hNr:Nr<P)(hl:g*f+left=top)
 (ht:left*B+n2<g*d2):N<g*D:=by
 have h2:top*B+n2+1≤g*(f*B+d2):=by
  have h4:g*(f*B+d2)=g*f*B+g*d2:=by rw[KO,zR]
  rw[h4,← hl,zV];omega
 have h3:N<(top*B+n2+1)*P:=by rw[hN,zV (top*B+n2) 1 P,KU];omega
 have h4:(top*B+n2+1)*P≤g*(f*B+d2)*P:=zH P h2
 have h5:g*(f*B+d2)*P≤g*D:=by
  rw[zR,hD];exact KB _ (Nat.le_add_right _ _)
 omega
theorem qD1{B P f d2 top n2 D N Dr Nr g left:Nat}(hD:D=(f*B+d2)*P+Dr)(hN:N=(top*B+n2)*P+Nr)(hDr:Dr<P)(hl:g*f+left=top)(hf:0<f)(hB:0<B)(hg:g≤B)
 (ht:g*d2≤left*B+n2):g*D<N+D:=by
 have h2:g*(f*B+d2)≤top*B+n2:=by
  have h4:g*(f*B+d2)=g*f*B+g*d2:=by rw[KO,zR]
  rw[h4,← hl,zV];omega
 have h3:g*(f*B+d2)*P≤(top*B+n2)*P:=zH P h2
 have h4:g*D=g*(f*B+d2)*P+g*Dr:=by rw[hD,KO,zR]
 have h5:g*Dr≤B*Dr:=zH _ hg
 have h6:B*Dr+B≤B*P:=by
  have:=KB B (show Dr+1≤P by omega)
  rwa [KO,Wb]at this
 have h7:B*P≤D:=by
  have:1*(B*P)≤f*(B*P):=zH _ hf
  rw[hD,zV,zR];omega
 omega
theorem quu{B P f d2 top n2 D N Dr Nr:Nat}(hD:D=(B*f+d2)*P+Dr)(hN:N=(B*top+n2)*P+Nr)(hNr:Nr<P)(hn2:n2<B)(hf:0<f):N<(top / f+1)*D :=
 qut (B:=B) (by rw[zL f B];exact hD) (by rw[zL top B];exact hN) hNr hn2 hf
theorem qzi{B P f d2 top n2 D N Dr Nr g left:Nat}(hD:D=(B*f+d2)*P+Dr)(hN:N=(B*top+n2)*P+Nr)(hNr:Nr<P)(hl:g*f+left=top)(ht:B*left+n2<g*d2):N<g*D :=
 qzh (B:=B) (by rw[zL f B];exact hD) (by rw[zL top B];exact hN) hNr hl (by rw[zL left B];exact ht)
theorem qD2{B P f d2 top n2 D N Dr Nr g left:Nat}(hD:D=(B*f+d2)*P+Dr)(hN:N=(B*top+n2)*P+Nr)(hDr:Dr<P)(hl:g*f+left=top)(hf:0<f)(hB:0<B)(hg:g≤B)(ht:g*d2≤B*left+n2):g*D<N+D :=
 qD1 (B:=B) (by rw[zL f B];exact hD) (by rw[zL top B];exact hN) hDr hl hf hB hg (by rw[zL left B];exact ht)
theorem qzj{D N g:Nat}(h1:N<(g+1)*D)(h2:g*D<N+D):(g*D≤N→N / D=g∧N % D=N-g*D)∧(N<g*D→N / D+1=g∧N % D+g*D=N+D):=by
 have hD:0<D:=by
  cases D with
  | zero=>omega
  | succ=>omega
 refine⟨fun h=>?_,fun h=>?_⟩
 · have hq:N / D=g:=by
    refine Nat.le_antisymm (Nat.lt_succ_iff.1 ((KP hD).2 h1)) ((Xq hD).2 h)
   have:=Vb N D
   rw[hq,zL]at this;exact⟨hq,by omega⟩
 · cases g with
   | zero=>omega
   | succ g=>
    rw[zV,KU]at h h2;have hq:N / D=g:=by
     refine Nat.le_antisymm (Nat.lt_succ_iff.1 ((KP hD).2 (by rw[Nat.succ_mul];exact h))) ((Xq hD).2 (by omega))
    have:=Vb N D
    rw[hq,zL]at this;rw[zV,KU];exact⟨by rw[hq],by omega⟩
end Su
end
