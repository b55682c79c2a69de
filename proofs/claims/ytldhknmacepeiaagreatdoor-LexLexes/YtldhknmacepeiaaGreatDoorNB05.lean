/-
  What functions of the program compute, in plain Lean, and that the evaluator finds it.
-/
import Derived.Test.YtldhknmacepeiaaGreatDoorSuXl
import Derived.Test.YtldhknmacepeiaaGreatDoorRb
import Derived.Test.YtldhknmacepeiaaGreatDoorFlyM
set_option linter.unusedVariables false
set_option linter.unusedSimpArgs false
set_option maxRecDepth 10000
section
namespace Su
open Go Fly
noncomputable section
def qur  (a:(List Int)):Option (Int×Bool) :=
 (Len a).bind fun x0=>
 (bif(decide (64<x0))then
 some ((0:Int),false)
 else
  (At a 0).bind fun x1=>
  (At a 1).bind fun x2=>
  some ((Fly.qB Go.BinOp.or .u64 x1 (IntKind.wrap .u64 (x2*(2^32)))),true))
theorem qBp:((List.range 256).all fun i=>decide ((Jr[i]?).map UInt8.toNat=some (qj i)))=true:=by decide +kernel
theorem qbd{i:Nat}(h:i<256):∃b:UInt8,Jr[i]?=some b∧b.toNat=qj i:=by
 have:=zX.1 qBp i (Wi.2 h)
 have h2:=zW this;cases hb:Jr[i]? with
 | none=>rw[hb]at h2;cases h2
 | some b=>rw[hb]at h2;exact⟨b,rfl,by simpa using h2⟩
theorem qfJ(x:Nat)(h:x<4294967296):qiy (x:Int)=some (qj x:Int):=by
 have b32:qj x≤32:=j9.2 (by simpa using h)
 have fd:∀(y k:Nat),Int.fdiv (y:Int) (2^k)=((y / 2^k:Nat):Int):=fun y k=>by
  rw[Vd _ (by have:=zH k;exact_mod_cast VX _)];simp
 have w8:∀(y:Nat),y<256→IntKind.u8.wrap (y:Int)=y:=fun y hy=>wu8 (by omega) (by omega)
 have wn:∀(y:Nat),y<256→IntKind.i64.wrap (y:Int)=y:=fun y hy=>w64 (by omega) (by omega)
 have ws:∀(y z:Nat),y<256→z<256→IntKind.i64.wrap ((y:Int)+(z:Int))=((y+z:Nat):Int):=fun y z hy hz=>by rw[w64 (by omega) (by omega)];rfl
 have bl:∀y,y<256→qj y≤8:=fun y hy=>j9.2 (by simpa using hy)
 unfold qiy;by_cases h1:65536≤x
 · have d1:decide ((65536:Int)≤(x:Int))=true:=za (by omega)
   rw[d1,zf,fd];have hb:=J0 (n:=x) (k:=16) h1
   by_cases h2:256≤x / 2^16
   · have d2:decide ((256:Int)≤((x / 2^16:Nat):Int))=true:=za (by omega)
     have hlt:x / 2^16 / 2^8<256:=by omega
     obtain⟨b,hb1,hb2⟩:=qbd hlt;have hb':=J0 (n:=x / 2^16) (k:=8) h2
     have:=bl _ hlt
     rw[d2,zf,fd,w8 _ hlt,za (by omega),zf,zg,hb1,zd,hb2];rw[wn (qj _) (by omega),show((16:Int)+8)=((24:Nat):Int) from rfl,wn 24 (by omega),ws _ _ (by omega) (by omega)]
     congr 2;omega
   · have d2:decide ((256:Int)≤((x / 2^16:Nat):Int))=false:=zi (by omega)
     have hlt:x / 2^16<256:=by omega
     obtain⟨b,hb1,hb2⟩:=qbd hlt;have:=bl _ hlt
     rw[d2,zj,w8 _ hlt,za (by omega),zf,zg,hb1,zd,hb2];rw[wn (qj _) (by omega),show(16:Int)=((16:Nat):Int) from rfl,ws _ _ (by omega) (by omega)]
     congr 2;omega
 · have d1:decide ((65536:Int)≤(x:Int))=false:=zi (by omega)
   rw[d1,zj];by_cases h2:256≤x
   · have d2:decide ((256:Int)≤(x:Int))=true:=za (by omega)
     have hlt:x / 2^8<256:=by omega
     obtain⟨b,hb1,hb2⟩:=qbd hlt;have hb':=J0 (n:=x) (k:=8) h2
     have:=bl _ hlt
     rw[d2,zf,fd,w8 _ hlt,za (by omega),zf,zg,hb1,zd,hb2];rw[wn (qj _) (by omega),show((0:Int)+8)=((8:Nat):Int) from rfl,wn 8 (by omega),ws _ _ (by omega) (by omega)]
     congr 2;omega
   · have d2:decide ((256:Int)≤(x:Int))=false:=zi (by omega)
     have hlt:x<256:=by omega
     obtain⟨b,hb1,hb2⟩:=qbd hlt;have:=bl _ hlt
     rw[d2,zj,w8 _ hlt,za (by omega),zf,zg,hb1,zd,hb2];rw[wn (qj _) (by omega),Int.zero_add,wn _ (by omega)]
theorem qeh(v:Nat):v≠0→∃(l:List Int) (x:Nat),ofN v=l++[(x:Int)]∧x≠0∧x<4294967296∧Wd l∧v=qd l+4294967296^l.length*x:=by
 induction v using Nat.strongRecOn with
 | _ v ih=>
  intro hv;rw[qiv hv];by_cases hB:v<4294967296
  · refine⟨[],v,?_,hv,hB,.nil,by simp[qd]⟩
    rw[Kf hB,KN hB,Jq];rfl
  · obtain⟨l,x,h1,h2,h3,h4,h5⟩:=ih (v / 4294967296) (by omega) (by omega)
    refine⟨((v % 4294967296:Nat):Int)::l,x,by rw[h1];rfl,h2,h3,.cons (by omega) (by omega) h4,?_⟩
    simp only[qd,zy,zU,zg];have e:4294967296^l.length*4294967296*x=4294967296*(4294967296^l.length*x):=by rw[zB (4294967296^l.length) 4294967296,zt]
    rw[e];have:=KG v 4294967296
    rw[h5]at this;rw[Kx]at this;omega
theorem qcN(k:Nat):(4294967296:Nat)^k=2^(32*k):=by rw[Nat.pow_mul]
theorem qfK{l:List Int}{x:Nat}(hw:Wd l)(hx:x≠0):qj (qd l+4294967296^l.length*x)=32*l.length+qj x:=by
 have h1:=yJ l hw;have hp:0<4294967296^l.length:=Nat.pow_pos (by omega)
 have h2:2^(32*l.length)≤qd l+4294967296^l.length*x:=by
  rw[← qcN];have:4294967296^l.length*1≤4294967296^l.length*x:=zQ _ (by omega)
  omega
 rw[J0 h2,← qcN,Vs _ _ hp,KN h1,zF]
theorem qg4(a:List Int)(h:qj (qd a)<4611686018427387904):Len a=some (qj (qd a):Int):=by
 unfold Len;generalize qd a=v at h ⊢
 by_cases hv:v=0
 · subst hv;rfl
 · obtain⟨l,x,h1,h2,h3,h4,h5⟩:=qeh v hv
   have hb:qj v=32*l.length+qj x:=by rw[h5];exact qfK h4 h2
   have hbx:qj x≤32:=j9.2 (by simpa using h3)
   have hl:(ofN v).length=l.length+1:=by rw[h1];simp
   have d1:decide (((ofN v).length:Int)=0)=false:=zi (by omega)
   have e1:IntKind.i64.wrap (((ofN v).length:Int)-1)=(l.length:Int):=by rw[hl,w64 (by omega) (by omega)];omega
   have e2:IntKind.i64.wrap (32*(l.length:Int))=32*(l.length:Int):=w64 (by omega) (by omega)
   have hi:idx (ofN v) (l.length:Int)=some (x:Int):=by rw[yH,h1];simp
   rw[d1,zj,e1,hi,zd,qfJ x h3,zd,e2,w64 (by omega) (by omega),hb];simp
end
end Su
end
section
namespace Su
open Go Fly
noncomputable section
def qg5:Stp (Int×(List Int)×Nat×Int×Int×(List T)×Unit):=fun p0=>(bif(decide (p0.2.2.2.2.1<p0.2.2.2.1))then
 (At p0.2.1 p0.2.2.2.2.1).bind fun x1=>
 (At p0.2.1 (IntKind.wrap .i64 (p0.2.2.2.2.1+1))).bind fun x2=>
 (bif(decide (0≤(Int.tmod p0.1 32)))then
 (bif((true&&(Nat.beq p0.2.2.1 p0.2.2.2.2.2.1.length))&&(Nat.ble (p0.2.2.2.2.2.1.length+(List.length [(T.s (.int .u32 (IntKind.wrap .u32 (Int.fdiv (Fly.qB Go.BinOp.or .u64 x1 (IntKind.wrap .u64 (x2*(2^32)))) (2^(min (Int.toNat (Int.tmod p0.1 32)) 64))))))])) 549755813888))then
 some (.inl (p0.1,p0.2.1,(List.length (p0.2.2.2.2.2.1++[(T.s (.int .u32 (IntKind.wrap .u32 (Int.fdiv (Fly.qB Go.BinOp.or .u64 x1 (IntKind.wrap .u64 (x2*(2^32)))) (2^(min (Int.toNat (Int.tmod p0.1 32)) 64))))))])),p0.2.2.2.1,(IntKind.wrap .i64 (p0.2.2.2.2.1+1)),(p0.2.2.2.2.2.1++[(T.s (.int .u32 (IntKind.wrap .u32 (Int.fdiv (Fly.qB Go.BinOp.or .u64 x1 (IntKind.wrap .u64 (x2*(2^32)))) (2^(min (Int.toNat (Int.tmod p0.1 32)) 64))))))]),()))
 else none)
 else none)
 else
  some (.inr (p0.1,p0.2.1,p0.2.2.1,p0.2.2.2.1,p0.2.2.2.2.1,p0.2.2.2.2.2.1,())))
def Shr  (fu:Nat)(a:(List Int))(sh:Int):Option (List Int) :=
 (bif(decide ((List.length a:Int)≤(IntKind.wrap .i64 (Int.tdiv (max sh 0) 32))))then
 some []
 else
  (bif(true&&(((decide (0≤(IntKind.wrap .i64 (Int.tdiv (max sh 0) 32))))&&(decide ((IntKind.wrap .i64 (Int.tdiv (max sh 0) 32))≤(List.length a:Int))))&&(decide ((List.length a:Int)≤(List.length a:Int)))))then
  (itP fu (qg5) ((max sh 0),(List.take (Int.toNat ((List.length a:Int)-(IntKind.wrap .i64 (Int.tdiv (max sh 0) 32)))) (List.drop (Int.toNat (IntKind.wrap .i64 (Int.tdiv (max sh 0) 32))) a)),0,(((List.length (List.take (Int.toNat ((List.length a:Int)-(IntKind.wrap .i64 (Int.tdiv (max sh 0) 32)))) (List.drop (Int.toNat (IntKind.wrap .i64 (Int.tdiv (max sh 0) 32))) a))):Nat):Int),(0:Int),[],())).bind fun x3=>
  (Su.sub x3.2.2.2.2.2.1 0 x3.2.2.1).bind fun x4=>
  (Su.sub x3.2.2.2.2.2.1 0 x3.2.2.1).bind fun x5=>
  (Su.sub x3.2.2.2.2.2.1 0 x3.2.2.1).bind fun x6=>
  ((jJ 1 x4).bind fun x7=>
  some (ofN (qd x7))).bind fun x8=>
  some x8
 else none))
def qg6:Stp (Int×Nat×Int×(List Int)×Int×Int×(List T)×Unit):=fun p1=>(bif(decide (p1.2.2.2.2.2.1<p1.2.2.2.2.1))then
 (idx p1.2.2.2.1 p1.2.2.2.2.2.1).bind fun x2=>
 (bif(decide (0≤(Int.tmod p1.1 32)))then
 (bif((true&&(Nat.beq p1.2.1 p1.2.2.2.2.2.2.1.length))&&(Nat.ble (p1.2.2.2.2.2.2.1.length+(List.length [(T.s (.int .u32 (IntKind.wrap .u32 (Fly.qB Go.BinOp.or .u64 p1.2.2.1 (IntKind.wrap .u64 ((IntKind.wrap .u64 x2)*(2^(min (Int.toNat (Int.tmod p1.1 32)) 64))))))))])) 549755813888))then
 some (.inl (p1.1,(List.length (p1.2.2.2.2.2.2.1++[(T.s (.int .u32 (IntKind.wrap .u32 (Fly.qB Go.BinOp.or .u64 p1.2.2.1 (IntKind.wrap .u64 ((IntKind.wrap .u64 x2)*(2^(min (Int.toNat (Int.tmod p1.1 32)) 64))))))))])),(Int.fdiv (Fly.qB Go.BinOp.or .u64 p1.2.2.1 (IntKind.wrap .u64 ((IntKind.wrap .u64 x2)*(2^(min (Int.toNat (Int.tmod p1.1 32)) 64))))) (2^32)),p1.2.2.2.1,p1.2.2.2.2.1,(IntKind.wrap .i64 (p1.2.2.2.2.2.1+1)),(p1.2.2.2.2.2.2.1++[(T.s (.int .u32 (IntKind.wrap .u32 (Fly.qB Go.BinOp.or .u64 p1.2.2.1 (IntKind.wrap .u64 ((IntKind.wrap .u64 x2)*(2^(min (Int.toNat (Int.tmod p1.1 32)) 64))))))))]),()))
 else none)
 else none)
 else
  some (.inr (p1.1,p1.2.1,p1.2.2.1,p1.2.2.2.1,p1.2.2.2.2.1,p1.2.2.2.2.2.1,p1.2.2.2.2.2.2.1,())))
def Shl  (fu:Nat)(a:(List Int))(sh:Int):Option ((List Int)×Int) :=
 (Len a).bind fun x0=>
 (bif(decide (x0=0))then
 some ([],(0:Int))
 else
  (bif(decide ((IntKind.wrap .i64 (65536-x0))<(max sh 0)))then
  some ([],(20:Int))
 else
  (bif(((true&&(decide (0≤(IntKind.wrap .i64 (Int.tdiv (max sh 0) 32)))))&&(decide ((IntKind.wrap .i64 (Int.tdiv (max sh 0) 32))≤(IntKind.wrap .i64 ((IntKind.wrap .i64 ((IntKind.wrap .i64 (Int.tdiv (max sh 0) 32))+(List.length a:Int)))+1)))))&&(decide ((IntKind.wrap .i64 ((IntKind.wrap .i64 ((IntKind.wrap .i64 (Int.tdiv (max sh 0) 32))+(List.length a:Int)))+1))≤549755813888)))then
  (itP fu (qg6) ((max sh 0),(Int.toNat (IntKind.wrap .i64 (Int.tdiv (max sh 0) 32))),(0:Int),a,(List.length a:Int),(0:Int),(List.replicate (Int.toNat (IntKind.wrap .i64 (Int.tdiv (max sh 0) 32))) (T.s (.int .u32 0))),())).bind fun x3=>
  (bif((true&&(Nat.beq x3.2.1 x3.2.2.2.2.2.2.1.length))&&(Nat.ble (x3.2.2.2.2.2.2.1.length+(List.length [(T.s (.int .u32 (IntKind.wrap .u32 x3.2.2.1)))])) 549755813888))then
  (Su.sub (x3.2.2.2.2.2.2.1++[(T.s (.int .u32 (IntKind.wrap .u32 x3.2.2.1)))]) 0 (List.length (x3.2.2.2.2.2.2.1++[(T.s (.int .u32 (IntKind.wrap .u32 x3.2.2.1)))]))).bind fun x4=>
  (Su.sub (x3.2.2.2.2.2.2.1++[(T.s (.int .u32 (IntKind.wrap .u32 x3.2.2.1)))]) 0 (List.length (x3.2.2.2.2.2.2.1++[(T.s (.int .u32 (IntKind.wrap .u32 x3.2.2.1)))]))).bind fun x5=>
  ((jJ 1 x4).bind fun x6=>
  some (ofN (qd x6))).bind fun x7=>
  some (x7,(0:Int))
 else none)
 else none)))
theorem Y5(y k:Nat):Int.fdiv (y:Int) (2^k)=((y / 2^k:Nat):Int):=by
 have h0:(0:Int)≤(2:Int)^k:=Int.pow_nonneg (by decide)
 rw[Vd _ h0];simp
theorem qei{x y r:Nat}(hr:x<2^r):x ||| y*2^r=x+y*2^r:=by
 have:=Nat.two_pow_add_eq_or_of_lt hr y
 rw[zB,Nat.or_comm,← this];omega
theorem qb8{a:List Int}(h:Wd a)(i:Nat):qd a / 4294967296^i=qd (a.drop i):=by
 by_cases hi:i≤a.length
 · have h1:=yv (a.take i) (a.drop i)
   rw[KY,zM,Kz hi]at h1;rw[h1,Vs _ _ (Nat.pow_pos (by omega)),KN (yK h i),zF]
 · rw[K6 (by omega)]
   have:=yJ a h
   have:qd a<4294967296^i:=Kk this (Ka (by omega) (by omega))
   rw[KN this];rfl
theorem ZF(a:List Int)(i:Nat):qd (a.drop i)=(nth a i).toNat+4294967296*qd (a.drop (i+1)):=by
 unfold nth;by_cases hi:i<a.length
 · rw[zG hi,zl hi];rfl
 · rw[K6 (by omega),K6 (by omega),zA (by omega)];rfl
theorem qpk{a:List Int}(h:Wd a)(i r:Nat)(hr:r≤32):qd a / 2^r / 4294967296^i % 4294967296=((nth a i).toNat+4294967296*(nth a (i+1)).toNat) / 2^r % 4294967296:=by
 rw[zS,zB,← zS,qb8 h,ZF,ZF];generalize qd (a.drop (i+1+1))=z
 have hp:=zH r;obtain⟨q,hq⟩:∃q,4294967296=2^r*q:=⟨2^(32-r),by rw[← zP,show r+(32-r)=32 by omega]⟩
 have e:(nth a i).toNat+4294967296*((nth a (i+1)).toNat+4294967296*z)=((nth a i).toNat+4294967296*(nth a (i+1)).toNat)+2^r*(4294967296*(q*z)):=by
  rw[Kx,← Ku]
  congr 1
  rw[← zt (2^r),zB (2^r),zt,← zt (2^r),← hq]
 rw[e,Vs _ _ hp,V8]
theorem Wd.drop{a:List Int}(h:Wd a)(i:Nat):Wd (a.drop i):=fun x hx=>h x (KU hx)
theorem qus(q:Nat):Wd [((q % 4294967296:Nat):Int)]:=.cons (by omega) (by omega) .nil
theorem qpl(B k x vo q:Nat)(hv:vo=x % B^k)(hq:x / B^k % B=q):vo+B^k*q=x % B^(k+1):=by
 rw[Nat.mod_pow_succ,hv,hq]
theorem Ja(l:List Int)(q:Nat):qd (l++[(q:Int)])=qd l+4294967296^l.length*q:=by
 rw[yv];show qd l+4294967296^l.length*((q:Int).toNat+4294967296*0)=_
 rw[zg,Vy,Ks]
theorem qiB(a:List Int)(ha:Wd a)(s:Nat)(hlen:a.length≤549755813887):∀(k i:Nat) (out:List Int),i+k=a.length→out.length=i→Wd out→qd out=qd a / 2^(s % 32) % 4294967296^i →
 ∃out':List Int,out'.length=a.length∧Wd out'∧qd out'=qd a / 2^(s % 32) % 4294967296^a.length ∧
  ∃n,itP n qg5 ((s:Int),a,i,(a.length:Int),(i:Int),out.map eW,())=some ((s:Int),a,a.length,(a.length:Int),(a.length:Int),out'.map eW,())
 | 0,i,out,hk,ho,hw,hv=>by
  have:i=a.length:=by omega
  subst this;exact⟨out,ho,hw,hv,js (by simp[qg5])⟩
 | k+1,i,out,hk,ho,hw,hv=>by
  obtain⟨x0,x1⟩:=ye ha i;obtain⟨y0,y1⟩:=ye ha (i+1)
  obtain⟨X,hX⟩:∃X:Nat,nth a i=(X:Int):=⟨(nth a i).toNat,by omega⟩
  obtain⟨Y,hY⟩:∃Y:Nat,nth a (i+1)=(Y:Int):=⟨(nth a (i+1)).toNat,by omega⟩
  have hr:s % 32<32:=Vf _ (by omega)
  have e1:IntKind.i64.wrap ((i:Int)+1)=((i+1:Nat):Int):=by rw[w64 (by omega) (by omega)];rfl
  have e2:Int.tmod (s:Int) 32=((s % 32:Nat):Int):=by rw[VY (by omega)];rfl
  have e3:IntKind.u64.wrap ((Y:Int)*2^32)=((Y*4294967296:Nat):Int):=by
   rw[show((Y:Int)*2^32)=((Y*4294967296:Nat):Int) by rw[Vt];rfl];exact jH (by omega) (by omega)
  have e4:qB .or .u64 (X:Int) ((Y*4294967296:Nat):Int)=((X+Y*4294967296:Nat):Int):=by
   rw[qdA (by omega) (by omega)];have:=qei (x:=X) (y:=Y) (r:=32) (by simp;omega)
   rw[show(2:Nat)^32=4294967296 from rfl]at this;rw[this]
  have e5:Int.fdiv ((X+Y*4294967296:Nat):Int) (2^(min (s % 32) 64))=(((X+Y*4294967296) / 2^(s % 32):Nat):Int):=by
   rw[Kz (Vm (Kk hr (by decide)))];exact Y5 _ _
  generalize hQ:(X+Y*4294967296) / 2^(s % 32)=Q at *
  have e6:IntKind.u32.wrap (Q:Int)=((Q % 4294967296:Nat):Int):=by rw[wrap_u32];omega
  have hword:=qpk ha i (s % 32) (by omega)
  rw[hX,hY]at hword;simp only[zg]at hword;rw[zB 4294967296 Y,hQ]at hword;have hval:qd (out++[((Q % 4294967296:Nat):Int)])=qd a / 2^(s % 32) % 4294967296^(i+1):=by
   rw[Ja,ho];exact qpl _ _ _ _ _ hv hword
  obtain⟨out',h1,h2,h3,h4⟩:=qiB a ha s hlen k (i+1) (out++[((Q % 4294967296:Nat):Int)]) (by omega) (by simp[ho]) (hw.app (qus Q)) hval
  refine⟨out',h1,h2,h3,jK ?_ h4⟩
  have d1:decide ((i:Int)<(a.length:Int))=true:=za (by omega)
  have d2:decide ((0:Int)≤((s % 32:Nat):Int))=true:=za (by omega)
  have hb1:Nat.beq i (out.map eW).length=true:=by rw[zx,ho];exact KK _
  have hb2:Nat.ble ((out.map eW).length+[eW ((Q % 4294967296:Nat):Int)].length) 549755813888=true:=by
   rw[K9,zx,ho];simp;omega
  simp only[qg5,d1,zf,e1,QB ha,hX,hY,zd,e2,d2,e3,e4,zg,e5,e6];rw[hb1,hb2];simp[ho]
def qw1(p:List Int×Int):Option (List Int):=bif Nat.ble p.1.length 549755813887 then some (ofN (qd p.1 / 2^(max p.2 0).toNat))else none
theorem qyy(p:List Int×Int)(y:List Int)(hg:(dc (cQ 1 1) (d1 (cI .i64))).good p)(h:qw1 p=some y):∃n,Shr n p.1 p.2=some y:=by
 obtain⟨a,s⟩:=p;obtain⟨⟨ha,la⟩,hs⟩:=hg;obtain⟨hm,h⟩:=qi h;have:=soi h;subst this
 have hlen:a.length≤549755813887:=zm hm
 have hs':=QG.1 hs;obtain⟨S,hS⟩:∃S:Nat,max s 0=(S:Int):=⟨(max s 0).toNat,by omega⟩
 have hw:=Wd.of ha;have e1:Int.tdiv (S:Int) 32=((S / 32:Nat):Int):=by rw[Int.tdiv_eq_ediv_of_nonneg (by omega)];rfl
 have e2:IntKind.i64.wrap ((S / 32:Nat):Int)=((S / 32:Nat):Int):=w64 (by omega) (by omega)
 show∃n,Shr n a s=some (ofN (qd a / 2^(max s 0).toNat))
 unfold Shr;rw[hS,e1,e2];simp only[zg];have split:qd a / 2^S=qd (a.drop (S / 32)) / 2^(S % 32):=by
  rw[← qb8 hw,qcN,zS,← zP]
  congr 2;omega
 by_cases hge:a.length≤S / 32
 · refine⟨0,?_⟩
   rw[za (by omega),zf,split,K6 hge];simp[qd,Jq]
 · obtain⟨out,h1,h2,h3,n,h4⟩:=qiB (a.drop (S / 32)) (hw.drop _) S (by rw[Kl];omega) (a.drop (S / 32)).length 0 [] (by omega) rfl .nil (by simp[qd,Ww])
   refine⟨n,?_⟩
   rw[zi (by omega),zj,za (by omega),za (by omega),za (by omega)];have et:a.length-S / 32=(a.drop (S / 32)).length:=by rw[Kl]
   have ed:List.take ((a.length:Int)-((S / 32:Nat):Int)).toNat (a.drop (S / 32))=a.drop (S / 32):=zL (by rw[Kl];omega)
   rw[Int.natCast_zero]at h4;simp only[Kq,zf,ed];rw[show([]:List T)=([]:List Int).map eW from rfl,h4];have hsb:sub (out.map eW) 0 (a.drop (S / 32)).length=some (out.map eW):=by
    have:=JD (out.map eW)
    rwa [zx,h1]at this
   simp only[zd,hsb,Q9];show some (ofN (qd out))=_
   have hlt:qd (a.drop (S / 32)) / 2^(S % 32)<4294967296^(a.drop (S / 32)).length:=KW (VA _ _) (yJ _ (hw.drop _))
   rw[h3,Kf hlt,split]
theorem obB{α β:Type}{o:Option α}{x:α}{f:α→Option β}{r:Option β}(h:o=some x)(k:f x=r):o.bind f=r:=by rw[h];exact k
theorem qlc(Bk Bi B r vo c x va:Nat)(h:vo+c*(Bk*Bi)=va*r*Bk) :
 (vo+Bk*Bi*((c+x*r) % B))+(c+x*r) / B*(Bk*(Bi*B))=(va+Bi*x)*r*Bk:=by
 have:=Nat.mod_add_div (c+x*r) B
 generalize (c+x*r) % B=m at *
 generalize (c+x*r) / B=d at *
 grind
theorem qiC(a:List Int)(ha:Wd a)(s:Nat)(hlen:s / 32+a.length≤549755813887):∀(m i:Nat) (out:List Int) (c:Nat),i+m=a.length→out.length=s / 32+i→Wd out→c<2^(s % 32) →
 qd out+c*(4294967296^(s / 32)*4294967296^i)=qd (a.take i)*2^(s % 32)*4294967296^(s / 32) →
 ∃(out':List Int) (c':Nat),out'.length=s / 32+a.length∧Wd out'∧c'<2^(s % 32)∧qd out'+c'*(4294967296^(s / 32)*4294967296^a.length)=qd a*2^(s % 32)*4294967296^(s / 32) ∧
  ∃n,itP n qg6 ((s:Int),s / 32+i,(c:Int),a,(a.length:Int),(i:Int),out.map eW,())=some ((s:Int),s / 32+a.length,(c':Int),a,(a.length:Int),(a.length:Int),out'.map eW,())
 | 0,i,out,c,hk,ho,hw,hc,hv=>by
  have:i=a.length:=by omega
  subst this;rw[zL (zw _)]at hv;exact⟨out,c,ho,hw,hc,hv,js (by simp[qg6])⟩
 | m+1,i,out,c,hk,ho,hw,hc,hv=>by
  have hia:i<a.length:=by omega
  obtain⟨x0,x1⟩:=ye ha i;obtain⟨X,hX⟩:∃X:Nat,nth a i=(X:Int):=⟨(nth a i).toNat,by omega⟩
  have hXl:X<4294967296:=by omega
  have hx:idx a (i:Int)=some (X:Int):=by rw[yH,zl hia,← hX];simp[nth,zl hia]
  have hr:s % 32<32:=Vf _ (by omega)
  have hp31:2^(s % 32)≤2147483648:=by
   have:=Ka (n:=2) (by omega) (show s % 32≤31 by omega);simpa using this
  have hvs:=qlc (4294967296^(s / 32)) (4294967296^i) 4294967296 (2^(s % 32)) (qd out) c X (qd (a.take i)) hv
  have hc2:(c+X*2^(s % 32)) / 4294967296<2^(s % 32):=by
   rw[Kw (by omega)];have:=zu (2^(s % 32)) (show X≤4294967295 by omega)
   omega
  have e2:Int.tmod (s:Int) 32=((s % 32:Nat):Int):=by rw[VY (by omega)];rfl
  have e3:IntKind.u64.wrap (IntKind.u64.wrap (X:Int)*2^min (s % 32) 64)=((X*2^(s % 32):Nat):Int):=by
   have ex:IntKind.u64.wrap (X:Int)=(X:Int):=jH (by omega) (by omega)
   rw[Kz (Vm (Kk hr (by decide))),ex];have h1:X*2^(s % 32)≤4294967295*2147483648:=VQ (by omega) hp31
   rw[show((X:Int)*2^(s % 32))=((X*2^(s % 32):Nat):Int) by rw[Vt,Int.natCast_pow];rfl];exact jH (by omega) (by omega)
  have e4:qB .or .u64 (c:Int) ((X*2^(s % 32):Nat):Int)=((c+X*2^(s % 32):Nat):Int):=by
   have h1:X*2^(s % 32)≤4294967295*2147483648:=VQ (by omega) hp31
   rw[qdA (by omega) (by omega),qei hc]
  generalize hT:c+X*2^(s % 32)=t at *
  have e5:IntKind.u32.wrap (t:Int)=((t % 4294967296:Nat):Int):=by rw[wrap_u32];omega
  have e6:Int.fdiv (t:Int) (2^32)=((t / 4294967296:Nat):Int):=by
   have:=Y5 t 32;rwa [show(2:Nat)^32=4294967296 from rfl]at this
  have e9:IntKind.i64.wrap ((i:Int)+1)=((i+1:Nat):Int):=by rw[w64 (by omega) (by omega)];rfl
  have hvt:qd (a.take (i+1))=qd (a.take i)+4294967296^i*X:=by rw[jG,hX,zg]
  obtain⟨out',c',h1,h2,h3,h4,h5⟩:=qiC a ha s hlen m (i+1) (out++[((t % 4294967296:Nat):Int)]) (t / 4294967296) (by omega) (by simp[ho];omega) (hw.app (qus t)) hc2 (by
   rw[Ja,ho,hvt,← hvs,zP,zU])
  refine⟨out',c',h1,h2,h3,h4,jK ?_ h5⟩
  have d1:decide ((i:Int)<(a.length:Int))=true:=za (by omega)
  have d2:decide ((0:Int)≤((s % 32:Nat):Int))=true:=za (by omega)
  have hb1:Nat.beq (s / 32+i) (out.map eW).length=true:=by rw[zx,ho];exact KK _
  have hb2:Nat.ble ((out.map eW).length+[eW ((t % 4294967296:Nat):Int)].length) 549755813888=true:=by
   rw[K9,zx,ho];simp;omega
  simp only[qg6,d1,zf,hx,zd,e2,d2,zg,e3,e4,e5,e6,e9];rw[hb1,hb2];simp[ho];omega
def qld(v s:Nat):List Int×Int:=if v=0 then([],0)else if 65536<qj v+s then([],20)else(ofN (v*2^s),0)
def shlL:{f:Nat→Nat→List Int×Int // ∀v s,f v s=qld v s}:=Classical.choice ⟨⟨_,fun _ _=>rfl⟩⟩
def qyz(v s:Nat):List Int×Int:=shlL.1 v s
theorem qle(v s:Nat):qyz v s=qld v s:=shlL.2 v s
def okSL:{f:List Int→Bool // ∀a,f a=Nat.ble a.length 1000000}:=Classical.choice ⟨⟨_,fun _=>rfl⟩⟩
def okS(a:List Int):Bool:=okSL.1 a
theorem qj3(a:List Int):okS a=Nat.ble a.length 1000000:=okSL.2 a
def qiD(p:List Int×Int):Option (List Int×Int):=bif okS p.1 then
 some (qyz (qd p.1) (max p.2 0).toNat)else none
theorem qyA(p:List Int×Int)(y:List Int×Int)(hg:(dc (cQ 1 1) (d1 (cI .i64))).good p)(h:qiD p=some y):∃n,Shl n p.1 p.2=some y:=by
 obtain⟨a,s⟩:=p;obtain⟨⟨ha,la⟩,hs⟩:=hg;obtain⟨hm,h⟩:=qi h;have:=soi h;subst this
 have hm:okS a=true:=hm
 rw[qj3]at hm;have hlen:a.length≤1000000:=zm hm
 have hs':=QG.1 hs;obtain⟨S,hS⟩:∃S:Nat,max s 0=(S:Int):=⟨(max s 0).toNat,by omega⟩
 have hw:=Wd.of ha;have hbl:qj (qd a)≤32*a.length:=j9.2 (by rw[← qcN];exact yJ a hw)
 have e0:Len a=some (qj (qd a):Int):=qg4 a (by omega)
 show∃n,Shl n a s=some (qyz (qd a) (max s 0).toNat)
 rw[qle];unfold qld;unfold Shl;rw[hS,e0,zg];simp only[zd];by_cases hz:qd a=0
 · refine⟨0,?_⟩
   rw[zr hz,hz,show qj 0=0 from rfl];rfl
 · have hb0:qj (qd a)≠0:=fun e=>by
    have:=j9.1 (Nat.le_of_eq e)
    simp at this;omega
   have dz:decide (((qj (qd a):Nat):Int)=0)=false:=zi (by omega)
   have ew:IntKind.i64.wrap (65536-((qj (qd a):Nat):Int))=65536-((qj (qd a):Nat):Int):=w64 (by omega) (by omega)
   rw[zp hz];by_cases hl:65536<qj (qd a)+S
   · refine⟨0,?_⟩
     rw[zr hl,dz,zj,ew,za (by omega),zf]
   · have hSl:S≤65536:=by omega
     have e1:Int.tdiv (S:Int) 32=((S / 32:Nat):Int):=by rw[Int.tdiv_eq_ediv_of_nonneg (by omega)];rfl
     have e2:IntKind.i64.wrap ((S / 32:Nat):Int)=((S / 32:Nat):Int):=w64 (by omega) (by omega)
     have e3:IntKind.i64.wrap (((S / 32:Nat):Int)+(a.length:Int))=((S / 32+a.length:Nat):Int):=by rw[w64 (by omega) (by omega)];rfl
     have e4:IntKind.i64.wrap (((S / 32+a.length:Nat):Int)+1)=((S / 32+a.length+1:Nat):Int):=by rw[w64 (by omega) (by omega)];rfl
     obtain⟨out,c,h1,h2,h3,h4,n,h5⟩:=qiC a hw S (by omega) a.length 0 (List.replicate (S / 32) 0) 0 (by omega) (by simp) (fun x hx=>by
      have:=(Va.1 hx).2;subst this;exact⟨Wv _,by decide⟩) (zH _) (by simp[Yo,qd])
     refine⟨n,?_⟩
     rw[zp hl,dz,zj,ew,zi (by omega),zj];rw[e1,e2,e3,e4,za (show(0:Int)≤((S / 32:Nat):Int) by omega),za (show((S / 32:Nat):Int)≤((S / 32+a.length+1:Nat):Int) by omega),za (show((S / 32+a.length+1:Nat):Int)≤549755813888 by omega)];simp only[Kq,zf,zg];rw[VM,Ks]at h5;refine obB h5 ?_
     have hcl:c<4294967296:=by
      have:=Ka (n:=2) (by omega) (show S % 32≤31 by omega);simp at this;omega
     have e5:IntKind.u32.wrap (c:Int)=(c:Int):=qj1 (by omega) (by omega)
     have hb1:Nat.beq (S / 32+a.length) (out.map eW).length=true:=by rw[zx,h1];exact KK _
     have hb2:Nat.ble ((out.map eW).length+[eW (c:Int)].length) 549755813888=true:=by
      rw[K9,zx,h1];simp;omega
     have em:out.map eW++[T.s (.int .u32 (c:Int))]=(out++[(c:Int)]).map eW:=by rw[Kg];rfl
     simp only[e5];rw[hb1,hb2,em,JD];simp only[Kq,zf,zd,Q9];show some (ofN (qd (out++[(c:Int)])),(0:Int))=_
     rw[Ja,h1,zB _ c,zP,h4,show 2^S=2^(S % 32)*4294967296^(S / 32) by rw[qcN,← zP];congr 1;omega,zt]
end
end Su
end
section
namespace Su
open Go Fly
noncomputable section
def Yp:Stp ((List Int)×Int×Nat×Int×Int×(List T)×Unit):=fun p0=>(bif(decide (p0.2.2.2.2.1<p0.2.2.2.1))then
 (At p0.1 p0.2.2.2.2.1).bind fun x1=>
 (bif(decide (0≤p0.2.1))then
 (bif(decide (0<p0.2.2.2.2.1))then
 (At p0.1 (IntKind.wrap .i64 (p0.2.2.2.2.1-1))).bind fun x2=>
 (bif(decide (0≤p0.2.1))then
 (bif((true&&(decide (0≤p0.2.2.2.2.1)))&&(decide (p0.2.2.2.2.1<(p0.2.2.1:Int))))then
 ((p0.2.2.2.2.2.1)[(0+p0.2.2.2.2.1.toNat)]?).bind fun x3=>
 (asI .u32 (.t x3)).bind fun x4=>
 some (.inl (p0.1,p0.2.1,p0.2.2.1,p0.2.2.2.1,(IntKind.wrap .i64 (p0.2.2.2.2.1+1)),(List.set p0.2.2.2.2.2.1 (0+p0.2.2.2.2.1.toNat) (T.s (.int .u32 (IntKind.wrap .u32 (Fly.qB Go.BinOp.or .u64 (IntKind.wrap .u64 (x1*(2^(min p0.2.1.toNat 64)))) (Int.fdiv (IntKind.wrap .u64 (x2*(2^(min p0.2.1.toNat 64)))) (2^32))))))),()))
 else none)
 else none)
 else
  (bif((true&&(decide (0≤p0.2.2.2.2.1)))&&(decide (p0.2.2.2.2.1<(p0.2.2.1:Int))))then
  ((p0.2.2.2.2.2.1)[(0+p0.2.2.2.2.1.toNat)]?).bind fun x5=>
  (asI .u32 (.t x5)).bind fun x6=>
  some (.inl (p0.1,p0.2.1,p0.2.2.1,p0.2.2.2.1,(IntKind.wrap .i64 (p0.2.2.2.2.1+1)),(List.set p0.2.2.2.2.2.1 (0+p0.2.2.2.2.1.toNat) (T.s (.int .u32 (IntKind.wrap .u32 (IntKind.wrap .u64 (x1*(2^(min p0.2.1.toNat 64)))))))),()))
 else none))
 else none)
 else
  some (.inr (p0.1,p0.2.1,p0.2.2.1,p0.2.2.2.1,p0.2.2.2.2.1,p0.2.2.2.2.2.1,())))
theorem subw{X Y r:Nat}(hX:X<4294967296)(hY:Y<4294967296)(hr:r≤1):∃z r':Nat,z<4294967296∧r'≤1∧z+Y+r=X+r'*4294967296 ∧
 IntKind.u32.wrap (IntKind.u64.wrap (IntKind.u64.wrap ((X:Int)-(Y:Int))-(r:Int)))=(z:Int)∧Int.fdiv (IntKind.u64.wrap (IntKind.u64.wrap ((X:Int)-(Y:Int))-(r:Int))) (2^63)=(r':Int):=by
 rw[wrap_u32,wrap_u64,wrap_u64,Vd _ (by decide),show(2:Int)^63=9223372036854775808 from rfl];by_cases h:Y+r≤X
 · exact⟨X-(Y+r),0,by omega,by omega,by omega,by omega,by omega⟩
 · exact⟨X+4294967296-(Y+r),1,by omega,by omega,by omega,by omega,by omega⟩
theorem qmQ(b:List Int)(h:Wd b)(n:Nat)(hn:qd b<4294967296^n):qd (b.take n)=qd b:=by
 by_cases hl:n≤b.length
 · have h1:=yv (b.take n) (b.drop n)
   rw[KY,zM,Kz hl,← qb8 h,KN hn,Vy,Ks]at h1;exact h1.symm
 · rw[zL (by omega)]
theorem qut(a b:Nat):decide (jy a b<0)=decide (a<b):=by
 unfold jy;by_cases h:a<b
 · rw[zr h,za h];rfl
 · rw[zp h,zi h]
   by_cases h2:a=b
   · rw[zr h2];rfl
   · rw[zp h2];rfl
def qiE:Nat→Nat→List Int
 | 0,_=>[]
 | k+1,v=>((v % 4294967296:Nat):Int)::qiE k (v / 4294967296)
theorem qiF:∀(k v:Nat),(qiE k v).length=k
 | 0,_=>rfl
 | k+1,v=>by rw[qiE,zy,qiF k]
theorem qlf:∀(k v:Nat),Wd (qiE k v)
 | 0,_=>.nil
 | k+1,v=>.cons (by omega) (by omega) (qlf k _)
theorem qpm(k v:Nat):qd (qiE k v)=v % 4294967296^k:=by
 induction k generalizing v with
 | zero=>simp[qiE,qd,Ww]
 | succ k ih=>
  have h1:=Nat.mod_mul (x:=v) (a:=4294967296) (b:=4294967296^k)
  rw[zU,zB (4294967296^k),h1];simp only[qiE,qd,ih];rw[zg]
theorem qpn{c x r:Nat}(hr:r≤32)(hc:c<2^r):(c+x*2^r) / 4294967296=x*2^r / 4294967296:=by
 have e:4294967296=2^r*2^(32-r):=by rw[← zP,show r+(32-r)=32 by omega]
 rw[e,← zS,← zS,Nat.add_mul_div_right _ _ (zH r),KN hc,Nat.mul_div_cancel _ (zH r),zF]
theorem quu(o:List Int)(k:Nat)(y:Int):((o++List.replicate (k+1) 0).map eW).set o.length (eW y)=((o++[y])++List.replicate k 0).map eW:=by
 rw[Kg,List.set_append,zp (by simp),zx,Vz,VH,K5,Wn,Kg,Kg,zZ];rfl
theorem qiG(a:List Int)(ha:Wd a)(r:Nat)(hr:r<32)(size:Nat)(hN:size≤549755813887):∀(k i:Nat) (o:List Int) (c:Nat),i+k=size→o.length=i→Wd o→c<2^r →
 (i=0→c=0)→(∀j,i=j+1→c=(nth a j).toNat*2^r / 4294967296)→qd o+c*4294967296^i=qd (a.take i)*2^r →
 ∃(o':List Int) (c':Nat),o'.length=size∧Wd o'∧qd o'+c'*4294967296^size=qd (a.take size)*2^r ∧
  ∃n,itP n Yp (a,(r:Int),size,(size:Int),(i:Int),(o++List.replicate k 0).map eW,())=some (a,(r:Int),size,(size:Int),(size:Int),o'.map eW,())
 | 0,i,o,c,hk,ho,hw,hc,_,_,hv=>by
  have:i=size:=by omega
  subst this;refine⟨o,c,ho,hw,hv,js ?_⟩
  rw[List.replicate_zero,KV];simp[Yp]
 | k+1,i,o,c,hk,ho,hw,hc,hc0,hcs,hv=>by
  obtain⟨x0,x1⟩:=ye ha i;obtain⟨X,hX⟩:∃X:Nat,nth a i=(X:Int):=⟨(nth a i).toNat,by omega⟩
  have hXl:X<4294967296:=by omega
  have hp31:2^r≤2147483648:=by
   have:=Ka (n:=2) (by omega) (show r≤31 by omega);simpa using this
  have hxl:X*2^r≤4294967295*2147483648:=VQ (by omega) hp31
  have hvs:=qlc 1 (4294967296^i) 4294967296 (2^r) (qd o) c X (qd (a.take i)) (by rw[KC,K8];exact hv)
  rw[qpn (by omega) hc,KC,KC,K8]at hvs;have hmin:min r 64=r:=by omega
  have em:∀Z:Nat,Z<4294967296→IntKind.u64.wrap ((Z:Int)*2^min r 64)=((Z*2^r:Nat):Int):=fun Z hZ=>by
   have h1:Z*2^r≤4294967295*2147483648:=VQ (by omega) hp31
   rw[hmin,show((Z:Int)*2^r)=((Z*2^r:Nat):Int) by rw[Vt,Int.natCast_pow];rfl];exact jH (by omega) (by omega)
  have hvt:qd (a.take (i+1))=qd (a.take i)+4294967296^i*X:=by rw[jG,hX,zg]
  have e9:IntKind.i64.wrap ((i:Int)+1)=((i+1:Nat):Int):=by rw[w64 (by omega) (by omega)];rfl
  have hc2:X*2^r / 4294967296<2^r:=by
   rw[Kw (by omega)];have:=zu (2^r) (show X≤4294967295 by omega)
   have:=zH r
   omega
  obtain⟨o',c',h1,h2,h4,h5⟩:=qiG a ha r hr size hN k (i+1) (o++[(((c+X*2^r) % 4294967296:Nat):Int)]) (X*2^r / 4294967296) (by omega) (by simp[ho]) (hw.app (qus _)) hc2 (fun h=>by omega)
   (fun j hj=>by(have:j=i:=(by omega));subst this;rw[hX,zg]) (by rw[Ja,ho,hvt,← hvs,zU])
  refine⟨o',c',h1,h2,h4,jK ?_ h5⟩
  have d1:decide ((i:Int)<(size:Int))=true:=za (by omega)
  have d2:decide ((0:Int)≤(r:Int))=true:=za (by omega)
  have d3:decide ((0:Int)≤(i:Int))=true:=za (by omega)
  have hget:((o++List.replicate (k+1) 0).map eW)[i]?=some (eW 0):=by
   rw[Kg,zO (by simp[ho]),zx,ho,Vz];rfl
  have hset:=quu o k (((c+X*2^r) % 4294967296:Nat):Int)
  rw[ho]at hset;have ewrap:∀t:Nat,IntKind.u32.wrap (t:Int)=((t % 4294967296:Nat):Int):=fun t=>by rw[wrap_u32];omega
  simp only[Yp,d1,zf,QB ha,hX,zd,d2,d3,zg,em X hXl,Kq,z7,zF,hget,Ql,e9];by_cases hi0:i=0
  · subst hi0
    obtain rfl:c=0:=hc0 rfl
    have d4:decide ((0:Int)<((0:Nat):Int))=false:=rfl
    rw[d4,zj,ewrap];simp only[zF]at hset ⊢;rw[show T.s (.int .u32 ((X*2^r % 4294967296:Nat):Int))=eW ((X*2^r % 4294967296:Nat):Int) from rfl,hset]
  · obtain⟨j,rfl⟩:∃j,i=j+1:=⟨i-1,by omega⟩
    have hcj:=hcs j rfl;obtain⟨y0,y1⟩:=ye ha j;obtain⟨Y,hY⟩:∃Y:Nat,nth a j=(Y:Int):=⟨(nth a j).toNat,by omega⟩
    rw[hY,zg]at hcj;have d4:decide ((0:Int)<((j+1:Nat):Int))=true:=za (by omega)
    have e5:IntKind.i64.wrap (((j+1:Nat):Int)-1)=(j:Int):=by rw[w64 (by omega) (by omega)];omega
    have e6:Int.fdiv ((Y*2^r:Nat):Int) (2^32)=(c:Int):=by
     have:=Y5 (Y*2^r) 32;rw[show(2:Nat)^32=4294967296 from rfl]at this;rw[this,hcj]
    have e7:qB .or .u64 ((X*2^r:Nat):Int) (c:Int)=((c+X*2^r:Nat):Int):=by
     rw[qdA (by omega) (by omega),Nat.or_comm,qei hc]
    rw[d4,zf,e5,QB ha,hY,zd,em Y (by omega),e6,e7,ewrap];rw[show T.s (.int .u32 (((c+X*2^r) % 4294967296:Nat):Int))=eW (((c+X*2^r) % 4294967296:Nat):Int) from rfl,hset]
end
end Su
end
section
namespace Su
open Go Fly
def qmR(l:List Int):Bool:=Nat.ble l.length 549755813888
def qdk(l:List Int):Option (List Int):=bif qmR l then some l else none
def qbe(p:List Int×Int):Option (List Int×List Int):=bif decide (0<p.2)&&qmR p.1 then some (ofN (qd p.1 / p.2.toNat),ofN (qd p.1 % p.2.toNat))else none
end Su
end
section
namespace Su
theorem qpo{B P f d2 top n2 D N Dr Nr:Nat}(hD:D=(f*B+d2)*P+Dr)(hN:N=(top*B+n2)*P+Nr)(hNr:Nr<P)(hn2:n2<B)(hf:0<f):N<(top / f+1)*D:=by
 have h1:top+1≤(top / f+1)*f:=by
  have:=KG top f
  have h2:=Vf top hf;rw[zR,KC,zB];omega
 have h2:top*B+n2+1≤(top / f+1)*(f*B+d2):=by
  have h3:=zu B h1;rw[zR,KC]at h3;have h4:(top / f+1)*(f*B+d2)=(top / f+1)*f*B+(top / f+1)*d2:=by rw[Kx,zt]
  rw[h4];omega
 have h3:N<(top*B+n2+1)*P:=by rw[hN,zR (top*B+n2) 1 P,KC];omega
 have h4:(top*B+n2+1)*P≤(top / f+1)*(f*B+d2)*P:=zu P h2
 have h5:(top / f+1)*(f*B+d2)*P≤(top / f+1)*D:=by
  rw[zt,hD];exact zQ _ (Nat.le_add_right _ _)
 omega
theorem quv{B P f d2 top n2 D N Dr Nr g left:Nat}(hD:D=(f*B+d2)*P+Dr)(hN:N=(top*B+n2)*P+Nr)(hNr:Nr<P)(hl:g*f+left=top)
 (ht:left*B+n2<g*d2):N<g*D:=by
 have h2:top*B+n2+1≤g*(f*B+d2):=by
  have h4:g*(f*B+d2)=g*f*B+g*d2:=by rw[Kx,zt]
  rw[h4,← hl,zR];omega
 have h3:N<(top*B+n2+1)*P:=by rw[hN,zR (top*B+n2) 1 P,KC];omega
 have h4:(top*B+n2+1)*P≤g*(f*B+d2)*P:=zu P h2
 have h5:g*(f*B+d2)*P≤g*D:=by
  rw[zt,hD];exact zQ _ (Nat.le_add_right _ _)
 omega
theorem qyB{B P f d2 top n2 D N Dr Nr g left:Nat}(hD:D=(f*B+d2)*P+Dr)(hN:N=(top*B+n2)*P+Nr)(hDr:Dr<P)(hl:g*f+left=top)(hf:0<f)(hB:0<B)(hg:g≤B)
 (ht:g*d2≤left*B+n2):g*D<N+D:=by
 have h2:g*(f*B+d2)≤top*B+n2:=by
  have h4:g*(f*B+d2)=g*f*B+g*d2:=by rw[Kx,zt]
  rw[h4,← hl,zR];omega
 have h3:g*(f*B+d2)*P≤(top*B+n2)*P:=zu P h2
 have h4:g*D=g*(f*B+d2)*P+g*Dr:=by rw[hD,Kx,zt]
 have h5:g*Dr≤B*Dr:=zu _ hg
 have h6:B*Dr+B≤B*P:=by
  have:=zQ B (show Dr+1≤P by omega)
  rwa [Kx,K8]at this
 have h7:B*P≤D:=by
  have:1*(B*P)≤f*(B*P):=zu _ hf
  rw[hD,zR,zt];omega
 omega
theorem qpp{B P f d2 top n2 D N Dr Nr:Nat}(hD:D=(B*f+d2)*P+Dr)(hN:N=(B*top+n2)*P+Nr)(hNr:Nr<P)(hn2:n2<B)(hf:0<f):N<(top / f+1)*D :=
 qpo (B:=B) (by rw[zB f B];exact hD) (by rw[zB top B];exact hN) hNr hn2 hf
theorem quw{B P f d2 top n2 D N Dr Nr g left:Nat}(hD:D=(B*f+d2)*P+Dr)(hN:N=(B*top+n2)*P+Nr)(hNr:Nr<P)(hl:g*f+left=top)(ht:B*left+n2<g*d2):N<g*D :=
 quv (B:=B) (by rw[zB f B];exact hD) (by rw[zB top B];exact hN) hNr hl (by rw[zB left B];exact ht)
theorem qyC{B P f d2 top n2 D N Dr Nr g left:Nat}(hD:D=(B*f+d2)*P+Dr)(hN:N=(B*top+n2)*P+Nr)(hDr:Dr<P)(hl:g*f+left=top)(hf:0<f)(hB:0<B)(hg:g≤B)(ht:g*d2≤B*left+n2):g*D<N+D :=
 qyB (B:=B) (by rw[zB f B];exact hD) (by rw[zB top B];exact hN) hDr hl hf hB hg (by rw[zB left B];exact ht)
theorem qux{D N g:Nat}(h1:N<(g+1)*D)(h2:g*D<N+D):(g*D≤N→N / D=g∧N % D=N-g*D)∧(N<g*D→N / D+1=g∧N % D+g*D=N+D):=by
 have hD:0<D:=by
  cases D with
  | zero=>omega
  | succ=>omega
 refine⟨fun h=>?_,fun h=>?_⟩
 · have hq:N / D=g:=by
    refine Nat.le_antisymm (Nat.lt_succ_iff.1 ((Kw hD).2 h1)) ((V7 hD).2 h)
   have:=KG N D
   rw[hq,zB]at this;exact⟨hq,by omega⟩
 · cases g with
   | zero=>omega
   | succ g=>
    rw[zR,KC]at h h2;have hq:N / D=g:=by
     refine Nat.le_antisymm (Nat.lt_succ_iff.1 ((Kw hD).2 (by rw[Nat.succ_mul];exact h))) ((V7 hD).2 (by omega))
    have:=KG N D
    rw[hq,zB]at this;rw[zR,KC];exact⟨by rw[hq],by omega⟩
end Su
end
