/-
  What functions of the program compute, in plain Lean, and that the evaluator finds it.
-/
import Derived.Test.YtldhknmacepeiaaGreatDoorSuXl
import Derived.Test.YtldhknmacepeiaaGreatDoorRb
import Derived.Test.YtldhknmacepeiaaGreatDoorFlyM
set_option linter.unusedVariables false
set_option linter.unusedSimpArgs false
set_option maxRecDepth 10000
section
namespace Su
open Go Fly
noncomputable section
def qtB  (a:(List Int)):Option (Int×Bool) :=
 (Len a).bind fun x0=>
 (bif(decide (64<x0))then
 some ((0:Int),false)
 else
  (At a 0).bind fun x1=>
  (At a 1).bind fun x2=>
  some ((Fly.qR Go.BinOp.or .u64 x1 (IntKind.wrap .u64 (x2*(2^32)))),true))
theorem qzG:((List.range 256).all fun i=>decide ((JG[i]?).map UInt8.toNat=some (qf i)))=true:=by decide +kernel
theorem qbj{i:Nat}(h:i<256):∃b:UInt8,JG[i]?=some b∧b.toNat=qf i:=by
 have:=Ke.1 qzG i (Wv.2 h)
 have h2:=Ko this;cases hb:JG[i]? with
 | none=>rw[hb]at h2;cases h2
 | some b=>rw[hb]at h2;exact⟨b,rfl,by simpa using h2⟩
theorem qfu(x:Nat)(h:x<4294967296):qic (x:Int)=some (qf x:Int):=by
 have b32:qf x≤32:=jM.2 (by simpa using h)
 have fd:∀(y k:Nat),Int.fdiv (y:Int) (2^k)=((y / 2^k:Nat):Int):=fun y k=>by
  rw[Vi _ (by have:=zQ k;exact_mod_cast WJ _)];simp
 have w8:∀(y:Nat),y<256→IntKind.u8.wrap (y:Int)=y:=fun y hy=>wu8 (by omega) (by omega)
 have wn:∀(y:Nat),y<256→IntKind.i64.wrap (y:Int)=y:=fun y hy=>w64 (by omega) (by omega)
 have ws:∀(y z:Nat),y<256→z<256→IntKind.i64.wrap ((y:Int)+(z:Int))=((y+z:Nat):Int):=fun y z hy hz=>by rw[w64 (by omega) (by omega)];rfl
 have bl:∀y,y<256→qf y≤8:=fun y hy=>jM.2 (by simpa using hy)
 unfold qic;by_cases h1:65536≤x
 · have d1:decide ((65536:Int)≤(x:Int))=true:=zb (by omega)
   rw[d1,zg,fd];have hb:=Yj (n:=x) (k:=16) h1
   by_cases h2:256≤x / 2^16
   · have d2:decide ((256:Int)≤((x / 2^16:Nat):Int))=true:=zb (by omega)
     have hlt:x / 2^16 / 2^8<256:=by omega
     obtain⟨b,hb1,hb2⟩:=qbj hlt;have hb':=Yj (n:=x / 2^16) (k:=8) h2
     have:=bl _ hlt
     rw[d2,zg,fd,w8 _ hlt,zb (by omega),zg,zd,hb1,zh,hb2];rw[wn (qf _) (by omega),show((16:Int)+8)=((24:Nat):Int) from rfl,wn 24 (by omega),ws _ _ (by omega) (by omega)]
     congr 2;omega
   · have d2:decide ((256:Int)≤((x / 2^16:Nat):Int))=false:=zk (by omega)
     have hlt:x / 2^16<256:=by omega
     obtain⟨b,hb1,hb2⟩:=qbj hlt;have:=bl _ hlt
     rw[d2,zm,w8 _ hlt,zb (by omega),zg,zd,hb1,zh,hb2];rw[wn (qf _) (by omega),show(16:Int)=((16:Nat):Int) from rfl,ws _ _ (by omega) (by omega)]
     congr 2;omega
 · have d1:decide ((65536:Int)≤(x:Int))=false:=zk (by omega)
   rw[d1,zm];by_cases h2:256≤x
   · have d2:decide ((256:Int)≤(x:Int))=true:=zb (by omega)
     have hlt:x / 2^8<256:=by omega
     obtain⟨b,hb1,hb2⟩:=qbj hlt;have hb':=Yj (n:=x) (k:=8) h2
     have:=bl _ hlt
     rw[d2,zg,fd,w8 _ hlt,zb (by omega),zg,zd,hb1,zh,hb2];rw[wn (qf _) (by omega),show((0:Int)+8)=((8:Nat):Int) from rfl,wn 8 (by omega),ws _ _ (by omega) (by omega)]
     congr 2;omega
   · have d2:decide ((256:Int)≤(x:Int))=false:=zk (by omega)
     have hlt:x<256:=by omega
     obtain⟨b,hb1,hb2⟩:=qbj hlt;have:=bl _ hlt
     rw[d2,zm,w8 _ hlt,zb (by omega),zg,zd,hb1,zh,hb2];rw[wn (qf _) (by omega),Int.zero_add,wn _ (by omega)]
theorem qd9(v:Nat):v≠0→∃(l:List Int) (x:Nat),ofN v=l++[(x:Int)]∧x≠0∧x<4294967296∧Wd l∧v=qa l+4294967296^l.length*x:=by
 induction v using Nat.strongRecOn with
 | _ v ih=>
  intro hv;rw[qbi hv];by_cases hB:v<4294967296
  · refine⟨[],v,?_,hv,hB,.nil,by simp[qa]⟩
    rw[KP hB,Vt hB,JF];rfl
  · obtain⟨l,x,h1,h2,h3,h4,h5⟩:=ih (v / 4294967296) (by omega) (by omega)
    refine⟨((v % 4294967296:Nat):Int)::l,x,by rw[h1];rfl,h2,h3,.cons (by omega) (by omega) h4,?_⟩
    simp only[qa,zu,z6,zd];have e:4294967296^l.length*4294967296*x=4294967296*(4294967296^l.length*x):=by rw[zF (4294967296^l.length) 4294967296,zx]
    rw[e];have:=Vb v 4294967296
    rw[h5]at this;rw[KF]at this;omega
theorem qbk(k:Nat):(4294967296:Nat)^k=2^(32*k):=by rw[Nat.pow_mul]
theorem qfv{l:List Int}{x:Nat}(hw:Wd l)(hx:x≠0):qf (qa l+4294967296^l.length*x)=32*l.length+qf x:=by
 have h1:=yN l hw;have hp:0<4294967296^l.length:=Nat.pow_pos (by omega)
 have h2:2^(32*l.length)≤qa l+4294967296^l.length*x:=by
  rw[← qbk];have:4294967296^l.length*1≤4294967296^l.length*x:=zU _ (by omega)
  omega
 rw[Yj h2,← qbk,VW _ _ hp,Vt h1,zG]
theorem qc8(a:List Int)(h:qf (qa a)<4611686018427387904):Len a=some (qf (qa a):Int):=by
 unfold Len;generalize qa a=v at h ⊢
 by_cases hv:v=0
 · subst hv;rfl
 · obtain⟨l,x,h1,h2,h3,h4,h5⟩:=qd9 v hv
   have hb:qf v=32*l.length+qf x:=by rw[h5];exact qfv h4 h2
   have hbx:qf x≤32:=jM.2 (by simpa using h3)
   have hl:(ofN v).length=l.length+1:=by rw[h1];simp
   have d1:decide (((ofN v).length:Int)=0)=false:=zk (by omega)
   have e1:IntKind.i64.wrap (((ofN v).length:Int)-1)=(l.length:Int):=by rw[hl,w64 (by omega) (by omega)];omega
   have e2:IntKind.i64.wrap (32*(l.length:Int))=32*(l.length:Int):=w64 (by omega) (by omega)
   have hi:idx (ofN v) (l.length:Int)=some (x:Int):=by rw[QX,h1];simp
   rw[d1,zm,e1,hi,zh,qfu x h3,zh,e2,w64 (by omega) (by omega),hb];simp
end
end Su
end
section
namespace Su
open Go Fly
noncomputable section
def qgL:Stp (Int×(List Int)×Nat×Int×Int×(List T)×Unit):=fun p0=>(bif(decide (p0.2.2.2.2.1<p0.2.2.2.1))then
 (At p0.2.1 p0.2.2.2.2.1).bind fun x1=>
 (At p0.2.1 (IntKind.wrap .i64 (p0.2.2.2.2.1+1))).bind fun x2=>
 (bif(decide (0≤(Int.tmod p0.1 32)))then
 (bif((true&&(Nat.beq p0.2.2.1 p0.2.2.2.2.2.1.length))&&(Nat.ble (p0.2.2.2.2.2.1.length+(List.length [(T.s (.int .u32 (IntKind.wrap .u32 (Int.fdiv (Fly.qR Go.BinOp.or .u64 x1 (IntKind.wrap .u64 (x2*(2^32)))) (2^(min (Int.toNat (Int.tmod p0.1 32)) 64))))))])) 549755813888))then
 some (.inl (p0.1,p0.2.1,(List.length (p0.2.2.2.2.2.1++[(T.s (.int .u32 (IntKind.wrap .u32 (Int.fdiv (Fly.qR Go.BinOp.or .u64 x1 (IntKind.wrap .u64 (x2*(2^32)))) (2^(min (Int.toNat (Int.tmod p0.1 32)) 64))))))])),p0.2.2.2.1,(IntKind.wrap .i64 (p0.2.2.2.2.1+1)),(p0.2.2.2.2.2.1++[(T.s (.int .u32 (IntKind.wrap .u32 (Int.fdiv (Fly.qR Go.BinOp.or .u64 x1 (IntKind.wrap .u64 (x2*(2^32)))) (2^(min (Int.toNat (Int.tmod p0.1 32)) 64))))))]),()))
 else none)
 else none)
 else
  some (.inr (p0.1,p0.2.1,p0.2.2.1,p0.2.2.2.1,p0.2.2.2.2.1,p0.2.2.2.2.2.1,())))
def Shr  (fu:Nat)(a:(List Int))(sh:Int):Option (List Int) :=
 (bif(decide ((List.length a:Int)≤(IntKind.wrap .i64 (Int.tdiv (max sh 0) 32))))then
 some []
 else
  (bif(true&&(((decide (0≤(IntKind.wrap .i64 (Int.tdiv (max sh 0) 32))))&&(decide ((IntKind.wrap .i64 (Int.tdiv (max sh 0) 32))≤(List.length a:Int))))&&(decide ((List.length a:Int)≤(List.length a:Int)))))then
  (itP fu (qgL) ((max sh 0),(List.take (Int.toNat ((List.length a:Int)-(IntKind.wrap .i64 (Int.tdiv (max sh 0) 32)))) (List.drop (Int.toNat (IntKind.wrap .i64 (Int.tdiv (max sh 0) 32))) a)),0,(((List.length (List.take (Int.toNat ((List.length a:Int)-(IntKind.wrap .i64 (Int.tdiv (max sh 0) 32)))) (List.drop (Int.toNat (IntKind.wrap .i64 (Int.tdiv (max sh 0) 32))) a))):Nat):Int),(0:Int),[],())).bind fun x3=>
  (Su.sub x3.2.2.2.2.2.1 0 x3.2.2.1).bind fun x4=>
  (Su.sub x3.2.2.2.2.2.1 0 x3.2.2.1).bind fun x5=>
  (Su.sub x3.2.2.2.2.2.1 0 x3.2.2.1).bind fun x6=>
  ((yh 1 x4).bind fun x7=>
  some (ofN (qa x7))).bind fun x8=>
  some x8
 else none))
def qgM:Stp (Int×Nat×Int×(List Int)×Int×Int×(List T)×Unit):=fun p1=>(bif(decide (p1.2.2.2.2.2.1<p1.2.2.2.2.1))then
 (idx p1.2.2.2.1 p1.2.2.2.2.2.1).bind fun x2=>
 (bif(decide (0≤(Int.tmod p1.1 32)))then
 (bif((true&&(Nat.beq p1.2.1 p1.2.2.2.2.2.2.1.length))&&(Nat.ble (p1.2.2.2.2.2.2.1.length+(List.length [(T.s (.int .u32 (IntKind.wrap .u32 (Fly.qR Go.BinOp.or .u64 p1.2.2.1 (IntKind.wrap .u64 ((IntKind.wrap .u64 x2)*(2^(min (Int.toNat (Int.tmod p1.1 32)) 64))))))))])) 549755813888))then
 some (.inl (p1.1,(List.length (p1.2.2.2.2.2.2.1++[(T.s (.int .u32 (IntKind.wrap .u32 (Fly.qR Go.BinOp.or .u64 p1.2.2.1 (IntKind.wrap .u64 ((IntKind.wrap .u64 x2)*(2^(min (Int.toNat (Int.tmod p1.1 32)) 64))))))))])),(Int.fdiv (Fly.qR Go.BinOp.or .u64 p1.2.2.1 (IntKind.wrap .u64 ((IntKind.wrap .u64 x2)*(2^(min (Int.toNat (Int.tmod p1.1 32)) 64))))) (2^32)),p1.2.2.2.1,p1.2.2.2.2.1,(IntKind.wrap .i64 (p1.2.2.2.2.2.1+1)),(p1.2.2.2.2.2.2.1++[(T.s (.int .u32 (IntKind.wrap .u32 (Fly.qR Go.BinOp.or .u64 p1.2.2.1 (IntKind.wrap .u64 ((IntKind.wrap .u64 x2)*(2^(min (Int.toNat (Int.tmod p1.1 32)) 64))))))))]),()))
 else none)
 else none)
 else
  some (.inr (p1.1,p1.2.1,p1.2.2.1,p1.2.2.2.1,p1.2.2.2.2.1,p1.2.2.2.2.2.1,p1.2.2.2.2.2.2.1,())))
def Shl  (fu:Nat)(a:(List Int))(sh:Int):Option ((List Int)×Int) :=
 (Len a).bind fun x0=>
 (bif(decide (x0=0))then
 some ([],(0:Int))
 else
  (bif(decide ((IntKind.wrap .i64 (65536-x0))<(max sh 0)))then
  some ([],(20:Int))
 else
  (bif(((true&&(decide (0≤(IntKind.wrap .i64 (Int.tdiv (max sh 0) 32)))))&&(decide ((IntKind.wrap .i64 (Int.tdiv (max sh 0) 32))≤(IntKind.wrap .i64 ((IntKind.wrap .i64 ((IntKind.wrap .i64 (Int.tdiv (max sh 0) 32))+(List.length a:Int)))+1)))))&&(decide ((IntKind.wrap .i64 ((IntKind.wrap .i64 ((IntKind.wrap .i64 (Int.tdiv (max sh 0) 32))+(List.length a:Int)))+1))≤549755813888)))then
  (itP fu (qgM) ((max sh 0),(Int.toNat (IntKind.wrap .i64 (Int.tdiv (max sh 0) 32))),(0:Int),a,(List.length a:Int),(0:Int),(List.replicate (Int.toNat (IntKind.wrap .i64 (Int.tdiv (max sh 0) 32))) (T.s (.int .u32 0))),())).bind fun x3=>
  (bif((true&&(Nat.beq x3.2.1 x3.2.2.2.2.2.2.1.length))&&(Nat.ble (x3.2.2.2.2.2.2.1.length+(List.length [(T.s (.int .u32 (IntKind.wrap .u32 x3.2.2.1)))])) 549755813888))then
  (Su.sub (x3.2.2.2.2.2.2.1++[(T.s (.int .u32 (IntKind.wrap .u32 x3.2.2.1)))]) 0 (List.length (x3.2.2.2.2.2.2.1++[(T.s (.int .u32 (IntKind.wrap .u32 x3.2.2.1)))]))).bind fun x4=>
  (Su.sub (x3.2.2.2.2.2.2.1++[(T.s (.int .u32 (IntKind.wrap .u32 x3.2.2.1)))]) 0 (List.length (x3.2.2.2.2.2.2.1++[(T.s (.int .u32 (IntKind.wrap .u32 x3.2.2.1)))]))).bind fun x5=>
  ((yh 1 x4).bind fun x6=>
  some (ofN (qa x6))).bind fun x7=>
  some (x7,(0:Int))
 else none)
 else none)))
theorem JH(y k:Nat):Int.fdiv (y:Int) (2^k)=((y / 2^k:Nat):Int):=by
 have h0:(0:Int)≤(2:Int)^k:=Int.pow_nonneg (by decide)
 rw[Vi _ h0];simp
theorem qea{x y r:Nat}(hr:x<2^r):x ||| y*2^r=x+y*2^r:=by
 have:=Nat.two_pow_add_eq_or_of_lt hr y
 rw[zF,Nat.or_comm,← this];omega
theorem qb3{a:List Int}(h:Wd a)(i:Nat):qa a / 4294967296^i=qa (a.drop i):=by
 by_cases hi:i≤a.length
 · have h1:=yD (a.take i) (a.drop i)
   rw[KU,zL,Va hi]at h1;rw[h1,VW _ _ (Nat.pow_pos (by omega)),Vt (yZ h i),zG]
 · rw[Vc (by omega)]
   have:=yN a h
   have:qa a<4294967296^i:=Ku this (zX (by omega) (by omega))
   rw[Vt this];rfl
theorem Yk(a:List Int)(i:Nat):qa (a.drop i)=(nth a i).toNat+4294967296*qa (a.drop (i+1)):=by
 unfold nth;by_cases hi:i<a.length
 · rw[zY hi,zt hi];rfl
 · rw[Vc (by omega),Vc (by omega),z7 (by omega)];rfl
theorem qpa{a:List Int}(h:Wd a)(i r:Nat)(hr:r≤32):qa a / 2^r / 4294967296^i % 4294967296=((nth a i).toNat+4294967296*(nth a (i+1)).toNat) / 2^r % 4294967296:=by
 rw[Km,zF,← Km,qb3 h,Yk,Yk];generalize qa (a.drop (i+1+1))=z
 have hp:=zQ r;obtain⟨q,hq⟩:∃q,4294967296=2^r*q:=⟨2^(32-r),by rw[← zP,show r+(32-r)=32 by omega]⟩
 have e:(nth a i).toNat+4294967296*((nth a (i+1)).toNat+4294967296*z)=((nth a i).toNat+4294967296*(nth a (i+1)).toNat)+2^r*(4294967296*(q*z)):=by
  rw[KF,← Ky]
  congr 1
  rw[← zx (2^r),zF (2^r),zx,← zx (2^r),← hq]
 rw[e,VW _ _ hp,Nat.add_mul_mod_self_left]
theorem Wd.drop{a:List Int}(h:Wd a)(i:Nat):Wd (a.drop i):=fun x hx=>h x (KB hx)
theorem qtC(q:Nat):Wd [((q % 4294967296:Nat):Int)]:=.cons (by omega) (by omega) .nil
theorem qpb(B k x vo q:Nat)(hv:vo=x % B^k)(hq:x / B^k % B=q):vo+B^k*q=x % B^(k+1):=by
 rw[Nat.mod_pow_succ,hv,hq]
theorem Jp(l:List Int)(q:Nat):qa (l++[(q:Int)])=qa l+4294967296^l.length*q:=by
 rw[yD];show qa l+4294967296^l.length*((q:Int).toNat+4294967296*0)=_
 rw[zd,VC,KA]
theorem qif(a:List Int)(ha:Wd a)(s:Nat)(hlen:a.length≤549755813887):∀(k i:Nat) (out:List Int),i+k=a.length→out.length=i→Wd out→qa out=qa a / 2^(s % 32) % 4294967296^i →
 ∃out':List Int,out'.length=a.length∧Wd out'∧qa out'=qa a / 2^(s % 32) % 4294967296^a.length ∧
  ∃n,itP n qgL ((s:Int),a,i,(a.length:Int),(i:Int),out.map eW,())=some ((s:Int),a,a.length,(a.length:Int),(a.length:Int),out'.map eW,())
 | 0,i,out,hk,ho,hw,hv=>by
  have:i=a.length:=by omega
  subst this;exact⟨out,ho,hw,hv,yS (by simp[qgL])⟩
 | k+1,i,out,hk,ho,hw,hv=>by
  obtain⟨x0,x1⟩:=yf ha i;obtain⟨y0,y1⟩:=yf ha (i+1)
  obtain⟨X,hX⟩:∃X:Nat,nth a i=(X:Int):=⟨(nth a i).toNat,by omega⟩
  obtain⟨Y,hY⟩:∃Y:Nat,nth a (i+1)=(Y:Int):=⟨(nth a (i+1)).toNat,by omega⟩
  have hr:s % 32<32:=K9 _ (by omega)
  have e1:IntKind.i64.wrap ((i:Int)+1)=((i+1:Nat):Int):=by rw[w64 (by omega) (by omega)];rfl
  have e2:Int.tmod (s:Int) 32=((s % 32:Nat):Int):=by rw[Wf (by omega)];rfl
  have e3:IntKind.u64.wrap ((Y:Int)*2^32)=((Y*4294967296:Nat):Int):=by
   rw[show((Y:Int)*2^32)=((Y*4294967296:Nat):Int) by rw[Vx];rfl];exact jX (by omega) (by omega)
  have e4:qR .or .u64 (X:Int) ((Y*4294967296:Nat):Int)=((X+Y*4294967296:Nat):Int):=by
   rw[qdp (by omega) (by omega)];have:=qea (x:=X) (y:=Y) (r:=32) (by simp;omega)
   rw[show(2:Nat)^32=4294967296 from rfl]at this;rw[this]
  have e5:Int.fdiv ((X+Y*4294967296:Nat):Int) (2^(min (s % 32) 64))=(((X+Y*4294967296) / 2^(s % 32):Nat):Int):=by
   rw[Va (Vg (Ku hr (by decide)))];exact JH _ _
  generalize hQ:(X+Y*4294967296) / 2^(s % 32)=Q at *
  have e6:IntKind.u32.wrap (Q:Int)=((Q % 4294967296:Nat):Int):=by rw[wrap_u32];omega
  have hword:=qpa ha i (s % 32) (by omega)
  rw[hX,hY]at hword;simp only[zd]at hword;rw[zF 4294967296 Y,hQ]at hword;have hval:qa (out++[((Q % 4294967296:Nat):Int)])=qa a / 2^(s % 32) % 4294967296^(i+1):=by
   rw[Jp,ho];exact qpb _ _ _ _ _ hv hword
  obtain⟨out',h1,h2,h3,h4⟩:=qif a ha s hlen k (i+1) (out++[((Q % 4294967296:Nat):Int)]) (by omega) (by simp[ho]) (hw.app (qtC Q)) hval
  refine⟨out',h1,h2,h3,Qj ?_ h4⟩
  have d1:decide ((i:Int)<(a.length:Int))=true:=zb (by omega)
  have d2:decide ((0:Int)≤((s % 32:Nat):Int))=true:=zb (by omega)
  have hb1:Nat.beq i (out.map eW).length=true:=by rw[zK,ho];exact Vh _
  have hb2:Nat.ble ((out.map eW).length+[eW ((Q % 4294967296:Nat):Int)].length) 549755813888=true:=by
   rw[VH,zK,ho];simp;omega
  simp only[qgL,d1,zg,e1,QE ha,hX,hY,zh,e2,d2,e3,e4,zd,e5,e6];rw[hb1,hb2];simp[ho]
def qvz(p:List Int×Int):Option (List Int):=bif Nat.ble p.1.length 549755813887 then some (ofN (qa p.1 / 2^(max p.2 0).toNat))else none
theorem qw8(p:List Int×Int)(y:List Int)(hg:(dc (cQ 1 1) (d1 (cI .i64))).good p)(h:qvz p=some y):∃n,Shr n p.1 p.2=some y:=by
 obtain⟨a,s⟩:=p;obtain⟨⟨ha,la⟩,hs⟩:=hg;obtain⟨hm,h⟩:=qh h;have:=soi h;subst this
 have hlen:a.length≤549755813887:=zo hm
 have hs':=QW.1 hs;obtain⟨S,hS⟩:∃S:Nat,max s 0=(S:Int):=⟨(max s 0).toNat,by omega⟩
 have hw:=Wd.of ha;have e1:Int.tdiv (S:Int) 32=((S / 32:Nat):Int):=by rw[Int.tdiv_eq_ediv_of_nonneg (by omega)];rfl
 have e2:IntKind.i64.wrap ((S / 32:Nat):Int)=((S / 32:Nat):Int):=w64 (by omega) (by omega)
 show∃n,Shr n a s=some (ofN (qa a / 2^(max s 0).toNat))
 unfold Shr;rw[hS,e1,e2];simp only[zd];have split:qa a / 2^S=qa (a.drop (S / 32)) / 2^(S % 32):=by
  rw[← qb3 hw,qbk,Km,← zP]
  congr 2;omega
 by_cases hge:a.length≤S / 32
 · refine⟨0,?_⟩
   rw[zb (by omega),zg,split,Vc hge];simp[qa,JF]
 · obtain⟨out,h1,h2,h3,n,h4⟩:=qif (a.drop (S / 32)) (hw.drop _) S (by rw[zV];omega) (a.drop (S / 32)).length 0 [] (by omega) rfl .nil (by simp[qa,Nat.mod_one])
   refine⟨n,?_⟩
   rw[zk (by omega),zm,zb (by omega),zb (by omega),zb (by omega)];have et:a.length-S / 32=(a.drop (S / 32)).length:=by rw[zV]
   have ed:List.take ((a.length:Int)-((S / 32:Nat):Int)).toNat (a.drop (S / 32))=a.drop (S / 32):=zJ (by rw[zV];omega)
   rw[Int.natCast_zero]at h4;simp only[Ki,zg,ed];rw[show([]:List T)=([]:List Int).map eW from rfl,h4];have hsb:sub (out.map eW) 0 (a.drop (S / 32)).length=some (out.map eW):=by
    have:=JS (out.map eW)
    rwa [zK,h1]at this
   simp only[zh,hsb,Jo];show some (ofN (qa out))=_
   have hlt:qa (a.drop (S / 32)) / 2^(S % 32)<4294967296^(a.drop (S / 32)).length:=KQ (VB _ _) (yN _ (hw.drop _))
   rw[h3,KP hlt,split]
theorem obB{α β:Type}{o:Option α}{x:α}{f:α→Option β}{r:Option β}(h:o=some x)(k:f x=r):o.bind f=r:=by rw[h];exact k
theorem qkW(Bk Bi B r vo c x va:Nat)(h:vo+c*(Bk*Bi)=va*r*Bk) :
 (vo+Bk*Bi*((c+x*r) % B))+(c+x*r) / B*(Bk*(Bi*B))=(va+Bi*x)*r*Bk:=by
 have:=Nat.mod_add_div (c+x*r) B
 generalize (c+x*r) % B=m at *
 generalize (c+x*r) / B=d at *
 grind
theorem qig(a:List Int)(ha:Wd a)(s:Nat)(hlen:s / 32+a.length≤549755813887):∀(m i:Nat) (out:List Int) (c:Nat),i+m=a.length→out.length=s / 32+i→Wd out→c<2^(s % 32) →
 qa out+c*(4294967296^(s / 32)*4294967296^i)=qa (a.take i)*2^(s % 32)*4294967296^(s / 32) →
 ∃(out':List Int) (c':Nat),out'.length=s / 32+a.length∧Wd out'∧c'<2^(s % 32)∧qa out'+c'*(4294967296^(s / 32)*4294967296^a.length)=qa a*2^(s % 32)*4294967296^(s / 32) ∧
  ∃n,itP n qgM ((s:Int),s / 32+i,(c:Int),a,(a.length:Int),(i:Int),out.map eW,())=some ((s:Int),s / 32+a.length,(c':Int),a,(a.length:Int),(a.length:Int),out'.map eW,())
 | 0,i,out,c,hk,ho,hw,hc,hv=>by
  have:i=a.length:=by omega
  subst this;rw[zJ (zI _)]at hv;exact⟨out,c,ho,hw,hc,hv,yS (by simp[qgM])⟩
 | m+1,i,out,c,hk,ho,hw,hc,hv=>by
  have hia:i<a.length:=by omega
  obtain⟨x0,x1⟩:=yf ha i;obtain⟨X,hX⟩:∃X:Nat,nth a i=(X:Int):=⟨(nth a i).toNat,by omega⟩
  have hXl:X<4294967296:=by omega
  have hx:idx a (i:Int)=some (X:Int):=by rw[QX,zt hia,← hX];simp[nth,zt hia]
  have hr:s % 32<32:=K9 _ (by omega)
  have hp31:2^(s % 32)≤2147483648:=by
   have:=zX (n:=2) (by omega) (show s % 32≤31 by omega);simpa using this
  have hvs:=qkW (4294967296^(s / 32)) (4294967296^i) 4294967296 (2^(s % 32)) (qa out) c X (qa (a.take i)) hv
  have hc2:(c+X*2^(s % 32)) / 4294967296<2^(s % 32):=by
   rw[KD (by omega)];have:=zD (2^(s % 32)) (show X≤4294967295 by omega)
   omega
  have e2:Int.tmod (s:Int) 32=((s % 32:Nat):Int):=by rw[Wf (by omega)];rfl
  have e3:IntKind.u64.wrap (IntKind.u64.wrap (X:Int)*2^min (s % 32) 64)=((X*2^(s % 32):Nat):Int):=by
   have ex:IntKind.u64.wrap (X:Int)=(X:Int):=jX (by omega) (by omega)
   rw[Va (Vg (Ku hr (by decide))),ex];have h1:X*2^(s % 32)≤4294967295*2147483648:=VG (by omega) hp31
   rw[show((X:Int)*2^(s % 32))=((X*2^(s % 32):Nat):Int) by rw[Vx,Int.natCast_pow];rfl];exact jX (by omega) (by omega)
  have e4:qR .or .u64 (c:Int) ((X*2^(s % 32):Nat):Int)=((c+X*2^(s % 32):Nat):Int):=by
   have h1:X*2^(s % 32)≤4294967295*2147483648:=VG (by omega) hp31
   rw[qdp (by omega) (by omega),qea hc]
  generalize hT:c+X*2^(s % 32)=t at *
  have e5:IntKind.u32.wrap (t:Int)=((t % 4294967296:Nat):Int):=by rw[wrap_u32];omega
  have e6:Int.fdiv (t:Int) (2^32)=((t / 4294967296:Nat):Int):=by
   have:=JH t 32;rwa [show(2:Nat)^32=4294967296 from rfl]at this
  have e9:IntKind.i64.wrap ((i:Int)+1)=((i+1:Nat):Int):=by rw[w64 (by omega) (by omega)];rfl
  have hvt:qa (a.take (i+1))=qa (a.take i)+4294967296^i*X:=by rw[jJ,hX,zd]
  obtain⟨out',c',h1,h2,h3,h4,h5⟩:=qig a ha s hlen m (i+1) (out++[((t % 4294967296:Nat):Int)]) (t / 4294967296) (by omega) (by simp[ho];omega) (hw.app (qtC t)) hc2 (by
   rw[Jp,ho,hvt,← hvs,zP,z6])
  refine⟨out',c',h1,h2,h3,h4,Qj ?_ h5⟩
  have d1:decide ((i:Int)<(a.length:Int))=true:=zb (by omega)
  have d2:decide ((0:Int)≤((s % 32:Nat):Int))=true:=zb (by omega)
  have hb1:Nat.beq (s / 32+i) (out.map eW).length=true:=by rw[zK,ho];exact Vh _
  have hb2:Nat.ble ((out.map eW).length+[eW ((t % 4294967296:Nat):Int)].length) 549755813888=true:=by
   rw[VH,zK,ho];simp;omega
  simp only[qgM,d1,zg,hx,zh,e2,d2,zd,e3,e4,e5,e6,e9];rw[hb1,hb2];simp[ho];omega
def qkX(v s:Nat):List Int×Int:=if v=0 then([],0)else if 65536<qf v+s then([],20)else(ofN (v*2^s),0)
def shlL:{f:Nat→Nat→List Int×Int // ∀v s,f v s=qkX v s}:=Classical.choice ⟨⟨_,fun _ _=>rfl⟩⟩
def qw9(v s:Nat):List Int×Int:=shlL.1 v s
theorem qkY(v s:Nat):qw9 v s=qkX v s:=shlL.2 v s
def okSL:{f:List Int→Bool // ∀a,f a=Nat.ble a.length 1000000}:=Classical.choice ⟨⟨_,fun _=>rfl⟩⟩
def okS(a:List Int):Bool:=okSL.1 a
theorem qjI(a:List Int):okS a=Nat.ble a.length 1000000:=okSL.2 a
def qeb(p:List Int×Int):Option (List Int×Int):=bif okS p.1 then
 some (qw9 (qa p.1) (max p.2 0).toNat)else none
theorem qxa(p:List Int×Int)(y:List Int×Int)(hg:(dc (cQ 1 1) (d1 (cI .i64))).good p)(h:qeb p=some y):∃n,Shl n p.1 p.2=some y:=by
 obtain⟨a,s⟩:=p;obtain⟨⟨ha,la⟩,hs⟩:=hg;obtain⟨hm,h⟩:=qh h;have:=soi h;subst this
 have hm:okS a=true:=hm
 rw[qjI]at hm;have hlen:a.length≤1000000:=zo hm
 have hs':=QW.1 hs;obtain⟨S,hS⟩:∃S:Nat,max s 0=(S:Int):=⟨(max s 0).toNat,by omega⟩
 have hw:=Wd.of ha;have hbl:qf (qa a)≤32*a.length:=jM.2 (by rw[← qbk];exact yN a hw)
 have e0:Len a=some (qf (qa a):Int):=qc8 a (by omega)
 show∃n,Shl n a s=some (qw9 (qa a) (max s 0).toNat)
 rw[qkY];unfold qkX;unfold Shl;rw[hS,e0,zd];simp only[zh];by_cases hz:qa a=0
 · refine⟨0,?_⟩
   rw[zA hz,hz,show qf 0=0 from rfl];rfl
 · have hb0:qf (qa a)≠0:=fun e=>by
    have:=jM.1 (Nat.le_of_eq e)
    simp at this;omega
   have dz:decide (((qf (qa a):Nat):Int)=0)=false:=zk (by omega)
   have ew:IntKind.i64.wrap (65536-((qf (qa a):Nat):Int))=65536-((qf (qa a):Nat):Int):=w64 (by omega) (by omega)
   rw[zw hz];by_cases hl:65536<qf (qa a)+S
   · refine⟨0,?_⟩
     rw[zA hl,dz,zm,ew,zb (by omega),zg]
   · have hSl:S≤65536:=by omega
     have e1:Int.tdiv (S:Int) 32=((S / 32:Nat):Int):=by rw[Int.tdiv_eq_ediv_of_nonneg (by omega)];rfl
     have e2:IntKind.i64.wrap ((S / 32:Nat):Int)=((S / 32:Nat):Int):=w64 (by omega) (by omega)
     have e3:IntKind.i64.wrap (((S / 32:Nat):Int)+(a.length:Int))=((S / 32+a.length:Nat):Int):=by rw[w64 (by omega) (by omega)];rfl
     have e4:IntKind.i64.wrap (((S / 32+a.length:Nat):Int)+1)=((S / 32+a.length+1:Nat):Int):=by rw[w64 (by omega) (by omega)];rfl
     obtain⟨out,c,h1,h2,h3,h4,n,h5⟩:=qig a hw S (by omega) a.length 0 (List.replicate (S / 32) 0) 0 (by omega) (by simp) (fun x hx=>by
      have:=(Vd.1 hx).2;subst this;exact⟨WI _,by decide⟩) (zQ _) (by simp[YF,qa])
     refine⟨n,?_⟩
     rw[zw hl,dz,zm,ew,zk (by omega),zm];rw[e1,e2,e3,e4,zb (show(0:Int)≤((S / 32:Nat):Int) by omega),zb (show((S / 32:Nat):Int)≤((S / 32+a.length+1:Nat):Int) by omega),zb (show((S / 32+a.length+1:Nat):Int)≤549755813888 by omega)];simp only[Ki,zg,zd];rw[VQ,KA]at h5;refine obB h5 ?_
     have hcl:c<4294967296:=by
      have:=zX (n:=2) (by omega) (show S % 32≤31 by omega);simp at this;omega
     have e5:IntKind.u32.wrap (c:Int)=(c:Int):=qgG (by omega) (by omega)
     have hb1:Nat.beq (S / 32+a.length) (out.map eW).length=true:=by rw[zK,h1];exact Vh _
     have hb2:Nat.ble ((out.map eW).length+[eW (c:Int)].length) 549755813888=true:=by
      rw[VH,zK,h1];simp;omega
     have em:out.map eW++[T.s (.int .u32 (c:Int))]=(out++[(c:Int)]).map eW:=by rw[Ks];rfl
     simp only[e5];rw[hb1,hb2,em,JS];simp only[Ki,zg,zh,Jo];show some (ofN (qa (out++[(c:Int)])),(0:Int))=_
     rw[Jp,h1,zF _ c,zP,h4,show 2^S=2^(S % 32)*4294967296^(S / 32) by rw[qbk,← zP];congr 1;omega,zx]
end
end Su
end
section
namespace Su
open Go Fly
noncomputable section
def YG:Stp ((List Int)×Int×Nat×Int×Int×(List T)×Unit):=fun p0=>(bif(decide (p0.2.2.2.2.1<p0.2.2.2.1))then
 (At p0.1 p0.2.2.2.2.1).bind fun x1=>
 (bif(decide (0≤p0.2.1))then
 (bif(decide (0<p0.2.2.2.2.1))then
 (At p0.1 (IntKind.wrap .i64 (p0.2.2.2.2.1-1))).bind fun x2=>
 (bif(decide (0≤p0.2.1))then
 (bif((true&&(decide (0≤p0.2.2.2.2.1)))&&(decide (p0.2.2.2.2.1<(p0.2.2.1:Int))))then
 ((p0.2.2.2.2.2.1)[(0+p0.2.2.2.2.1.toNat)]?).bind fun x3=>
 (asI .u32 (.t x3)).bind fun x4=>
 some (.inl (p0.1,p0.2.1,p0.2.2.1,p0.2.2.2.1,(IntKind.wrap .i64 (p0.2.2.2.2.1+1)),(List.set p0.2.2.2.2.2.1 (0+p0.2.2.2.2.1.toNat) (T.s (.int .u32 (IntKind.wrap .u32 (Fly.qR Go.BinOp.or .u64 (IntKind.wrap .u64 (x1*(2^(min p0.2.1.toNat 64)))) (Int.fdiv (IntKind.wrap .u64 (x2*(2^(min p0.2.1.toNat 64)))) (2^32))))))),()))
 else none)
 else none)
 else
  (bif((true&&(decide (0≤p0.2.2.2.2.1)))&&(decide (p0.2.2.2.2.1<(p0.2.2.1:Int))))then
  ((p0.2.2.2.2.2.1)[(0+p0.2.2.2.2.1.toNat)]?).bind fun x5=>
  (asI .u32 (.t x5)).bind fun x6=>
  some (.inl (p0.1,p0.2.1,p0.2.2.1,p0.2.2.2.1,(IntKind.wrap .i64 (p0.2.2.2.2.1+1)),(List.set p0.2.2.2.2.2.1 (0+p0.2.2.2.2.1.toNat) (T.s (.int .u32 (IntKind.wrap .u32 (IntKind.wrap .u64 (x1*(2^(min p0.2.1.toNat 64)))))))),()))
 else none))
 else none)
 else
  some (.inr (p0.1,p0.2.1,p0.2.2.1,p0.2.2.2.1,p0.2.2.2.2.1,p0.2.2.2.2.2.1,())))
theorem subw{X Y r:Nat}(hX:X<4294967296)(hY:Y<4294967296)(hr:r≤1):∃z r':Nat,z<4294967296∧r'≤1∧z+Y+r=X+r'*4294967296 ∧
 IntKind.u32.wrap (IntKind.u64.wrap (IntKind.u64.wrap ((X:Int)-(Y:Int))-(r:Int)))=(z:Int)∧Int.fdiv (IntKind.u64.wrap (IntKind.u64.wrap ((X:Int)-(Y:Int))-(r:Int))) (2^63)=(r':Int):=by
 rw[wrap_u32,wrap_u64,wrap_u64,Vi _ (by decide),show(2:Int)^63=9223372036854775808 from rfl];by_cases h:Y+r≤X
 · exact⟨X-(Y+r),0,by omega,by omega,by omega,by omega,by omega⟩
 · exact⟨X+4294967296-(Y+r),1,by omega,by omega,by omega,by omega,by omega⟩
theorem qmK(b:List Int)(h:Wd b)(n:Nat)(hn:qa b<4294967296^n):qa (b.take n)=qa b:=by
 by_cases hl:n≤b.length
 · have h1:=yD (b.take n) (b.drop n)
   rw[KU,zL,Va hl,← qb3 h,Vt hn,VC,KA]at h1;exact h1.symm
 · rw[zJ (by omega)]
theorem qtD(a b:Nat):decide (yy a b<0)=decide (a<b):=by
 unfold yy;by_cases h:a<b
 · rw[zA h,zb h];rfl
 · rw[zw h,zk h]
   by_cases h2:a=b
   · rw[zA h2];rfl
   · rw[zw h2];rfl
def qih:Nat→Nat→List Int
 | 0,_=>[]
 | k+1,v=>((v % 4294967296:Nat):Int)::qih k (v / 4294967296)
theorem qii:∀(k v:Nat),(qih k v).length=k
 | 0,_=>rfl
 | k+1,v=>by rw[qih,zu,qii k]
theorem qkZ:∀(k v:Nat),Wd (qih k v)
 | 0,_=>.nil
 | k+1,v=>.cons (by omega) (by omega) (qkZ k _)
theorem qpc(k v:Nat):qa (qih k v)=v % 4294967296^k:=by
 induction k generalizing v with
 | zero=>simp[qih,qa,Nat.mod_one]
 | succ k ih=>
  have h1:=Nat.mod_mul (x:=v) (a:=4294967296) (b:=4294967296^k)
  rw[z6,zF (4294967296^k),h1];simp only[qih,qa,ih];rw[zd]
theorem qpd{c x r:Nat}(hr:r≤32)(hc:c<2^r):(c+x*2^r) / 4294967296=x*2^r / 4294967296:=by
 have e:4294967296=2^r*2^(32-r):=by rw[← zP,show r+(32-r)=32 by omega]
 rw[e,← Km,← Km,Nat.add_mul_div_right _ _ (zQ r),Vt hc,Nat.mul_div_cancel _ (zQ r),zG]
theorem qtE(o:List Int)(k:Nat)(y:Int):((o++List.replicate (k+1) 0).map eW).set o.length (eW y)=((o++[y])++List.replicate k 0).map eW:=by
 rw[Ks,List.set_append,zw (by simp),zK,VS,V6,KV,Ww,Ks,Ks,zR];rfl
theorem qij(a:List Int)(ha:Wd a)(r:Nat)(hr:r<32)(size:Nat)(hN:size≤549755813887):∀(k i:Nat) (o:List Int) (c:Nat),i+k=size→o.length=i→Wd o→c<2^r →
 (i=0→c=0)→(∀j,i=j+1→c=(nth a j).toNat*2^r / 4294967296)→qa o+c*4294967296^i=qa (a.take i)*2^r →
 ∃(o':List Int) (c':Nat),o'.length=size∧Wd o'∧qa o'+c'*4294967296^size=qa (a.take size)*2^r ∧
  ∃n,itP n YG (a,(r:Int),size,(size:Int),(i:Int),(o++List.replicate k 0).map eW,())=some (a,(r:Int),size,(size:Int),(size:Int),o'.map eW,())
 | 0,i,o,c,hk,ho,hw,hc,_,_,hv=>by
  have:i=size:=by omega
  subst this;refine⟨o,c,ho,hw,hv,yS ?_⟩
  rw[List.replicate_zero,KH];simp[YG]
 | k+1,i,o,c,hk,ho,hw,hc,hc0,hcs,hv=>by
  obtain⟨x0,x1⟩:=yf ha i;obtain⟨X,hX⟩:∃X:Nat,nth a i=(X:Int):=⟨(nth a i).toNat,by omega⟩
  have hXl:X<4294967296:=by omega
  have hp31:2^r≤2147483648:=by
   have:=zX (n:=2) (by omega) (show r≤31 by omega);simpa using this
  have hxl:X*2^r≤4294967295*2147483648:=VG (by omega) hp31
  have hvs:=qkW 1 (4294967296^i) 4294967296 (2^r) (qa o) c X (qa (a.take i)) (by rw[KO,Vn];exact hv)
  rw[qpd (by omega) hc,KO,KO,Vn]at hvs;have hmin:min r 64=r:=by omega
  have em:∀Z:Nat,Z<4294967296→IntKind.u64.wrap ((Z:Int)*2^min r 64)=((Z*2^r:Nat):Int):=fun Z hZ=>by
   have h1:Z*2^r≤4294967295*2147483648:=VG (by omega) hp31
   rw[hmin,show((Z:Int)*2^r)=((Z*2^r:Nat):Int) by rw[Vx,Int.natCast_pow];rfl];exact jX (by omega) (by omega)
  have hvt:qa (a.take (i+1))=qa (a.take i)+4294967296^i*X:=by rw[jJ,hX,zd]
  have e9:IntKind.i64.wrap ((i:Int)+1)=((i+1:Nat):Int):=by rw[w64 (by omega) (by omega)];rfl
  have hc2:X*2^r / 4294967296<2^r:=by
   rw[KD (by omega)];have:=zD (2^r) (show X≤4294967295 by omega)
   have:=zQ r
   omega
  obtain⟨o',c',h1,h2,h4,h5⟩:=qij a ha r hr size hN k (i+1) (o++[(((c+X*2^r) % 4294967296:Nat):Int)]) (X*2^r / 4294967296) (by omega) (by simp[ho]) (hw.app (qtC _)) hc2 (fun h=>by omega)
   (fun j hj=>by(have:j=i:=(by omega));subst this;rw[hX,zd]) (by rw[Jp,ho,hvt,← hvs,z6])
  refine⟨o',c',h1,h2,h4,Qj ?_ h5⟩
  have d1:decide ((i:Int)<(size:Int))=true:=zb (by omega)
  have d2:decide ((0:Int)≤(r:Int))=true:=zb (by omega)
  have d3:decide ((0:Int)≤(i:Int))=true:=zb (by omega)
  have hget:((o++List.replicate (k+1) 0).map eW)[i]?=some (eW 0):=by
   rw[Ks,z8 (by simp[ho]),zK,ho,VS];rfl
  have hset:=qtE o k (((c+X*2^r) % 4294967296:Nat):Int)
  rw[ho]at hset;have ewrap:∀t:Nat,IntKind.u32.wrap (t:Int)=((t % 4294967296:Nat):Int):=fun t=>by rw[wrap_u32];omega
  simp only[YG,d1,zg,QE ha,hX,zh,d2,d3,zd,em X hXl,Ki,Kw,zG,hget,QF,e9];by_cases hi0:i=0
  · subst hi0
    obtain rfl:c=0:=hc0 rfl
    have d4:decide ((0:Int)<((0:Nat):Int))=false:=rfl
    rw[d4,zm,ewrap];simp only[zG]at hset ⊢;rw[show T.s (.int .u32 ((X*2^r % 4294967296:Nat):Int))=eW ((X*2^r % 4294967296:Nat):Int) from rfl,hset]
  · obtain⟨j,rfl⟩:∃j,i=j+1:=⟨i-1,by omega⟩
    have hcj:=hcs j rfl;obtain⟨y0,y1⟩:=yf ha j;obtain⟨Y,hY⟩:∃Y:Nat,nth a j=(Y:Int):=⟨(nth a j).toNat,by omega⟩
    rw[hY,zd]at hcj;have d4:decide ((0:Int)<((j+1:Nat):Int))=true:=zb (by omega)
    have e5:IntKind.i64.wrap (((j+1:Nat):Int)-1)=(j:Int):=by rw[w64 (by omega) (by omega)];omega
    have e6:Int.fdiv ((Y*2^r:Nat):Int) (2^32)=(c:Int):=by
     have:=JH (Y*2^r) 32;rw[show(2:Nat)^32=4294967296 from rfl]at this;rw[this,hcj]
    have e7:qR .or .u64 ((X*2^r:Nat):Int) (c:Int)=((c+X*2^r:Nat):Int):=by
     rw[qdp (by omega) (by omega),Nat.or_comm,qea hc]
    rw[d4,zg,e5,QE ha,hY,zh,em Y (by omega),e6,e7,ewrap];rw[show T.s (.int .u32 (((c+X*2^r) % 4294967296:Nat):Int))=eW (((c+X*2^r) % 4294967296:Nat):Int) from rfl,hset]
end
end Su
end
section
namespace Su
open Go Fly
def qgN(l:List Int):Bool:=Nat.ble l.length 549755813888
def QY(l:List Int):Option (List Int):=bif qgN l then some l else none
def JT(p:List Int×Int):Option (List Int×List Int):=bif decide (0<p.2)&&qgN p.1 then some (ofN (qa p.1 / p.2.toNat),ofN (qa p.1 % p.2.toNat))else none
end Su
end
section
namespace Su
theorem qpe{B P f d2 top n2 D N Dr Nr:Nat}(hD:D=(f*B+d2)*P+Dr)(hN:N=(top*B+n2)*P+Nr)(hNr:Nr<P)(hn2:n2<B)(hf:0<f):N<(top / f+1)*D:=by
 have h1:top+1≤(top / f+1)*f:=by
  have:=Vb top f
  have h2:=K9 top hf;rw[zW,KO,zF];omega
 have h2:top*B+n2+1≤(top / f+1)*(f*B+d2):=by
  have h3:=zD B h1;rw[zW,KO]at h3;have h4:(top / f+1)*(f*B+d2)=(top / f+1)*f*B+(top / f+1)*d2:=by rw[KF,zx]
  rw[h4];omega
 have h3:N<(top*B+n2+1)*P:=by rw[hN,zW (top*B+n2) 1 P,KO];omega
 have h4:(top*B+n2+1)*P≤(top / f+1)*(f*B+d2)*P:=zD P h2
 have h5:(top / f+1)*(f*B+d2)*P≤(top / f+1)*D:=by
  rw[zx,hD];exact zU _ (Nat.le_add_right _ _)
 omega
theorem qtF{B P f d2 top n2 D N Dr Nr g left:Nat}(hD:D=(f*B+d2)*P+Dr)(hN:N=(top*B+n2)*P+Nr)(hNr:Nr<P)(hl:g*f+left=top)
 (ht:left*B+n2<g*d2):N<g*D:=by
 have h2:top*B+n2+1≤g*(f*B+d2):=by
  have h4:g*(f*B+d2)=g*f*B+g*d2:=by rw[KF,zx]
  rw[h4,← hl,zW];omega
 have h3:N<(top*B+n2+1)*P:=by rw[hN,zW (top*B+n2) 1 P,KO];omega
 have h4:(top*B+n2+1)*P≤g*(f*B+d2)*P:=zD P h2
 have h5:g*(f*B+d2)*P≤g*D:=by
  rw[zx,hD];exact zU _ (Nat.le_add_right _ _)
 omega
theorem qxb{B P f d2 top n2 D N Dr Nr g left:Nat}(hD:D=(f*B+d2)*P+Dr)(hN:N=(top*B+n2)*P+Nr)(hDr:Dr<P)(hl:g*f+left=top)(hf:0<f)(hB:0<B)(hg:g≤B)
 (ht:g*d2≤left*B+n2):g*D<N+D:=by
 have h2:g*(f*B+d2)≤top*B+n2:=by
  have h4:g*(f*B+d2)=g*f*B+g*d2:=by rw[KF,zx]
  rw[h4,← hl,zW];omega
 have h3:g*(f*B+d2)*P≤(top*B+n2)*P:=zD P h2
 have h4:g*D=g*(f*B+d2)*P+g*Dr:=by rw[hD,KF,zx]
 have h5:g*Dr≤B*Dr:=zD _ hg
 have h6:B*Dr+B≤B*P:=by
  have:=zU B (show Dr+1≤P by omega)
  rwa [KF,Vn]at this
 have h7:B*P≤D:=by
  have:1*(B*P)≤f*(B*P):=zD _ hf
  rw[hD,zW,zx];omega
 omega
theorem qpf{B P f d2 top n2 D N Dr Nr:Nat}(hD:D=(B*f+d2)*P+Dr)(hN:N=(B*top+n2)*P+Nr)(hNr:Nr<P)(hn2:n2<B)(hf:0<f):N<(top / f+1)*D :=
 qpe (B:=B) (by rw[zF f B];exact hD) (by rw[zF top B];exact hN) hNr hn2 hf
theorem qtG{B P f d2 top n2 D N Dr Nr g left:Nat}(hD:D=(B*f+d2)*P+Dr)(hN:N=(B*top+n2)*P+Nr)(hNr:Nr<P)(hl:g*f+left=top)(ht:B*left+n2<g*d2):N<g*D :=
 qtF (B:=B) (by rw[zF f B];exact hD) (by rw[zF top B];exact hN) hNr hl (by rw[zF left B];exact ht)
theorem qxc{B P f d2 top n2 D N Dr Nr g left:Nat}(hD:D=(B*f+d2)*P+Dr)(hN:N=(B*top+n2)*P+Nr)(hDr:Dr<P)(hl:g*f+left=top)(hf:0<f)(hB:0<B)(hg:g≤B)(ht:g*d2≤B*left+n2):g*D<N+D :=
 qxb (B:=B) (by rw[zF f B];exact hD) (by rw[zF top B];exact hN) hDr hl hf hB hg (by rw[zF left B];exact ht)
theorem qtH{D N g:Nat}(h1:N<(g+1)*D)(h2:g*D<N+D):(g*D≤N→N / D=g∧N % D=N-g*D)∧(N<g*D→N / D+1=g∧N % D+g*D=N+D):=by
 have hD:0<D:=by
  cases D with
  | zero=>omega
  | succ=>omega
 refine⟨fun h=>?_,fun h=>?_⟩
 · have hq:N / D=g:=by
    refine Nat.le_antisymm (Nat.lt_succ_iff.1 ((KD hD).2 h1)) ((WG hD).2 h)
   have:=Vb N D
   rw[hq,zF]at this;exact⟨hq,by omega⟩
 · cases g with
   | zero=>omega
   | succ g=>
    rw[zW,KO]at h h2;have hq:N / D=g:=by
     refine Nat.le_antisymm (Nat.lt_succ_iff.1 ((KD hD).2 (by rw[Nat.succ_mul];exact h))) ((WG hD).2 (by omega))
    have:=Vb N D
    rw[hq,zF]at this;rw[zW,KO];exact⟨by rw[hq],by omega⟩
end Su
end
