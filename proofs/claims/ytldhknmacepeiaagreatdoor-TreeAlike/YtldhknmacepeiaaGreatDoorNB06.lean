/-
  What functions of the program compute, in plain Lean, and that the evaluator finds it.
-/
import Derived.Test.YtldhknmacepeiaaGreatDoorTra
import Derived.Test.YtldhknmacepeiaaGreatDoorNB02
import Derived.Test.YtldhknmacepeiaaGreatDoorFlyM
import Derived.Test.YtldhknmacepeiaaGreatDoorRb
set_option linter.unusedVariables false
set_option linter.unusedSimpArgs false
set_option maxRecDepth 10000
section
namespace Su
open Go Fly
noncomputable section
def qhB:Stp (Int×(List Int)×Nat×Int×Int×(List T)×Unit):=fun p0=>(bif(decide (p0.2.2.2.2.1<p0.2.2.2.1))then
 (At p0.2.1 p0.2.2.2.2.1).bind fun x1=>
 (At p0.2.1 (IntKind.wrap .i64 (p0.2.2.2.2.1+1))).bind fun x2=>
 (bif(decide (0≤(Int.tmod p0.1 32)))then
 (bif((true&&(Nat.beq p0.2.2.1 p0.2.2.2.2.2.1.length))&&(Nat.ble (p0.2.2.2.2.2.1.length+(List.length [(T.s (.int .u32 (IntKind.wrap .u32 (Int.fdiv (Fly.jf Go.BinOp.or .u64 x1 (IntKind.wrap .u64 (x2*(2^32)))) (2^(min (Int.toNat (Int.tmod p0.1 32)) 64))))))])) 549755813888))then
 some (.inl (p0.1,p0.2.1,(List.length (p0.2.2.2.2.2.1++[(T.s (.int .u32 (IntKind.wrap .u32 (Int.fdiv (Fly.jf Go.BinOp.or .u64 x1 (IntKind.wrap .u64 (x2*(2^32)))) (2^(min (Int.toNat (Int.tmod p0.1 32)) 64))))))])),p0.2.2.2.1,(IntKind.wrap .i64 (p0.2.2.2.2.1+1)),(p0.2.2.2.2.2.1++[(T.s (.int .u32 (IntKind.wrap .u32 (Int.fdiv (Fly.jf Go.BinOp.or .u64 x1 (IntKind.wrap .u64 (x2*(2^32)))) (2^(min (Int.toNat (Int.tmod p0.1 32)) 64))))))]),()))
 else none)
 else none)
 else
  some (.inr (p0.1,p0.2.1,p0.2.2.1,p0.2.2.2.1,p0.2.2.2.2.1,p0.2.2.2.2.2.1,())))
def Shr  (fu:Nat)(a:(List Int))(sh:Int):Option (List Int) :=
 (bif(decide ((List.length a:Int)≤(IntKind.wrap .i64 (Int.tdiv (max sh 0) 32))))then
 some []
 else
  (bif(true&&(((decide (0≤(IntKind.wrap .i64 (Int.tdiv (max sh 0) 32))))&&(decide ((IntKind.wrap .i64 (Int.tdiv (max sh 0) 32))≤(List.length a:Int))))&&(decide ((List.length a:Int)≤(List.length a:Int)))))then
  (itP fu (qhB) ((max sh 0),(List.take (Int.toNat ((List.length a:Int)-(IntKind.wrap .i64 (Int.tdiv (max sh 0) 32)))) (List.drop (Int.toNat (IntKind.wrap .i64 (Int.tdiv (max sh 0) 32))) a)),0,(((List.length (List.take (Int.toNat ((List.length a:Int)-(IntKind.wrap .i64 (Int.tdiv (max sh 0) 32)))) (List.drop (Int.toNat (IntKind.wrap .i64 (Int.tdiv (max sh 0) 32))) a))):Nat):Int),(0:Int),[],())).bind fun x3=>
  (Su.sub x3.2.2.2.2.2.1 0 x3.2.2.1).bind fun x4=>
  (Su.sub x3.2.2.2.2.2.1 0 x3.2.2.1).bind fun x5=>
  (Su.sub x3.2.2.2.2.2.1 0 x3.2.2.1).bind fun x6=>
  ((yp 1 x4).bind fun x7=>
  some (ofN (qd x7))).bind fun x8=>
  some x8
 else none))
def qhC:Stp (Int×Nat×Int×(List Int)×Int×Int×(List T)×Unit):=fun p1=>(bif(decide (p1.2.2.2.2.2.1<p1.2.2.2.2.1))then
 (idx p1.2.2.2.1 p1.2.2.2.2.2.1).bind fun x2=>
 (bif(decide (0≤(Int.tmod p1.1 32)))then
 (bif((true&&(Nat.beq p1.2.1 p1.2.2.2.2.2.2.1.length))&&(Nat.ble (p1.2.2.2.2.2.2.1.length+(List.length [(T.s (.int .u32 (IntKind.wrap .u32 (Fly.jf Go.BinOp.or .u64 p1.2.2.1 (IntKind.wrap .u64 ((IntKind.wrap .u64 x2)*(2^(min (Int.toNat (Int.tmod p1.1 32)) 64))))))))])) 549755813888))then
 some (.inl (p1.1,(List.length (p1.2.2.2.2.2.2.1++[(T.s (.int .u32 (IntKind.wrap .u32 (Fly.jf Go.BinOp.or .u64 p1.2.2.1 (IntKind.wrap .u64 ((IntKind.wrap .u64 x2)*(2^(min (Int.toNat (Int.tmod p1.1 32)) 64))))))))])),(Int.fdiv (Fly.jf Go.BinOp.or .u64 p1.2.2.1 (IntKind.wrap .u64 ((IntKind.wrap .u64 x2)*(2^(min (Int.toNat (Int.tmod p1.1 32)) 64))))) (2^32)),p1.2.2.2.1,p1.2.2.2.2.1,(IntKind.wrap .i64 (p1.2.2.2.2.2.1+1)),(p1.2.2.2.2.2.2.1++[(T.s (.int .u32 (IntKind.wrap .u32 (Fly.jf Go.BinOp.or .u64 p1.2.2.1 (IntKind.wrap .u64 ((IntKind.wrap .u64 x2)*(2^(min (Int.toNat (Int.tmod p1.1 32)) 64))))))))]),()))
 else none)
 else none)
 else
  some (.inr (p1.1,p1.2.1,p1.2.2.1,p1.2.2.2.1,p1.2.2.2.2.1,p1.2.2.2.2.2.1,p1.2.2.2.2.2.2.1,())))
def Shl  (fu:Nat)(a:(List Int))(sh:Int):Option ((List Int)×Int) :=
 (Len a).bind fun x0=>
 (bif(decide (x0=0))then
 some ([],(0:Int))
 else
  (bif(decide ((IntKind.wrap .i64 (65536-x0))<(max sh 0)))then
  some ([],(20:Int))
 else
  (bif(((true&&(decide (0≤(IntKind.wrap .i64 (Int.tdiv (max sh 0) 32)))))&&(decide ((IntKind.wrap .i64 (Int.tdiv (max sh 0) 32))≤(IntKind.wrap .i64 ((IntKind.wrap .i64 ((IntKind.wrap .i64 (Int.tdiv (max sh 0) 32))+(List.length a:Int)))+1)))))&&(decide ((IntKind.wrap .i64 ((IntKind.wrap .i64 ((IntKind.wrap .i64 (Int.tdiv (max sh 0) 32))+(List.length a:Int)))+1))≤549755813888)))then
  (itP fu (qhC) ((max sh 0),(Int.toNat (IntKind.wrap .i64 (Int.tdiv (max sh 0) 32))),(0:Int),a,(List.length a:Int),(0:Int),(List.replicate (Int.toNat (IntKind.wrap .i64 (Int.tdiv (max sh 0) 32))) (T.s (.int .u32 0))),())).bind fun x3=>
  (bif((true&&(Nat.beq x3.2.1 x3.2.2.2.2.2.2.1.length))&&(Nat.ble (x3.2.2.2.2.2.2.1.length+(List.length [(T.s (.int .u32 (IntKind.wrap .u32 x3.2.2.1)))])) 549755813888))then
  (Su.sub (x3.2.2.2.2.2.2.1++[(T.s (.int .u32 (IntKind.wrap .u32 x3.2.2.1)))]) 0 (List.length (x3.2.2.2.2.2.2.1++[(T.s (.int .u32 (IntKind.wrap .u32 x3.2.2.1)))]))).bind fun x4=>
  (Su.sub (x3.2.2.2.2.2.2.1++[(T.s (.int .u32 (IntKind.wrap .u32 x3.2.2.1)))]) 0 (List.length (x3.2.2.2.2.2.2.1++[(T.s (.int .u32 (IntKind.wrap .u32 x3.2.2.1)))]))).bind fun x5=>
  ((yp 1 x4).bind fun x6=>
  some (ofN (qd x6))).bind fun x7=>
  some (x7,(0:Int))
 else none)
 else none)))
theorem Zn(y k:Nat):Int.fdiv (y:Int) (2^k)=((y / 2^k:Nat):Int):=by
 have h0:(0:Int)≤(2:Int)^k:=Int.pow_nonneg (by decide)
 rw[Ve _ h0];simp
theorem qeS{x y r:Nat}(hr:x<2^r):x ||| y*2^r=x+y*2^r:=by
 have:=Nat.two_pow_add_eq_or_of_lt hr y
 rw[zI,Nat.or_comm,← this];omega
theorem qcG{a:List Int}(h:Wd a)(i:Nat):qd a / 4294967296^i=qd (a.drop i):=by
 by_cases hi:i≤a.length
 · have h1:=yM (a.take i) (a.drop i)
   rw[KC,z8,Vd hi]at h1;rw[h1,VR _ _ (Nat.pow_pos (by omega)),Vn (Qc h i),zr]
 · rw[KU (by omega)]
   have:=Qb a h
   have:qd a<4294967296^i:=Kw this (Ka (by omega) (by omega))
   rw[Vn this];rfl
theorem YW(a:List Int)(i:Nat):qd (a.drop i)=(nth a i).toNat+4294967296*qd (a.drop (i+1)):=by
 unfold nth;by_cases hi:i<a.length
 · rw[Kg hi,zB hi];rfl
 · rw[KU (by omega),KU (by omega),Ki (by omega)];rfl
theorem qpZ{a:List Int}(h:Wd a)(i r:Nat)(hr:r≤32):qd a / 2^r / 4294967296^i % 4294967296=((nth a i).toNat+4294967296*(nth a (i+1)).toNat) / 2^r % 4294967296:=by
 rw[Kl,zI,← Kl,qcG h,YW,YW];generalize qd (a.drop (i+1+1))=z
 have hp:=zQ r;obtain⟨q,hq⟩:∃q,4294967296=2^r*q:=⟨2^(32-r),by rw[← zS,show r+(32-r)=32 by omega]⟩
 have e:(nth a i).toNat+4294967296*((nth a (i+1)).toNat+4294967296*z)=((nth a i).toNat+4294967296*(nth a (i+1)).toNat)+2^r*(4294967296*(q*z)):=by
  rw[Ky,← Kp]
  congr 1
  rw[← zy (2^r),zI (2^r),zy,← zy (2^r),← hq]
 rw[e,VR _ _ hp,Nat.add_mul_mod_self_left]
theorem Wd.drop{a:List Int}(h:Wd a)(i:Nat):Wd (a.drop i):=fun x hx=>h x (KV hx)
theorem qte(q:Nat):Wd [((q % 4294967296:Nat):Int)]:=.cons (by omega) (by omega) .nil
theorem qp0(B k x vo q:Nat)(hv:vo=x % B^k)(hq:x / B^k % B=q):vo+B^k*q=x % B^(k+1):=by
 rw[Nat.mod_pow_succ,hv,hq]
theorem JN(l:List Int)(q:Nat):qd (l++[(q:Int)])=qd l+4294967296^l.length*q:=by
 rw[yM];show qd l+4294967296^l.length*((q:Int).toNat+4294967296*0)=_
 rw[zn,Vz,KN]
theorem qjc(a:List Int)(ha:Wd a)(s:Nat)(hlen:a.length≤549755813887):∀(k i:Nat) (out:List Int),i+k=a.length→out.length=i→Wd out→qd out=qd a / 2^(s % 32) % 4294967296^i →
 ∃out':List Int,out'.length=a.length∧Wd out'∧qd out'=qd a / 2^(s % 32) % 4294967296^a.length ∧
  ∃n,itP n qhB ((s:Int),a,i,(a.length:Int),(i:Int),out.map eW,())=some ((s:Int),a,a.length,(a.length:Int),(a.length:Int),out'.map eW,())
 | 0,i,out,hk,ho,hw,hv=>by
  have:i=a.length:=by omega
  subst this;exact⟨out,ho,hw,hv,J1 (by simp[qhB])⟩
 | k+1,i,out,hk,ho,hw,hv=>by
  obtain⟨x0,x1⟩:=ym ha i;obtain⟨y0,y1⟩:=ym ha (i+1)
  obtain⟨X,hX⟩:∃X:Nat,nth a i=(X:Int):=⟨(nth a i).toNat,by omega⟩
  obtain⟨Y,hY⟩:∃Y:Nat,nth a (i+1)=(Y:Int):=⟨(nth a (i+1)).toNat,by omega⟩
  have hr:s % 32<32:=Va _ (by omega)
  have e1:IntKind.i64.wrap ((i:Int)+1)=((i+1:Nat):Int):=by rw[w64 (by omega) (by omega)];rfl
  have e2:Int.tmod (s:Int) 32=((s % 32:Nat):Int):=by rw[Wc (by omega)];rfl
  have e3:IntKind.u64.wrap ((Y:Int)*2^32)=((Y*4294967296:Nat):Int):=by
   rw[show((Y:Int)*2^32)=((Y*4294967296:Nat):Int) by rw[Vs];rfl];exact yj (by omega) (by omega)
  have e4:jf .or .u64 (X:Int) ((Y*4294967296:Nat):Int)=((X+Y*4294967296:Nat):Int):=by
   rw[qdY (by omega) (by omega)];have:=qeS (x:=X) (y:=Y) (r:=32) (by simp;omega)
   rw[show(2:Nat)^32=4294967296 from rfl]at this;rw[this]
  have e5:Int.fdiv ((X+Y*4294967296:Nat):Int) (2^(min (s % 32) 64))=(((X+Y*4294967296) / 2^(s % 32):Nat):Int):=by
   rw[Vd (VZ (Kw hr (by decide)))];exact Zn _ _
  generalize hQ:(X+Y*4294967296) / 2^(s % 32)=Q at *
  have e6:IntKind.u32.wrap (Q:Int)=((Q % 4294967296:Nat):Int):=by rw[wrap_u32];omega
  have hword:=qpZ ha i (s % 32) (by omega)
  rw[hX,hY]at hword;simp only[zn]at hword;rw[zI 4294967296 Y,hQ]at hword;have hval:qd (out++[((Q % 4294967296:Nat):Int)])=qd a / 2^(s % 32) % 4294967296^(i+1):=by
   rw[JN,ho];exact qp0 _ _ _ _ _ hv hword
  obtain⟨out',h1,h2,h3,h4⟩:=qjc a ha s hlen k (i+1) (out++[((Q % 4294967296:Nat):Int)]) (by omega) (by simp[ho]) (hw.app (qte Q)) hval
  refine⟨out',h1,h2,h3,Ym ?_ h4⟩
  have d1:decide ((i:Int)<(a.length:Int))=true:=zf (by omega)
  have d2:decide ((0:Int)≤((s % 32:Nat):Int))=true:=zf (by omega)
  have hb1:Nat.beq i (out.map eW).length=true:=by rw[zR,ho];exact Vi _
  have hb2:Nat.ble ((out.map eW).length+[eW ((Q % 4294967296:Nat):Int)].length) 549755813888=true:=by
   rw[Wa,zR,ho];simp;omega
  simp only[qhB,d1,zd,e1,QP ha,hX,hY,zk,e2,d2,e3,e4,zn,e5,e6];rw[hb1,hb2];simp[ho]
def quy(p:List Int×Int):Option (List Int):=bif Nat.ble p.1.length 549755813887 then some (ofN (qd p.1 / 2^(max p.2 0).toNat))else none
theorem qvZ(p:List Int×Int)(y:List Int)(hg:(dc (cQ 1 1) (d1 (cI .i64))).good p)(h:quy p=some y):∃n,Shr n p.1 p.2=some y:=by
 obtain⟨a,s⟩:=p;obtain⟨⟨ha,la⟩,hs⟩:=hg;obtain⟨hm,h⟩:=qI h;have:=soi h;subst this
 have hlen:a.length≤549755813887:=zw hm
 have hs':=Jc.1 hs;obtain⟨S,hS⟩:∃S:Nat,max s 0=(S:Int):=⟨(max s 0).toNat,by omega⟩
 have hw:=Wd.of ha;have e1:Int.tdiv (S:Int) 32=((S / 32:Nat):Int):=by rw[Int.tdiv_eq_ediv_of_nonneg (by omega)];rfl
 have e2:IntKind.i64.wrap ((S / 32:Nat):Int)=((S / 32:Nat):Int):=w64 (by omega) (by omega)
 show∃n,Shr n a s=some (ofN (qd a / 2^(max s 0).toNat))
 unfold Shr;rw[hS,e1,e2];simp only[zn];have split:qd a / 2^S=qd (a.drop (S / 32)) / 2^(S % 32):=by
  rw[← qcG hw,qdb,Kl,← zS]
  congr 2;omega
 by_cases hge:a.length≤S / 32
 · refine⟨0,?_⟩
   rw[zf (by omega),zd,split,KU hge];simp[qd,J6]
 · obtain⟨out,h1,h2,h3,n,h4⟩:=qjc (a.drop (S / 32)) (hw.drop _) S (by rw[KG];omega) (a.drop (S / 32)).length 0 [] (by omega) rfl .nil (by simp[qd,Nat.mod_one])
   refine⟨n,?_⟩
   rw[zp (by omega),zo,zf (by omega),zf (by omega),zf (by omega)];have et:a.length-S / 32=(a.drop (S / 32)).length:=by rw[KG]
   have ed:List.take ((a.length:Int)-((S / 32:Nat):Int)).toNat (a.drop (S / 32))=a.drop (S / 32):=zN (by rw[KG];omega)
   rw[Int.natCast_zero]at h4;simp only[Kq,zd,ed];rw[show([]:List T)=([]:List Int).map eW from rfl,h4];have hsb:sub (out.map eW) 0 (a.drop (S / 32)).length=some (out.map eW):=by
    have:=Zk (out.map eW)
    rwa [zR,h1]at this
   simp only[zk,hsb,JM];show some (ofN (qd out))=_
   have hlt:qd (a.drop (S / 32)) / 2^(S % 32)<4294967296^(a.drop (S / 32)).length:=KZ (Vy _ _) (Qb _ (hw.drop _))
   rw[h3,KQ hlt,split]
theorem obB{α β:Type}{o:Option α}{x:α}{f:α→Option β}{r:Option β}(h:o=some x)(k:f x=r):o.bind f=r:=by rw[h];exact k
theorem qlO(Bk Bi B r vo c x va:Nat)(h:vo+c*(Bk*Bi)=va*r*Bk) :
 (vo+Bk*Bi*((c+x*r) % B))+(c+x*r) / B*(Bk*(Bi*B))=(va+Bi*x)*r*Bk:=by
 have:=Nat.mod_add_div (c+x*r) B
 generalize (c+x*r) % B=m at *
 generalize (c+x*r) / B=d at *
 grind
theorem qjd(a:List Int)(ha:Wd a)(s:Nat)(hlen:s / 32+a.length≤549755813887):∀(m i:Nat) (out:List Int) (c:Nat),i+m=a.length→out.length=s / 32+i→Wd out→c<2^(s % 32) →
 qd out+c*(4294967296^(s / 32)*4294967296^i)=qd (a.take i)*2^(s % 32)*4294967296^(s / 32) →
 ∃(out':List Int) (c':Nat),out'.length=s / 32+a.length∧Wd out'∧c'<2^(s % 32)∧qd out'+c'*(4294967296^(s / 32)*4294967296^a.length)=qd a*2^(s % 32)*4294967296^(s / 32) ∧
  ∃n,itP n qhC ((s:Int),s / 32+i,(c:Int),a,(a.length:Int),(i:Int),out.map eW,())=some ((s:Int),s / 32+a.length,(c':Int),a,(a.length:Int),(a.length:Int),out'.map eW,())
 | 0,i,out,c,hk,ho,hw,hc,hv=>by
  have:i=a.length:=by omega
  subst this;rw[zN (zJ _)]at hv;exact⟨out,c,ho,hw,hc,hv,J1 (by simp[qhC])⟩
 | m+1,i,out,c,hk,ho,hw,hc,hv=>by
  have hia:i<a.length:=by omega
  obtain⟨x0,x1⟩:=ym ha i;obtain⟨X,hX⟩:∃X:Nat,nth a i=(X:Int):=⟨(nth a i).toNat,by omega⟩
  have hXl:X<4294967296:=by omega
  have hx:idx a (i:Int)=some (X:Int):=by rw[JG,zB hia,← hX];simp[nth,zB hia]
  have hr:s % 32<32:=Va _ (by omega)
  have hp31:2^(s % 32)≤2147483648:=by
   have:=Ka (n:=2) (by omega) (show s % 32≤31 by omega);simpa using this
  have hvs:=qlO (4294967296^(s / 32)) (4294967296^i) 4294967296 (2^(s % 32)) (qd out) c X (qd (a.take i)) hv
  have hc2:(c+X*2^(s % 32)) / 4294967296<2^(s % 32):=by
   rw[KB (by omega)];have:=zF (2^(s % 32)) (show X≤4294967295 by omega)
   omega
  have e2:Int.tmod (s:Int) 32=((s % 32:Nat):Int):=by rw[Wc (by omega)];rfl
  have e3:IntKind.u64.wrap (IntKind.u64.wrap (X:Int)*2^min (s % 32) 64)=((X*2^(s % 32):Nat):Int):=by
   have ex:IntKind.u64.wrap (X:Int)=(X:Int):=yj (by omega) (by omega)
   rw[Vd (VZ (Kw hr (by decide))),ex];have h1:X*2^(s % 32)≤4294967295*2147483648:=VG (by omega) hp31
   rw[show((X:Int)*2^(s % 32))=((X*2^(s % 32):Nat):Int) by rw[Vs,Int.natCast_pow];rfl];exact yj (by omega) (by omega)
  have e4:jf .or .u64 (c:Int) ((X*2^(s % 32):Nat):Int)=((c+X*2^(s % 32):Nat):Int):=by
   have h1:X*2^(s % 32)≤4294967295*2147483648:=VG (by omega) hp31
   rw[qdY (by omega) (by omega),qeS hc]
  generalize hT:c+X*2^(s % 32)=t at *
  have e5:IntKind.u32.wrap (t:Int)=((t % 4294967296:Nat):Int):=by rw[wrap_u32];omega
  have e6:Int.fdiv (t:Int) (2^32)=((t / 4294967296:Nat):Int):=by
   have:=Zn t 32;rwa [show(2:Nat)^32=4294967296 from rfl]at this
  have e9:IntKind.i64.wrap ((i:Int)+1)=((i+1:Nat):Int):=by rw[w64 (by omega) (by omega)];rfl
  have hvt:qd (a.take (i+1))=qd (a.take i)+4294967296^i*X:=by rw[jL,hX,zn]
  obtain⟨out',c',h1,h2,h3,h4,h5⟩:=qjd a ha s hlen m (i+1) (out++[((t % 4294967296:Nat):Int)]) (t / 4294967296) (by omega) (by simp[ho];omega) (hw.app (qte t)) hc2 (by
   rw[JN,ho,hvt,← hvs,zS,z7])
  refine⟨out',c',h1,h2,h3,h4,Ym ?_ h5⟩
  have d1:decide ((i:Int)<(a.length:Int))=true:=zf (by omega)
  have d2:decide ((0:Int)≤((s % 32:Nat):Int))=true:=zf (by omega)
  have hb1:Nat.beq (s / 32+i) (out.map eW).length=true:=by rw[zR,ho];exact Vi _
  have hb2:Nat.ble ((out.map eW).length+[eW ((t % 4294967296:Nat):Int)].length) 549755813888=true:=by
   rw[Wa,zR,ho];simp;omega
  simp only[qhC,d1,zd,hx,zk,e2,d2,zn,e3,e4,e5,e6,e9];rw[hb1,hb2];simp[ho];omega
def qlP(v s:Nat):List Int×Int:=if v=0 then([],0)else if 65536<qr v+s then([],20)else(ofN (v*2^s),0)
def shlL:{f:Nat→Nat→List Int×Int // ∀v s,f v s=qlP v s}:=Classical.choice ⟨⟨_,fun _ _=>rfl⟩⟩
def qv0(v s:Nat):List Int×Int:=shlL.1 v s
theorem qlQ(v s:Nat):qv0 v s=qlP v s:=shlL.2 v s
def okSL:{f:List Int→Bool // ∀a,f a=Nat.ble a.length 1000000}:=Classical.choice ⟨⟨_,fun _=>rfl⟩⟩
def okS(a:List Int):Bool:=okSL.1 a
theorem qp1(a:List Int):okS a=Nat.ble a.length 1000000:=okSL.2 a
def qeT(p:List Int×Int):Option (List Int×Int):=bif okS p.1 then
 some (qv0 (qd p.1) (max p.2 0).toNat)else none
theorem qv1(p:List Int×Int)(y:List Int×Int)(hg:(dc (cQ 1 1) (d1 (cI .i64))).good p)(h:qeT p=some y):∃n,Shl n p.1 p.2=some y:=by
 obtain⟨a,s⟩:=p;obtain⟨⟨ha,la⟩,hs⟩:=hg;obtain⟨hm,h⟩:=qI h;have:=soi h;subst this
 have hm:okS a=true:=hm
 rw[qp1]at hm;have hlen:a.length≤1000000:=zw hm
 have hs':=Jc.1 hs;obtain⟨S,hS⟩:∃S:Nat,max s 0=(S:Int):=⟨(max s 0).toNat,by omega⟩
 have hw:=Wd.of ha;have hbl:qr (qd a)≤32*a.length:=j4.2 (by rw[← qdb];exact Qb a hw)
 have e0:Len a=some (qr (qd a):Int):=qhA a (by omega)
 show∃n,Shl n a s=some (qv0 (qd a) (max s 0).toNat)
 rw[qlQ];unfold qlP;unfold Shl;rw[hS,e0,zn];simp only[zk];by_cases hz:qd a=0
 · refine⟨0,?_⟩
   rw[zZ hz,hz,show qr 0=0 from rfl];rfl
 · have hb0:qr (qd a)≠0:=fun e=>by
    have:=j4.1 (Nat.le_of_eq e)
    simp at this;omega
   have dz:decide (((qr (qd a):Nat):Int)=0)=false:=zp (by omega)
   have ew:IntKind.i64.wrap (65536-((qr (qd a):Nat):Int))=65536-((qr (qd a):Nat):Int):=w64 (by omega) (by omega)
   rw[zP hz];by_cases hl:65536<qr (qd a)+S
   · refine⟨0,?_⟩
     rw[zZ hl,dz,zo,ew,zf (by omega),zd]
   · have hSl:S≤65536:=by omega
     have e1:Int.tdiv (S:Int) 32=((S / 32:Nat):Int):=by rw[Int.tdiv_eq_ediv_of_nonneg (by omega)];rfl
     have e2:IntKind.i64.wrap ((S / 32:Nat):Int)=((S / 32:Nat):Int):=w64 (by omega) (by omega)
     have e3:IntKind.i64.wrap (((S / 32:Nat):Int)+(a.length:Int))=((S / 32+a.length:Nat):Int):=by rw[w64 (by omega) (by omega)];rfl
     have e4:IntKind.i64.wrap (((S / 32+a.length:Nat):Int)+1)=((S / 32+a.length+1:Nat):Int):=by rw[w64 (by omega) (by omega)];rfl
     obtain⟨out,c,h1,h2,h3,h4,n,h5⟩:=qjd a hw S (by omega) a.length 0 (List.replicate (S / 32) 0) 0 (by omega) (by simp) (fun x hx=>by
      have:=(K9.1 hx).2;subst this;exact⟨Int.le_refl _,by decide⟩) (zQ _) (by simp[Zm,qd])
     refine⟨n,?_⟩
     rw[zP hl,dz,zo,ew,zp (by omega),zo];rw[e1,e2,e3,e4,zf (show(0:Int)≤((S / 32:Nat):Int) by omega),zf (show((S / 32:Nat):Int)≤((S / 32+a.length+1:Nat):Int) by omega),zf (show((S / 32+a.length+1:Nat):Int)≤549755813888 by omega)];simp only[Kq,zd,zn];rw[VM,KN]at h5;refine obB h5 ?_
     have hcl:c<4294967296:=by
      have:=Ka (n:=2) (by omega) (show S % 32≤31 by omega);simp at this;omega
     have e5:IntKind.u32.wrap (c:Int)=(c:Int):=qiR (by omega) (by omega)
     have hb1:Nat.beq (S / 32+a.length) (out.map eW).length=true:=by rw[zR,h1];exact Vi _
     have hb2:Nat.ble ((out.map eW).length+[eW (c:Int)].length) 549755813888=true:=by
      rw[Wa,zR,h1];simp;omega
     have em:out.map eW++[T.s (.int .u32 (c:Int))]=(out++[(c:Int)]).map eW:=by rw[Kt];rfl
     simp only[e5];rw[hb1,hb2,em,Zk];simp only[Kq,zd,zk,JM];show some (ofN (qd (out++[(c:Int)])),(0:Int))=_
     rw[JN,h1,zI _ c,zS,h4,show 2^S=2^(S % 32)*4294967296^(S / 32) by rw[qdb,← zS];congr 1;omega,zy]
end
end Su
end
section
namespace Su
open Go Fly
noncomputable section
def Zo:Stp ((List Int)×Int×Nat×Int×Int×(List T)×Unit):=fun p0=>(bif(decide (p0.2.2.2.2.1<p0.2.2.2.1))then
 (At p0.1 p0.2.2.2.2.1).bind fun x1=>
 (bif(decide (0≤p0.2.1))then
 (bif(decide (0<p0.2.2.2.2.1))then
 (At p0.1 (IntKind.wrap .i64 (p0.2.2.2.2.1-1))).bind fun x2=>
 (bif(decide (0≤p0.2.1))then
 (bif((true&&(decide (0≤p0.2.2.2.2.1)))&&(decide (p0.2.2.2.2.1<(p0.2.2.1:Int))))then
 ((p0.2.2.2.2.2.1)[(0+p0.2.2.2.2.1.toNat)]?).bind fun x3=>
 (asI .u32 (.t x3)).bind fun x4=>
 some (.inl (p0.1,p0.2.1,p0.2.2.1,p0.2.2.2.1,(IntKind.wrap .i64 (p0.2.2.2.2.1+1)),(List.set p0.2.2.2.2.2.1 (0+p0.2.2.2.2.1.toNat) (T.s (.int .u32 (IntKind.wrap .u32 (Fly.jf Go.BinOp.or .u64 (IntKind.wrap .u64 (x1*(2^(min p0.2.1.toNat 64)))) (Int.fdiv (IntKind.wrap .u64 (x2*(2^(min p0.2.1.toNat 64)))) (2^32))))))),()))
 else none)
 else none)
 else
  (bif((true&&(decide (0≤p0.2.2.2.2.1)))&&(decide (p0.2.2.2.2.1<(p0.2.2.1:Int))))then
  ((p0.2.2.2.2.2.1)[(0+p0.2.2.2.2.1.toNat)]?).bind fun x5=>
  (asI .u32 (.t x5)).bind fun x6=>
  some (.inl (p0.1,p0.2.1,p0.2.2.1,p0.2.2.2.1,(IntKind.wrap .i64 (p0.2.2.2.2.1+1)),(List.set p0.2.2.2.2.2.1 (0+p0.2.2.2.2.1.toNat) (T.s (.int .u32 (IntKind.wrap .u32 (IntKind.wrap .u64 (x1*(2^(min p0.2.1.toNat 64)))))))),()))
 else none))
 else none)
 else
  some (.inr (p0.1,p0.2.1,p0.2.2.1,p0.2.2.2.1,p0.2.2.2.2.1,p0.2.2.2.2.2.1,())))
theorem subw{X Y r:Nat}(hX:X<4294967296)(hY:Y<4294967296)(hr:r≤1):∃z r':Nat,z<4294967296∧r'≤1∧z+Y+r=X+r'*4294967296 ∧
 IntKind.u32.wrap (IntKind.u64.wrap (IntKind.u64.wrap ((X:Int)-(Y:Int))-(r:Int)))=(z:Int)∧Int.fdiv (IntKind.u64.wrap (IntKind.u64.wrap ((X:Int)-(Y:Int))-(r:Int))) (2^63)=(r':Int):=by
 rw[wrap_u32,wrap_u64,wrap_u64,Ve _ (by decide),show(2:Int)^63=9223372036854775808 from rfl];by_cases h:Y+r≤X
 · exact⟨X-(Y+r),0,by omega,by omega,by omega,by omega,by omega⟩
 · exact⟨X+4294967296-(Y+r),1,by omega,by omega,by omega,by omega,by omega⟩
theorem qnx(b:List Int)(h:Wd b)(n:Nat)(hn:qd b<4294967296^n):qd (b.take n)=qd b:=by
 by_cases hl:n≤b.length
 · have h1:=yM (b.take n) (b.drop n)
   rw[KC,z8,Vd hl,← qcG h,Vn hn,Vz,KN]at h1;exact h1.symm
 · rw[zN (by omega)]
theorem qtf(a b:Nat):decide (yZ a b<0)=decide (a<b):=by
 unfold yZ;by_cases h:a<b
 · rw[zZ h,zf h];rfl
 · rw[zP h,zp h]
   by_cases h2:a=b
   · rw[zZ h2];rfl
   · rw[zP h2];rfl
def qje:Nat→Nat→List Int
 | 0,_=>[]
 | k+1,v=>((v % 4294967296:Nat):Int)::qje k (v / 4294967296)
theorem qjf:∀(k v:Nat),(qje k v).length=k
 | 0,_=>rfl
 | k+1,v=>by rw[qje,zm,qjf k]
theorem qlR:∀(k v:Nat),Wd (qje k v)
 | 0,_=>.nil
 | k+1,v=>.cons (by omega) (by omega) (qlR k _)
theorem qp2(k v:Nat):qd (qje k v)=v % 4294967296^k:=by
 induction k generalizing v with
 | zero=>simp[qje,qd,Nat.mod_one]
 | succ k ih=>
  have h1:=Nat.mod_mul (x:=v) (a:=4294967296) (b:=4294967296^k)
  rw[z7,zI (4294967296^k),h1];simp only[qje,qd,ih];rw[zn]
theorem qp3{c x r:Nat}(hr:r≤32)(hc:c<2^r):(c+x*2^r) / 4294967296=x*2^r / 4294967296:=by
 have e:4294967296=2^r*2^(32-r):=by rw[← zS,show r+(32-r)=32 by omega]
 rw[e,← Kl,← Kl,Nat.add_mul_div_right _ _ (zQ r),Vn hc,Nat.mul_div_cancel _ (zQ r),zr]
theorem qtg(o:List Int)(k:Nat)(y:Int):((o++List.replicate (k+1) 0).map eW).set o.length (eW y)=((o++[y])++List.replicate k 0).map eW:=by
 rw[Kt,List.set_append,zP (by simp),zR,Wm,VW,KD,Wv,Kt,Kt,zG];rfl
theorem qjg(a:List Int)(ha:Wd a)(r:Nat)(hr:r<32)(size:Nat)(hN:size≤549755813887):∀(k i:Nat) (o:List Int) (c:Nat),i+k=size→o.length=i→Wd o→c<2^r →
 (i=0→c=0)→(∀j,i=j+1→c=(nth a j).toNat*2^r / 4294967296)→qd o+c*4294967296^i=qd (a.take i)*2^r →
 ∃(o':List Int) (c':Nat),o'.length=size∧Wd o'∧qd o'+c'*4294967296^size=qd (a.take size)*2^r ∧
  ∃n,itP n Zo (a,(r:Int),size,(size:Int),(i:Int),(o++List.replicate k 0).map eW,())=some (a,(r:Int),size,(size:Int),(size:Int),o'.map eW,())
 | 0,i,o,c,hk,ho,hw,hc,_,_,hv=>by
  have:i=size:=by omega
  subst this;refine⟨o,c,ho,hw,hv,J1 ?_⟩
  rw[List.replicate_zero,Kh];simp[Zo]
 | k+1,i,o,c,hk,ho,hw,hc,hc0,hcs,hv=>by
  obtain⟨x0,x1⟩:=ym ha i;obtain⟨X,hX⟩:∃X:Nat,nth a i=(X:Int):=⟨(nth a i).toNat,by omega⟩
  have hXl:X<4294967296:=by omega
  have hp31:2^r≤2147483648:=by
   have:=Ka (n:=2) (by omega) (show r≤31 by omega);simpa using this
  have hxl:X*2^r≤4294967295*2147483648:=VG (by omega) hp31
  have hvs:=qlO 1 (4294967296^i) 4294967296 (2^r) (qd o) c X (qd (a.take i)) (by rw[KO,KW];exact hv)
  rw[qp3 (by omega) hc,KO,KO,KW]at hvs;have hmin:min r 64=r:=by omega
  have em:∀Z:Nat,Z<4294967296→IntKind.u64.wrap ((Z:Int)*2^min r 64)=((Z*2^r:Nat):Int):=fun Z hZ=>by
   have h1:Z*2^r≤4294967295*2147483648:=VG (by omega) hp31
   rw[hmin,show((Z:Int)*2^r)=((Z*2^r:Nat):Int) by rw[Vs,Int.natCast_pow];rfl];exact yj (by omega) (by omega)
  have hvt:qd (a.take (i+1))=qd (a.take i)+4294967296^i*X:=by rw[jL,hX,zn]
  have e9:IntKind.i64.wrap ((i:Int)+1)=((i+1:Nat):Int):=by rw[w64 (by omega) (by omega)];rfl
  have hc2:X*2^r / 4294967296<2^r:=by
   rw[KB (by omega)];have:=zF (2^r) (show X≤4294967295 by omega)
   have:=zQ r
   omega
  obtain⟨o',c',h1,h2,h4,h5⟩:=qjg a ha r hr size hN k (i+1) (o++[(((c+X*2^r) % 4294967296:Nat):Int)]) (X*2^r / 4294967296) (by omega) (by simp[ho]) (hw.app (qte _)) hc2 (fun h=>by omega)
   (fun j hj=>by(have:j=i:=(by omega));subst this;rw[hX,zn]) (by rw[JN,ho,hvt,← hvs,z7])
  refine⟨o',c',h1,h2,h4,Ym ?_ h5⟩
  have d1:decide ((i:Int)<(size:Int))=true:=zf (by omega)
  have d2:decide ((0:Int)≤(r:Int))=true:=zf (by omega)
  have d3:decide ((0:Int)≤(i:Int))=true:=zf (by omega)
  have hget:((o++List.replicate (k+1) 0).map eW)[i]?=some (eW 0):=by
   rw[Kt,Kj (by simp[ho]),zR,ho,Wm];rfl
  have hset:=qtg o k (((c+X*2^r) % 4294967296:Nat):Int)
  rw[ho]at hset;have ewrap:∀t:Nat,IntKind.u32.wrap (t:Int)=((t % 4294967296:Nat):Int):=fun t=>by rw[wrap_u32];omega
  simp only[Zo,d1,zd,QP ha,hX,zk,d2,d3,zn,em X hXl,Kq,Vf,zr,hget,QQ,e9];by_cases hi0:i=0
  · subst hi0
    obtain rfl:c=0:=hc0 rfl
    have d4:decide ((0:Int)<((0:Nat):Int))=false:=rfl
    rw[d4,zo,ewrap];simp only[zr]at hset ⊢;rw[show T.s (.int .u32 ((X*2^r % 4294967296:Nat):Int))=eW ((X*2^r % 4294967296:Nat):Int) from rfl,hset]
  · obtain⟨j,rfl⟩:∃j,i=j+1:=⟨i-1,by omega⟩
    have hcj:=hcs j rfl;obtain⟨y0,y1⟩:=ym ha j;obtain⟨Y,hY⟩:∃Y:Nat,nth a j=(Y:Int):=⟨(nth a j).toNat,by omega⟩
    rw[hY,zn]at hcj;have d4:decide ((0:Int)<((j+1:Nat):Int))=true:=zf (by omega)
    have e5:IntKind.i64.wrap (((j+1:Nat):Int)-1)=(j:Int):=by rw[w64 (by omega) (by omega)];omega
    have e6:Int.fdiv ((Y*2^r:Nat):Int) (2^32)=(c:Int):=by
     have:=Zn (Y*2^r) 32;rw[show(2:Nat)^32=4294967296 from rfl]at this;rw[this,hcj]
    have e7:jf .or .u64 ((X*2^r:Nat):Int) (c:Int)=((c+X*2^r:Nat):Int):=by
     rw[qdY (by omega) (by omega),Nat.or_comm,qeS hc]
    rw[d4,zd,e5,QP ha,hY,zk,em Y (by omega),e6,e7,ewrap];rw[show T.s (.int .u32 (((c+X*2^r) % 4294967296:Nat):Int))=eW (((c+X*2^r) % 4294967296:Nat):Int) from rfl,hset]
end
end Su
end
section
namespace Su
open Go Fly
def qkD(l:List Int):Bool:=Nat.ble l.length 549755813888
def qdJ(l:List Int):Option (List Int):=bif qkD l then some l else none
def Yp(p:List Int×Int):Option (List Int×List Int):=bif decide (0<p.2)&&qkD p.1 then some (ofN (qd p.1 / p.2.toNat),ofN (qd p.1 % p.2.toNat))else none
end Su
end
section
namespace Su
theorem qp4{B P f d2 top n2 D N Dr Nr:Nat}(hD:D=(f*B+d2)*P+Dr)(hN:N=(top*B+n2)*P+Nr)(hNr:Nr<P)(hn2:n2<B)(hf:0<f):N<(top / f+1)*D:=by
 have h1:top+1≤(top / f+1)*f:=by
  have:=K8 top f
  have h2:=Va top hf;rw[zV,KO,zI];omega
 have h2:top*B+n2+1≤(top / f+1)*(f*B+d2):=by
  have h3:=zF B h1;rw[zV,KO]at h3;have h4:(top / f+1)*(f*B+d2)=(top / f+1)*f*B+(top / f+1)*d2:=by rw[Ky,zy]
  rw[h4];omega
 have h3:N<(top*B+n2+1)*P:=by rw[hN,zV (top*B+n2) 1 P,KO];omega
 have h4:(top*B+n2+1)*P≤(top / f+1)*(f*B+d2)*P:=zF P h2
 have h5:(top / f+1)*(f*B+d2)*P≤(top / f+1)*D:=by
  rw[zy,hD];exact zX _ (Nat.le_add_right _ _)
 omega
theorem qth{B P f d2 top n2 D N Dr Nr g left:Nat}(hD:D=(f*B+d2)*P+Dr)(hN:N=(top*B+n2)*P+Nr)(hNr:Nr<P)(hl:g*f+left=top)
 (ht:left*B+n2<g*d2):N<g*D:=by
 have h2:top*B+n2+1≤g*(f*B+d2):=by
  have h4:g*(f*B+d2)=g*f*B+g*d2:=by rw[Ky,zy]
  rw[h4,← hl,zV];omega
 have h3:N<(top*B+n2+1)*P:=by rw[hN,zV (top*B+n2) 1 P,KO];omega
 have h4:(top*B+n2+1)*P≤g*(f*B+d2)*P:=zF P h2
 have h5:g*(f*B+d2)*P≤g*D:=by
  rw[zy,hD];exact zX _ (Nat.le_add_right _ _)
 omega
theorem qv2{B P f d2 top n2 D N Dr Nr g left:Nat}(hD:D=(f*B+d2)*P+Dr)(hN:N=(top*B+n2)*P+Nr)(hDr:Dr<P)(hl:g*f+left=top)(hf:0<f)(hB:0<B)(hg:g≤B)
 (ht:g*d2≤left*B+n2):g*D<N+D:=by
 have h2:g*(f*B+d2)≤top*B+n2:=by
  have h4:g*(f*B+d2)=g*f*B+g*d2:=by rw[Ky,zy]
  rw[h4,← hl,zV];omega
 have h3:g*(f*B+d2)*P≤(top*B+n2)*P:=zF P h2
 have h4:g*D=g*(f*B+d2)*P+g*Dr:=by rw[hD,Ky,zy]
 have h5:g*Dr≤B*Dr:=zF _ hg
 have h6:B*Dr+B≤B*P:=by
  have:=zX B (show Dr+1≤P by omega)
  rwa [Ky,KW]at this
 have h7:B*P≤D:=by
  have:1*(B*P)≤f*(B*P):=zF _ hf
  rw[hD,zV,zy];omega
 omega
theorem qp5{B P f d2 top n2 D N Dr Nr:Nat}(hD:D=(B*f+d2)*P+Dr)(hN:N=(B*top+n2)*P+Nr)(hNr:Nr<P)(hn2:n2<B)(hf:0<f):N<(top / f+1)*D :=
 qp4 (B:=B) (by rw[zI f B];exact hD) (by rw[zI top B];exact hN) hNr hn2 hf
theorem qti{B P f d2 top n2 D N Dr Nr g left:Nat}(hD:D=(B*f+d2)*P+Dr)(hN:N=(B*top+n2)*P+Nr)(hNr:Nr<P)(hl:g*f+left=top)(ht:B*left+n2<g*d2):N<g*D :=
 qth (B:=B) (by rw[zI f B];exact hD) (by rw[zI top B];exact hN) hNr hl (by rw[zI left B];exact ht)
theorem qv3{B P f d2 top n2 D N Dr Nr g left:Nat}(hD:D=(B*f+d2)*P+Dr)(hN:N=(B*top+n2)*P+Nr)(hDr:Dr<P)(hl:g*f+left=top)(hf:0<f)(hB:0<B)(hg:g≤B)(ht:g*d2≤B*left+n2):g*D<N+D :=
 qv2 (B:=B) (by rw[zI f B];exact hD) (by rw[zI top B];exact hN) hDr hl hf hB hg (by rw[zI left B];exact ht)
theorem qtj{D N g:Nat}(h1:N<(g+1)*D)(h2:g*D<N+D):(g*D≤N→N / D=g∧N % D=N-g*D)∧(N<g*D→N / D+1=g∧N % D+g*D=N+D):=by
 have hD:0<D:=by
  cases D with
  | zero=>omega
  | succ=>omega
 refine⟨fun h=>?_,fun h=>?_⟩
 · have hq:N / D=g:=by
    refine Nat.le_antisymm (Nat.lt_succ_iff.1 ((KB hD).2 h1)) ((WH hD).2 h)
   have:=K8 N D
   rw[hq,zI]at this;exact⟨hq,by omega⟩
 · cases g with
   | zero=>omega
   | succ g=>
    rw[zV,KO]at h h2;have hq:N / D=g:=by
     refine Nat.le_antisymm (Nat.lt_succ_iff.1 ((KB hD).2 (by rw[Nat.succ_mul];exact h))) ((WH hD).2 (by omega))
    have:=K8 N D
    rw[hq,zI]at this;rw[zV,KO];exact⟨by rw[hq],by omega⟩
end Su
end
