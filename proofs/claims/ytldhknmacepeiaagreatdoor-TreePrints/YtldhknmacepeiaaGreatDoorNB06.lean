/-
  What functions compute.
-/
import Derived.Test.YtldhknmacepeiaaGreatDoorNB02
set_option linter.unusedVariables false
set_option linter.unusedSimpArgs false
set_option maxRecDepth 10000
section
namespace Su
open Go Fly
noncomputable section
def qh1:Stp (Int×(List Int)×Nat×Int×Int×(List T)×Unit):=fun p0=>(bif(decide (p0.2.2.2.2.1<p0.2.2.2.1))then
 (At p0.2.1 p0.2.2.2.2.1).bind fun x1=>
 (At p0.2.1 (IntKind.wrap .i64 (p0.2.2.2.2.1+1))).bind fun x2=>
 (bif(decide (0≤(Int.tmod p0.1 32)))then
 (bif((true&&(Nat.beq p0.2.2.1 p0.2.2.2.2.2.1.length))&&(Nat.ble (p0.2.2.2.2.2.1.length+(List.length [(T.s (.int .u32 (IntKind.wrap .u32 (Int.fdiv (Fly.jj Go.BinOp.or .u64 x1 (IntKind.wrap .u64 (x2*(2^32)))) (2^(min (Int.toNat (Int.tmod p0.1 32)) 64))))))])) 549755813888))then
 some (.inl (p0.1,p0.2.1,(List.length (p0.2.2.2.2.2.1++[(T.s (.int .u32 (IntKind.wrap .u32 (Int.fdiv (Fly.jj Go.BinOp.or .u64 x1 (IntKind.wrap .u64 (x2*(2^32)))) (2^(min (Int.toNat (Int.tmod p0.1 32)) 64))))))])),p0.2.2.2.1,(IntKind.wrap .i64 (p0.2.2.2.2.1+1)),(p0.2.2.2.2.2.1++[(T.s (.int .u32 (IntKind.wrap .u32 (Int.fdiv (Fly.jj Go.BinOp.or .u64 x1 (IntKind.wrap .u64 (x2*(2^32)))) (2^(min (Int.toNat (Int.tmod p0.1 32)) 64))))))]),()))
 else none)
 else none)
 else
  some (.inr (p0.1,p0.2.1,p0.2.2.1,p0.2.2.2.1,p0.2.2.2.2.1,p0.2.2.2.2.2.1,())))
def Shr  (fu:Nat)(a:(List Int))(sh:Int):Option (List Int) :=
 (bif(decide ((List.length a:Int)≤(IntKind.wrap .i64 (Int.tdiv (max sh 0) 32))))then
 some []
 else
  (bif(true&&(((decide (0≤(IntKind.wrap .i64 (Int.tdiv (max sh 0) 32))))&&(decide ((IntKind.wrap .i64 (Int.tdiv (max sh 0) 32))≤(List.length a:Int))))&&(decide ((List.length a:Int)≤(List.length a:Int)))))then
  (itP fu (qh1) ((max sh 0),(List.take (Int.toNat ((List.length a:Int)-(IntKind.wrap .i64 (Int.tdiv (max sh 0) 32)))) (List.drop (Int.toNat (IntKind.wrap .i64 (Int.tdiv (max sh 0) 32))) a)),0,(((List.length (List.take (Int.toNat ((List.length a:Int)-(IntKind.wrap .i64 (Int.tdiv (max sh 0) 32)))) (List.drop (Int.toNat (IntKind.wrap .i64 (Int.tdiv (max sh 0) 32))) a))):Nat):Int),(0:Int),[],())).bind fun x3=>
  (Su.sub x3.2.2.2.2.2.1 0 x3.2.2.1).bind fun x4=>
  (Su.sub x3.2.2.2.2.2.1 0 x3.2.2.1).bind fun x5=>
  (Su.sub x3.2.2.2.2.2.1 0 x3.2.2.1).bind fun x6=>
  ((yC 1 x4).bind fun x7=>
  some (ofN (qk x7))).bind fun x8=>
  some x8
 else none))
def qh2:Stp (Int×Nat×Int×(List Int)×Int×Int×(List T)×Unit):=fun p1=>(bif(decide (p1.2.2.2.2.2.1<p1.2.2.2.2.1))then
 (idx p1.2.2.2.1 p1.2.2.2.2.2.1).bind fun x2=>
 (bif(decide (0≤(Int.tmod p1.1 32)))then
 (bif((true&&(Nat.beq p1.2.1 p1.2.2.2.2.2.2.1.length))&&(Nat.ble (p1.2.2.2.2.2.2.1.length+(List.length [(T.s (.int .u32 (IntKind.wrap .u32 (Fly.jj Go.BinOp.or .u64 p1.2.2.1 (IntKind.wrap .u64 ((IntKind.wrap .u64 x2)*(2^(min (Int.toNat (Int.tmod p1.1 32)) 64))))))))])) 549755813888))then
 some (.inl (p1.1,(List.length (p1.2.2.2.2.2.2.1++[(T.s (.int .u32 (IntKind.wrap .u32 (Fly.jj Go.BinOp.or .u64 p1.2.2.1 (IntKind.wrap .u64 ((IntKind.wrap .u64 x2)*(2^(min (Int.toNat (Int.tmod p1.1 32)) 64))))))))])),(Int.fdiv (Fly.jj Go.BinOp.or .u64 p1.2.2.1 (IntKind.wrap .u64 ((IntKind.wrap .u64 x2)*(2^(min (Int.toNat (Int.tmod p1.1 32)) 64))))) (2^32)),p1.2.2.2.1,p1.2.2.2.2.1,(IntKind.wrap .i64 (p1.2.2.2.2.2.1+1)),(p1.2.2.2.2.2.2.1++[(T.s (.int .u32 (IntKind.wrap .u32 (Fly.jj Go.BinOp.or .u64 p1.2.2.1 (IntKind.wrap .u64 ((IntKind.wrap .u64 x2)*(2^(min (Int.toNat (Int.tmod p1.1 32)) 64))))))))]),()))
 else none)
 else none)
 else
  some (.inr (p1.1,p1.2.1,p1.2.2.1,p1.2.2.2.1,p1.2.2.2.2.1,p1.2.2.2.2.2.1,p1.2.2.2.2.2.2.1,())))
def Shl  (fu:Nat)(a:(List Int))(sh:Int):Option ((List Int)×Int) :=
 (Len a).bind fun x0=>
 (bif(decide (x0=0))then
 some ([],(0:Int))
 else
  (bif(decide ((IntKind.wrap .i64 (65536-x0))<(max sh 0)))then
  some ([],(20:Int))
 else
  (bif(((true&&(decide (0≤(IntKind.wrap .i64 (Int.tdiv (max sh 0) 32)))))&&(decide ((IntKind.wrap .i64 (Int.tdiv (max sh 0) 32))≤(IntKind.wrap .i64 ((IntKind.wrap .i64 ((IntKind.wrap .i64 (Int.tdiv (max sh 0) 32))+(List.length a:Int)))+1)))))&&(decide ((IntKind.wrap .i64 ((IntKind.wrap .i64 ((IntKind.wrap .i64 (Int.tdiv (max sh 0) 32))+(List.length a:Int)))+1))≤549755813888)))then
  (itP fu (qh2) ((max sh 0),(Int.toNat (IntKind.wrap .i64 (Int.tdiv (max sh 0) 32))),(0:Int),a,(List.length a:Int),(0:Int),(List.replicate (Int.toNat (IntKind.wrap .i64 (Int.tdiv (max sh 0) 32))) (T.s (.int .u32 0))),())).bind fun x3=>
  (bif((true&&(Nat.beq x3.2.1 x3.2.2.2.2.2.2.1.length))&&(Nat.ble (x3.2.2.2.2.2.2.1.length+(List.length [(T.s (.int .u32 (IntKind.wrap .u32 x3.2.2.1)))])) 549755813888))then
  (Su.sub (x3.2.2.2.2.2.2.1++[(T.s (.int .u32 (IntKind.wrap .u32 x3.2.2.1)))]) 0 (List.length (x3.2.2.2.2.2.2.1++[(T.s (.int .u32 (IntKind.wrap .u32 x3.2.2.1)))]))).bind fun x4=>
  (Su.sub (x3.2.2.2.2.2.2.1++[(T.s (.int .u32 (IntKind.wrap .u32 x3.2.2.1)))]) 0 (List.length (x3.2.2.2.2.2.2.1++[(T.s (.int .u32 (IntKind.wrap .u32 x3.2.2.1)))]))).bind fun x5=>
  ((yC 1 x4).bind fun x6=>
  some (ofN (qk x6))).bind fun x7=>
  some (x7,(0:Int))
 else none)
 else none)))
theorem Zu(y k:Nat):Int.fdiv (y:Int) (2^k)=((y / 2^k:Nat):Int):=by
 have h0:(0:Int)≤(2:Int)^k:=Int.pow_nonneg (by decide)
 rw[Vh _ h0];simp
theorem qfb{x y r:Nat}(hr:x<2^r):x ||| y*2^r=x+y*2^r:=by
 have:=Nat.two_pow_add_eq_or_of_lt hr y
 rw[zL,Nat.or_comm,← this];omega
theorem qcM{a:List Int}(h:Wd a)(i:Nat):qk a / 4294967296^i=qk (a.drop i):=by
 by_cases hi:i≤a.length
 · have h1:=yV (a.take i) (a.drop i)
   rw[Kw,Ka,Vg hi]at h1;rw[h1,VZ _ _ (Nat.pow_pos (by omega)),Vo (Qv h i),zt]
 · rw[KW (by omega)]
   have:=Qu a h
   have:qk a<4294967296^i:=Kv this (Kg (by omega) (by omega))
   rw[Vo this];rfl
theorem Y4(a:List Int)(i:Nat):qk (a.drop i)=(nth a i).toNat+4294967296*qk (a.drop (i+1)):=by
 unfold nth;by_cases hi:i<a.length
 · rw[Kj hi,zA hi];rfl
 · rw[KW (by omega),KW (by omega),Kk (by omega)];rfl
theorem qqE{a:List Int}(h:Wd a)(i r:Nat)(hr:r≤32):qk a / 2^r / 4294967296^i % 4294967296=((nth a i).toNat+4294967296*(nth a (i+1)).toNat) / 2^r % 4294967296:=by
 rw[Kq,zL,← Kq,qcM h,Y4,Y4];generalize qk (a.drop (i+1+1))=z
 have hp:=zU r;obtain⟨q,hq⟩:∃q,4294967296=2^r*q:=⟨2^(32-r),by rw[← zW,show r+(32-r)=32 by omega]⟩
 have e:(nth a i).toNat+4294967296*((nth a (i+1)).toNat+4294967296*z)=((nth a i).toNat+4294967296*(nth a (i+1)).toNat)+2^r*(4294967296*(q*z)):=by
  rw[KB,← Kp]
  congr 1
  rw[← zB (2^r),zL (2^r),zB,← zB (2^r),← hq]
 rw[e,VZ _ _ hp,Nat.add_mul_mod_self_left]
theorem Wd.drop{a:List Int}(h:Wd a)(i:Nat):Wd (a.drop i):=fun x hx=>h x (KY hx)
theorem qt4(q:Nat):Wd [((q % 4294967296:Nat):Int)]:=.cons (by omega) (by omega) .nil
theorem qqF(B k x vo q:Nat)(hv:vo=x % B^k)(hq:x / B^k % B=q):vo+B^k*q=x % B^(k+1):=by
 rw[Nat.mod_pow_succ,hv,hq]
theorem JV(l:List Int)(q:Nat):qk (l++[(q:Int)])=qk l+4294967296^l.length*q:=by
 rw[yV];show qk l+4294967296^l.length*((q:Int).toNat+4294967296*0)=_
 rw[zn,VE,KQ]
theorem qjE(a:List Int)(ha:Wd a)(s:Nat)(hlen:a.length≤549755813887):∀(k i:Nat) (out:List Int),i+k=a.length→out.length=i→Wd out→qk out=qk a / 2^(s % 32) % 4294967296^i →
 ∃out':List Int,out'.length=a.length∧Wd out'∧qk out'=qk a / 2^(s % 32) % 4294967296^a.length ∧
  ∃n,itP n qh1 ((s:Int),a,i,(a.length:Int),(i:Int),out.map eW,())=some ((s:Int),a,a.length,(a.length:Int),(a.length:Int),out'.map eW,())
 | 0,i,out,hk,ho,hw,hv=>by
  have:i=a.length:=by omega
  subst this;exact⟨out,ho,hw,hv,J9 (by simp[qh1])⟩
 | k+1,i,out,hk,ho,hw,hv=>by
  obtain⟨x0,x1⟩:=yz ha i;obtain⟨y0,y1⟩:=yz ha (i+1)
  obtain⟨X,hX⟩:∃X:Nat,nth a i=(X:Int):=⟨(nth a i).toNat,by omega⟩
  obtain⟨Y,hY⟩:∃Y:Nat,nth a (i+1)=(Y:Int):=⟨(nth a (i+1)).toNat,by omega⟩
  have hr:s % 32<32:=Vd _ (by omega)
  have e1:IntKind.i64.wrap ((i:Int)+1)=((i+1:Nat):Int):=by rw[w64 (by omega) (by omega)];rfl
  have e2:Int.tmod (s:Int) 32=((s % 32:Nat):Int):=by rw[Wl (by omega)];rfl
  have e3:IntKind.u64.wrap ((Y:Int)*2^32)=((Y*4294967296:Nat):Int):=by
   rw[show((Y:Int)*2^32)=((Y*4294967296:Nat):Int) by rw[Vw];rfl];exact yd (by omega) (by omega)
  have e4:jj .or .u64 (X:Int) ((Y*4294967296:Nat):Int)=((X+Y*4294967296:Nat):Int):=by
   rw[qd8 (by omega) (by omega)];have:=qfb (x:=X) (y:=Y) (r:=32) (by simp;omega)
   rw[show(2:Nat)^32=4294967296 from rfl]at this;rw[this]
  have e5:Int.fdiv ((X+Y*4294967296:Nat):Int) (2^(min (s % 32) 64))=(((X+Y*4294967296) / 2^(s % 32):Nat):Int):=by
   rw[Vg (Wg (Kv hr (by decide)))];exact Zu _ _
  generalize hQ:(X+Y*4294967296) / 2^(s % 32)=Q at *
  have e6:IntKind.u32.wrap (Q:Int)=((Q % 4294967296:Nat):Int):=by rw[wrap_u32];omega
  have hword:=qqE ha i (s % 32) (by omega)
  rw[hX,hY]at hword;simp only[zn]at hword;rw[zL 4294967296 Y,hQ]at hword;have hval:qk (out++[((Q % 4294967296:Nat):Int)])=qk a / 2^(s % 32) % 4294967296^(i+1):=by
   rw[JV,ho];exact qqF _ _ _ _ _ hv hword
  obtain⟨out',h1,h2,h3,h4⟩:=qjE a ha s hlen k (i+1) (out++[((Q % 4294967296:Nat):Int)]) (by omega) (by simp[ho]) (hw.app (qt4 Q)) hval
  refine⟨out',h1,h2,h3,Yx ?_ h4⟩
  have d1:decide ((i:Int)<(a.length:Int))=true:=zh (by omega)
  have d2:decide ((0:Int)≤((s % 32:Nat):Int))=true:=zh (by omega)
  have hb1:Nat.beq i (out.map eW).length=true:=by rw[zV,ho];exact Vk _
  have hb2:Nat.ble ((out.map eW).length+[eW ((Q % 4294967296:Nat):Int)].length) 549755813888=true:=by
   rw[Wj,zV,ho];simp;omega
  simp only[qh1,d1,zg,e1,Q1 ha,hX,hY,zm,e2,d2,e3,e4,zn,e5,e6];rw[hb1,hb2];simp[ho]
def qvs(p:List Int×Int):Option (List Int):=bif Nat.ble p.1.length 549755813887 then some (ofN (qk p.1 / 2^(max p.2 0).toNat))else none
theorem qw5(p:List Int×Int)(y:List Int)(hg:(dc (cQ 1 1) (d1 (cI .i64))).good p)(h:qvs p=some y):∃n,Shr n p.1 p.2=some y:=by
 obtain⟨a,s⟩:=p;obtain⟨⟨ha,la⟩,hs⟩:=hg;obtain⟨hm,h⟩:=qL h;have:=soi h;subst this
 have hlen:a.length≤549755813887:=zx hm
 have hs':=QX.1 hs;obtain⟨S,hS⟩:∃S:Nat,max s 0=(S:Int):=⟨(max s 0).toNat,by omega⟩
 have hw:=Wd.of ha;have e1:Int.tdiv (S:Int) 32=((S / 32:Nat):Int):=by rw[Int.tdiv_eq_ediv_of_nonneg (by omega)];rfl
 have e2:IntKind.i64.wrap ((S / 32:Nat):Int)=((S / 32:Nat):Int):=w64 (by omega) (by omega)
 show∃n,Shr n a s=some (ofN (qk a / 2^(max s 0).toNat))
 unfold Shr;rw[hS,e1,e2];simp only[zn];have split:qk a / 2^S=qk (a.drop (S / 32)) / 2^(S % 32):=by
  rw[← qcM hw,qdf,Kq,← zW]
  congr 2;omega
 by_cases hge:a.length≤S / 32
 · refine⟨0,?_⟩
   rw[zh (by omega),zg,split,KW hge];simp[qk,Yh]
 · obtain⟨out,h1,h2,h3,n,h4⟩:=qjE (a.drop (S / 32)) (hw.drop _) S (by rw[KA];omega) (a.drop (S / 32)).length 0 [] (by omega) rfl .nil (by simp[qk,Nat.mod_one])
   refine⟨n,?_⟩
   rw[zq (by omega),zo,zh (by omega),zh (by omega),zh (by omega)];have et:a.length-S / 32=(a.drop (S / 32)).length:=by rw[KA]
   have ed:List.take ((a.length:Int)-((S / 32:Nat):Int)).toNat (a.drop (S / 32))=a.drop (S / 32):=zP (by rw[KA];omega)
   rw[Int.natCast_zero]at h4;simp only[Kt,zg,ed];rw[show([]:List T)=([]:List Int).map eW from rfl,h4];have hsb:sub (out.map eW) 0 (a.drop (S / 32)).length=some (out.map eW):=by
    have:=Zr (out.map eW)
    rwa [zV,h1]at this
   simp only[zm,hsb,JU];show some (ofN (qk out))=_
   have hlt:qk (a.drop (S / 32)) / 2^(S % 32)<4294967296^(a.drop (S / 32)).length:=K5 (VF _ _) (Qu _ (hw.drop _))
   rw[h3,KT hlt,split]
theorem obB{α β:Type}{o:Option α}{x:α}{f:α→Option β}{r:Option β}(h:o=some x)(k:f x=r):o.bind f=r:=by rw[h];exact k
theorem qmm(Bk Bi B r vo c x va:Nat)(h:vo+c*(Bk*Bi)=va*r*Bk) :
 (vo+Bk*Bi*((c+x*r) % B))+(c+x*r) / B*(Bk*(Bi*B))=(va+Bi*x)*r*Bk:=by
 have:=Nat.mod_add_div (c+x*r) B
 generalize (c+x*r) % B=m at *
 generalize (c+x*r) / B=d at *
 grind
theorem qjF(a:List Int)(ha:Wd a)(s:Nat)(hlen:s / 32+a.length≤549755813887):∀(m i:Nat) (out:List Int) (c:Nat),i+m=a.length→out.length=s / 32+i→Wd out→c<2^(s % 32) →
 qk out+c*(4294967296^(s / 32)*4294967296^i)=qk (a.take i)*2^(s % 32)*4294967296^(s / 32) →
 ∃(out':List Int) (c':Nat),out'.length=s / 32+a.length∧Wd out'∧c'<2^(s % 32)∧qk out'+c'*(4294967296^(s / 32)*4294967296^a.length)=qk a*2^(s % 32)*4294967296^(s / 32) ∧
  ∃n,itP n qh2 ((s:Int),s / 32+i,(c:Int),a,(a.length:Int),(i:Int),out.map eW,())=some ((s:Int),s / 32+a.length,(c':Int),a,(a.length:Int),(a.length:Int),out'.map eW,())
 | 0,i,out,c,hk,ho,hw,hc,hv=>by
  have:i=a.length:=by omega
  subst this;rw[zP (zI _)]at hv;exact⟨out,c,ho,hw,hc,hv,J9 (by simp[qh2])⟩
 | m+1,i,out,c,hk,ho,hw,hc,hv=>by
  have hia:i<a.length:=by omega
  obtain⟨x0,x1⟩:=yz ha i;obtain⟨X,hX⟩:∃X:Nat,nth a i=(X:Int):=⟨(nth a i).toNat,by omega⟩
  have hXl:X<4294967296:=by omega
  have hx:idx a (i:Int)=some (X:Int):=by rw[JN,zA hia,← hX];simp[nth,zA hia]
  have hr:s % 32<32:=Vd _ (by omega)
  have hp31:2^(s % 32)≤2147483648:=by
   have:=Kg (n:=2) (by omega) (show s % 32≤31 by omega);simpa using this
  have hvs:=qmm (4294967296^(s / 32)) (4294967296^i) 4294967296 (2^(s % 32)) (qk out) c X (qk (a.take i)) hv
  have hc2:(c+X*2^(s % 32)) / 4294967296<2^(s % 32):=by
   rw[KG (by omega)];have:=zG (2^(s % 32)) (show X≤4294967295 by omega)
   omega
  have e2:Int.tmod (s:Int) 32=((s % 32:Nat):Int):=by rw[Wl (by omega)];rfl
  have e3:IntKind.u64.wrap (IntKind.u64.wrap (X:Int)*2^min (s % 32) 64)=((X*2^(s % 32):Nat):Int):=by
   have ex:IntKind.u64.wrap (X:Int)=(X:Int):=yd (by omega) (by omega)
   rw[Vg (Wg (Kv hr (by decide))),ex];have h1:X*2^(s % 32)≤4294967295*2147483648:=Vu (by omega) hp31
   rw[show((X:Int)*2^(s % 32))=((X*2^(s % 32):Nat):Int) by rw[Vw,Int.natCast_pow];rfl];exact yd (by omega) (by omega)
  have e4:jj .or .u64 (c:Int) ((X*2^(s % 32):Nat):Int)=((c+X*2^(s % 32):Nat):Int):=by
   have h1:X*2^(s % 32)≤4294967295*2147483648:=Vu (by omega) hp31
   rw[qd8 (by omega) (by omega),qfb hc]
  generalize hT:c+X*2^(s % 32)=t at *
  have e5:IntKind.u32.wrap (t:Int)=((t % 4294967296:Nat):Int):=by rw[wrap_u32];omega
  have e6:Int.fdiv (t:Int) (2^32)=((t / 4294967296:Nat):Int):=by
   have:=Zu t 32;rwa [show(2:Nat)^32=4294967296 from rfl]at this
  have e9:IntKind.i64.wrap ((i:Int)+1)=((i+1:Nat):Int):=by rw[w64 (by omega) (by omega)];rfl
  have hvt:qk (a.take (i+1))=qk (a.take i)+4294967296^i*X:=by rw[jS,hX,zn]
  obtain⟨out',c',h1,h2,h3,h4,h5⟩:=qjF a ha s hlen m (i+1) (out++[((t % 4294967296:Nat):Int)]) (t / 4294967296) (by omega) (by simp[ho];omega) (hw.app (qt4 t)) hc2 (by
   rw[JV,ho,hvt,← hvs,zW,Ke])
  refine⟨out',c',h1,h2,h3,h4,Yx ?_ h5⟩
  have d1:decide ((i:Int)<(a.length:Int))=true:=zh (by omega)
  have d2:decide ((0:Int)≤((s % 32:Nat):Int))=true:=zh (by omega)
  have hb1:Nat.beq (s / 32+i) (out.map eW).length=true:=by rw[zV,ho];exact Vk _
  have hb2:Nat.ble ((out.map eW).length+[eW ((t % 4294967296:Nat):Int)].length) 549755813888=true:=by
   rw[Wj,zV,ho];simp;omega
  simp only[qh2,d1,zg,hx,zm,e2,d2,zn,e3,e4,e5,e6,e9];rw[hb1,hb2];simp[ho];omega
def qmn(v s:Nat):List Int×Int:=if v=0 then([],0)else if 65536<qu v+s then([],20)else(ofN (v*2^s),0)
def shlL:{f:Nat→Nat→List Int×Int // ∀v s,f v s=qmn v s}:=Classical.choice ⟨⟨_,fun _ _=>rfl⟩⟩
def qw6(v s:Nat):List Int×Int:=shlL.1 v s
theorem qmo(v s:Nat):qw6 v s=qmn v s:=shlL.2 v s
def okSL:{f:List Int→Bool // ∀a,f a=Nat.ble a.length 1000000}:=Classical.choice ⟨⟨_,fun _=>rfl⟩⟩
def okS(a:List Int):Bool:=okSL.1 a
theorem qqG(a:List Int):okS a=Nat.ble a.length 1000000:=okSL.2 a
def qfc(p:List Int×Int):Option (List Int×Int):=bif okS p.1 then
 some (qw6 (qk p.1) (max p.2 0).toNat)else none
theorem qw7(p:List Int×Int)(y:List Int×Int)(hg:(dc (cQ 1 1) (d1 (cI .i64))).good p)(h:qfc p=some y):∃n,Shl n p.1 p.2=some y:=by
 obtain⟨a,s⟩:=p;obtain⟨⟨ha,la⟩,hs⟩:=hg;obtain⟨hm,h⟩:=qL h;have:=soi h;subst this
 have hm:okS a=true:=hm
 rw[qqG]at hm;have hlen:a.length≤1000000:=zx hm
 have hs':=QX.1 hs;obtain⟨S,hS⟩:∃S:Nat,max s 0=(S:Int):=⟨(max s 0).toNat,by omega⟩
 have hw:=Wd.of ha;have hbl:qu (qk a)≤32*a.length:=ye.2 (by rw[← qdf];exact Qu a hw)
 have e0:Len a=some (qu (qk a):Int):=qh0 a (by omega)
 show∃n,Shl n a s=some (qw6 (qk a) (max s 0).toNat)
 rw[qmo];unfold qmn;unfold Shl;rw[hS,e0,zn];simp only[zm];by_cases hz:qk a=0
 · refine⟨0,?_⟩
   rw[z6 hz,hz,show qu 0=0 from rfl];rfl
 · have hb0:qu (qk a)≠0:=fun e=>by
    have:=ye.1 (Nat.le_of_eq e)
    simp at this;omega
   have dz:decide (((qu (qk a):Nat):Int)=0)=false:=zq (by omega)
   have ew:IntKind.i64.wrap (65536-((qu (qk a):Nat):Int))=65536-((qu (qk a):Nat):Int):=w64 (by omega) (by omega)
   rw[zQ hz];by_cases hl:65536<qu (qk a)+S
   · refine⟨0,?_⟩
     rw[z6 hl,dz,zo,ew,zh (by omega),zg]
   · have hSl:S≤65536:=by omega
     have e1:Int.tdiv (S:Int) 32=((S / 32:Nat):Int):=by rw[Int.tdiv_eq_ediv_of_nonneg (by omega)];rfl
     have e2:IntKind.i64.wrap ((S / 32:Nat):Int)=((S / 32:Nat):Int):=w64 (by omega) (by omega)
     have e3:IntKind.i64.wrap (((S / 32:Nat):Int)+(a.length:Int))=((S / 32+a.length:Nat):Int):=by rw[w64 (by omega) (by omega)];rfl
     have e4:IntKind.i64.wrap (((S / 32+a.length:Nat):Int)+1)=((S / 32+a.length+1:Nat):Int):=by rw[w64 (by omega) (by omega)];rfl
     obtain⟨out,c,h1,h2,h3,h4,n,h5⟩:=qjF a hw S (by omega) a.length 0 (List.replicate (S / 32) 0) 0 (by omega) (by simp) (fun x hx=>by
      have:=(Vc.1 hx).2;subst this;exact⟨Int.le_refl _,by decide⟩) (zU _) (by simp[Zt,qk])
     refine⟨n,?_⟩
     rw[zQ hl,dz,zo,ew,zq (by omega),zo];rw[e1,e2,e3,e4,zh (show(0:Int)≤((S / 32:Nat):Int) by omega),zh (show((S / 32:Nat):Int)≤((S / 32+a.length+1:Nat):Int) by omega),zh (show((S / 32+a.length+1:Nat):Int)≤549755813888 by omega)];simp only[Kt,zg,zn];rw[VX,KQ]at h5;refine obB h5 ?_
     have hcl:c<4294967296:=by
      have:=Kg (n:=2) (by omega) (show S % 32≤31 by omega);simp at this;omega
     have e5:IntKind.u32.wrap (c:Int)=(c:Int):=qjj (by omega) (by omega)
     have hb1:Nat.beq (S / 32+a.length) (out.map eW).length=true:=by rw[zV,h1];exact Vk _
     have hb2:Nat.ble ((out.map eW).length+[eW (c:Int)].length) 549755813888=true:=by
      rw[Wj,zV,h1];simp;omega
     have em:out.map eW++[T.s (.int .u32 (c:Int))]=(out++[(c:Int)]).map eW:=by rw[Kr];rfl
     simp only[e5];rw[hb1,hb2,em,Zr];simp only[Kt,zg,zm,JU];show some (ofN (qk (out++[(c:Int)])),(0:Int))=_
     rw[JV,h1,zL _ c,zW,h4,show 2^S=2^(S % 32)*4294967296^(S / 32) by rw[qdf,← zW];congr 1;omega,zB]
end
end Su
end
section
namespace Su
open Go Fly
noncomputable section
def Zv:Stp ((List Int)×Int×Nat×Int×Int×(List T)×Unit):=fun p0=>(bif(decide (p0.2.2.2.2.1<p0.2.2.2.1))then
 (At p0.1 p0.2.2.2.2.1).bind fun x1=>
 (bif(decide (0≤p0.2.1))then
 (bif(decide (0<p0.2.2.2.2.1))then
 (At p0.1 (IntKind.wrap .i64 (p0.2.2.2.2.1-1))).bind fun x2=>
 (bif(decide (0≤p0.2.1))then
 (bif((true&&(decide (0≤p0.2.2.2.2.1)))&&(decide (p0.2.2.2.2.1<(p0.2.2.1:Int))))then
 ((p0.2.2.2.2.2.1)[(0+p0.2.2.2.2.1.toNat)]?).bind fun x3=>
 (asI .u32 (.t x3)).bind fun x4=>
 some (.inl (p0.1,p0.2.1,p0.2.2.1,p0.2.2.2.1,(IntKind.wrap .i64 (p0.2.2.2.2.1+1)),(List.set p0.2.2.2.2.2.1 (0+p0.2.2.2.2.1.toNat) (T.s (.int .u32 (IntKind.wrap .u32 (Fly.jj Go.BinOp.or .u64 (IntKind.wrap .u64 (x1*(2^(min p0.2.1.toNat 64)))) (Int.fdiv (IntKind.wrap .u64 (x2*(2^(min p0.2.1.toNat 64)))) (2^32))))))),()))
 else none)
 else none)
 else
  (bif((true&&(decide (0≤p0.2.2.2.2.1)))&&(decide (p0.2.2.2.2.1<(p0.2.2.1:Int))))then
  ((p0.2.2.2.2.2.1)[(0+p0.2.2.2.2.1.toNat)]?).bind fun x5=>
  (asI .u32 (.t x5)).bind fun x6=>
  some (.inl (p0.1,p0.2.1,p0.2.2.1,p0.2.2.2.1,(IntKind.wrap .i64 (p0.2.2.2.2.1+1)),(List.set p0.2.2.2.2.2.1 (0+p0.2.2.2.2.1.toNat) (T.s (.int .u32 (IntKind.wrap .u32 (IntKind.wrap .u64 (x1*(2^(min p0.2.1.toNat 64)))))))),()))
 else none))
 else none)
 else
  some (.inr (p0.1,p0.2.1,p0.2.2.1,p0.2.2.2.1,p0.2.2.2.2.1,p0.2.2.2.2.2.1,())))
theorem subw{X Y r:Nat}(hX:X<4294967296)(hY:Y<4294967296)(hr:r≤1):∃z r':Nat,z<4294967296∧r'≤1∧z+Y+r=X+r'*4294967296 ∧
 IntKind.u32.wrap (IntKind.u64.wrap (IntKind.u64.wrap ((X:Int)-(Y:Int))-(r:Int)))=(z:Int)∧Int.fdiv (IntKind.u64.wrap (IntKind.u64.wrap ((X:Int)-(Y:Int))-(r:Int))) (2^63)=(r':Int):=by
 rw[wrap_u32,wrap_u64,wrap_u64,Vh _ (by decide),show(2:Int)^63=9223372036854775808 from rfl];by_cases h:Y+r≤X
 · exact⟨X-(Y+r),0,by omega,by omega,by omega,by omega,by omega⟩
 · exact⟨X+4294967296-(Y+r),1,by omega,by omega,by omega,by omega,by omega⟩
theorem qob(b:List Int)(h:Wd b)(n:Nat)(hn:qk b<4294967296^n):qk (b.take n)=qk b:=by
 by_cases hl:n≤b.length
 · have h1:=yV (b.take n) (b.drop n)
   rw[Kw,Ka,Vg hl,← qcM h,Vo hn,VE,KQ]at h1;exact h1.symm
 · rw[zP (by omega)]
theorem qt5(a b:Nat):decide (Qm a b<0)=decide (a<b):=by
 unfold Qm;by_cases h:a<b
 · rw[z6 h,zh h];rfl
 · rw[zQ h,zq h]
   by_cases h2:a=b
   · rw[z6 h2];rfl
   · rw[zQ h2];rfl
def qjG:Nat→Nat→List Int
 | 0,_=>[]
 | k+1,v=>((v % 4294967296:Nat):Int)::qjG k (v / 4294967296)
theorem qjH:∀(k v:Nat),(qjG k v).length=k
 | 0,_=>rfl
 | k+1,v=>by rw[qjG,zf,qjH k]
theorem qmp:∀(k v:Nat),Wd (qjG k v)
 | 0,_=>.nil
 | k+1,v=>.cons (by omega) (by omega) (qmp k _)
theorem qqH(k v:Nat):qk (qjG k v)=v % 4294967296^k:=by
 induction k generalizing v with
 | zero=>simp[qjG,qk,Nat.mod_one]
 | succ k ih=>
  have h1:=Nat.mod_mul (x:=v) (a:=4294967296) (b:=4294967296^k)
  rw[Ke,zL (4294967296^k),h1];simp only[qjG,qk,ih];rw[zn]
theorem qqI{c x r:Nat}(hr:r≤32)(hc:c<2^r):(c+x*2^r) / 4294967296=x*2^r / 4294967296:=by
 have e:4294967296=2^r*2^(32-r):=by rw[← zW,show r+(32-r)=32 by omega]
 rw[e,← Kq,← Kq,Nat.add_mul_div_right _ _ (zU r),Vo hc,Nat.mul_div_cancel _ (zU r),zt]
theorem qt6(o:List Int)(k:Nat)(y:Int):((o++List.replicate (k+1) 0).map eW).set o.length (eW y)=((o++[y])++List.replicate k 0).map eW:=by
 rw[Kr,List.set_append,zQ (by simp),zV,Ww,We,KH,WD,Kr,Kr,zw];rfl
theorem qjI(a:List Int)(ha:Wd a)(r:Nat)(hr:r<32)(size:Nat)(hN:size≤549755813887):∀(k i:Nat) (o:List Int) (c:Nat),i+k=size→o.length=i→Wd o→c<2^r →
 (i=0→c=0)→(∀j,i=j+1→c=(nth a j).toNat*2^r / 4294967296)→qk o+c*4294967296^i=qk (a.take i)*2^r →
 ∃(o':List Int) (c':Nat),o'.length=size∧Wd o'∧qk o'+c'*4294967296^size=qk (a.take size)*2^r ∧
  ∃n,itP n Zv (a,(r:Int),size,(size:Int),(i:Int),(o++List.replicate k 0).map eW,())=some (a,(r:Int),size,(size:Int),(size:Int),o'.map eW,())
 | 0,i,o,c,hk,ho,hw,hc,_,_,hv=>by
  have:i=size:=by omega
  subst this;refine⟨o,c,ho,hw,hv,J9 ?_⟩
  rw[List.replicate_zero,z7];simp[Zv]
 | k+1,i,o,c,hk,ho,hw,hc,hc0,hcs,hv=>by
  obtain⟨x0,x1⟩:=yz ha i;obtain⟨X,hX⟩:∃X:Nat,nth a i=(X:Int):=⟨(nth a i).toNat,by omega⟩
  have hXl:X<4294967296:=by omega
  have hp31:2^r≤2147483648:=by
   have:=Kg (n:=2) (by omega) (show r≤31 by omega);simpa using this
  have hxl:X*2^r≤4294967295*2147483648:=Vu (by omega) hp31
  have hvs:=qmm 1 (4294967296^i) 4294967296 (2^r) (qk o) c X (qk (a.take i)) (by rw[KR,KK];exact hv)
  rw[qqI (by omega) hc,KR,KR,KK]at hvs;have hmin:min r 64=r:=by omega
  have em:∀Z:Nat,Z<4294967296→IntKind.u64.wrap ((Z:Int)*2^min r 64)=((Z*2^r:Nat):Int):=fun Z hZ=>by
   have h1:Z*2^r≤4294967295*2147483648:=Vu (by omega) hp31
   rw[hmin,show((Z:Int)*2^r)=((Z*2^r:Nat):Int) by rw[Vw,Int.natCast_pow];rfl];exact yd (by omega) (by omega)
  have hvt:qk (a.take (i+1))=qk (a.take i)+4294967296^i*X:=by rw[jS,hX,zn]
  have e9:IntKind.i64.wrap ((i:Int)+1)=((i+1:Nat):Int):=by rw[w64 (by omega) (by omega)];rfl
  have hc2:X*2^r / 4294967296<2^r:=by
   rw[KG (by omega)];have:=zG (2^r) (show X≤4294967295 by omega)
   have:=zU r
   omega
  obtain⟨o',c',h1,h2,h4,h5⟩:=qjI a ha r hr size hN k (i+1) (o++[(((c+X*2^r) % 4294967296:Nat):Int)]) (X*2^r / 4294967296) (by omega) (by simp[ho]) (hw.app (qt4 _)) hc2 (fun h=>by omega)
   (fun j hj=>by(have:j=i:=(by omega));subst this;rw[hX,zn]) (by rw[JV,ho,hvt,← hvs,Ke])
  refine⟨o',c',h1,h2,h4,Yx ?_ h5⟩
  have d1:decide ((i:Int)<(size:Int))=true:=zh (by omega)
  have d2:decide ((0:Int)≤(r:Int))=true:=zh (by omega)
  have d3:decide ((0:Int)≤(i:Int))=true:=zh (by omega)
  have hget:((o++List.replicate (k+1) 0).map eW)[i]?=some (eW 0):=by
   rw[Kr,Kl (by simp[ho]),zV,ho,Ww];rfl
  have hset:=qt6 o k (((c+X*2^r) % 4294967296:Nat):Int)
  rw[ho]at hset;have ewrap:∀t:Nat,IntKind.u32.wrap (t:Int)=((t % 4294967296:Nat):Int):=fun t=>by rw[wrap_u32];omega
  simp only[Zv,d1,zg,Q1 ha,hX,zm,d2,d3,zn,em X hXl,Kt,Vi,zt,hget,Q3,e9];by_cases hi0:i=0
  · subst hi0
    obtain rfl:c=0:=hc0 rfl
    have d4:decide ((0:Int)<((0:Nat):Int))=false:=rfl
    rw[d4,zo,ewrap];simp only[zt]at hset ⊢;rw[show T.s (.int .u32 ((X*2^r % 4294967296:Nat):Int))=eW ((X*2^r % 4294967296:Nat):Int) from rfl,hset]
  · obtain⟨j,rfl⟩:∃j,i=j+1:=⟨i-1,by omega⟩
    have hcj:=hcs j rfl;obtain⟨y0,y1⟩:=yz ha j;obtain⟨Y,hY⟩:∃Y:Nat,nth a j=(Y:Int):=⟨(nth a j).toNat,by omega⟩
    rw[hY,zn]at hcj;have d4:decide ((0:Int)<((j+1:Nat):Int))=true:=zh (by omega)
    have e5:IntKind.i64.wrap (((j+1:Nat):Int)-1)=(j:Int):=by rw[w64 (by omega) (by omega)];omega
    have e6:Int.fdiv ((Y*2^r:Nat):Int) (2^32)=(c:Int):=by
     have:=Zu (Y*2^r) 32;rw[show(2:Nat)^32=4294967296 from rfl]at this;rw[this,hcj]
    have e7:jj .or .u64 ((X*2^r:Nat):Int) (c:Int)=((c+X*2^r:Nat):Int):=by
     rw[qd8 (by omega) (by omega),Nat.or_comm,qfb hc]
    rw[d4,zg,e5,Q1 ha,hY,zm,em Y (by omega),e6,e7,ewrap];rw[show T.s (.int .u32 (((c+X*2^r) % 4294967296:Nat):Int))=eW (((c+X*2^r) % 4294967296:Nat):Int) from rfl,hset]
end
end Su
end
section
namespace Su
open Go Fly
def qla(l:List Int):Bool:=Nat.ble l.length 549755813888
def qdQ(l:List Int):Option (List Int):=bif qla l then some l else none
def YB(p:List Int×Int):Option (List Int×List Int):=bif decide (0<p.2)&&qla p.1 then some (ofN (qk p.1 / p.2.toNat),ofN (qk p.1 % p.2.toNat))else none
end Su
end
section
namespace Su
theorem qqJ{B P f d2 top n2 D N Dr Nr:Nat}(hD:D=(f*B+d2)*P+Dr)(hN:N=(top*B+n2)*P+Nr)(hNr:Nr<P)(hn2:n2<B)(hf:0<f):N<(top / f+1)*D:=by
 have h1:top+1≤(top / f+1)*f:=by
  have:=Vb top f
  have h2:=Vd top hf;rw[zR,KR,zL];omega
 have h2:top*B+n2+1≤(top / f+1)*(f*B+d2):=by
  have h3:=zG B h1;rw[zR,KR]at h3;have h4:(top / f+1)*(f*B+d2)=(top / f+1)*f*B+(top / f+1)*d2:=by rw[KB,zB]
  rw[h4];omega
 have h3:N<(top*B+n2+1)*P:=by rw[hN,zR (top*B+n2) 1 P,KR];omega
 have h4:(top*B+n2+1)*P≤(top / f+1)*(f*B+d2)*P:=zG P h2
 have h5:(top / f+1)*(f*B+d2)*P≤(top / f+1)*D:=by
  rw[zB,hD];exact z8 _ (Nat.le_add_right _ _)
 omega
theorem qt7{B P f d2 top n2 D N Dr Nr g left:Nat}(hD:D=(f*B+d2)*P+Dr)(hN:N=(top*B+n2)*P+Nr)(hNr:Nr<P)(hl:g*f+left=top)
 (ht:left*B+n2<g*d2):N<g*D:=by
 have h2:top*B+n2+1≤g*(f*B+d2):=by
  have h4:g*(f*B+d2)=g*f*B+g*d2:=by rw[KB,zB]
  rw[h4,← hl,zR];omega
 have h3:N<(top*B+n2+1)*P:=by rw[hN,zR (top*B+n2) 1 P,KR];omega
 have h4:(top*B+n2+1)*P≤g*(f*B+d2)*P:=zG P h2
 have h5:g*(f*B+d2)*P≤g*D:=by
  rw[zB,hD];exact z8 _ (Nat.le_add_right _ _)
 omega
theorem qw8{B P f d2 top n2 D N Dr Nr g left:Nat}(hD:D=(f*B+d2)*P+Dr)(hN:N=(top*B+n2)*P+Nr)(hDr:Dr<P)(hl:g*f+left=top)(hf:0<f)(hB:0<B)(hg:g≤B)
 (ht:g*d2≤left*B+n2):g*D<N+D:=by
 have h2:g*(f*B+d2)≤top*B+n2:=by
  have h4:g*(f*B+d2)=g*f*B+g*d2:=by rw[KB,zB]
  rw[h4,← hl,zR];omega
 have h3:g*(f*B+d2)*P≤(top*B+n2)*P:=zG P h2
 have h4:g*D=g*(f*B+d2)*P+g*Dr:=by rw[hD,KB,zB]
 have h5:g*Dr≤B*Dr:=zG _ hg
 have h6:B*Dr+B≤B*P:=by
  have:=z8 B (show Dr+1≤P by omega)
  rwa [KB,KK]at this
 have h7:B*P≤D:=by
  have:1*(B*P)≤f*(B*P):=zG _ hf
  rw[hD,zR,zB];omega
 omega
theorem qqK{B P f d2 top n2 D N Dr Nr:Nat}(hD:D=(B*f+d2)*P+Dr)(hN:N=(B*top+n2)*P+Nr)(hNr:Nr<P)(hn2:n2<B)(hf:0<f):N<(top / f+1)*D :=
 qqJ (B:=B) (by rw[zL f B];exact hD) (by rw[zL top B];exact hN) hNr hn2 hf
theorem qt8{B P f d2 top n2 D N Dr Nr g left:Nat}(hD:D=(B*f+d2)*P+Dr)(hN:N=(B*top+n2)*P+Nr)(hNr:Nr<P)(hl:g*f+left=top)(ht:B*left+n2<g*d2):N<g*D :=
 qt7 (B:=B) (by rw[zL f B];exact hD) (by rw[zL top B];exact hN) hNr hl (by rw[zL left B];exact ht)
theorem qw9{B P f d2 top n2 D N Dr Nr g left:Nat}(hD:D=(B*f+d2)*P+Dr)(hN:N=(B*top+n2)*P+Nr)(hDr:Dr<P)(hl:g*f+left=top)(hf:0<f)(hB:0<B)(hg:g≤B)(ht:g*d2≤B*left+n2):g*D<N+D :=
 qw8 (B:=B) (by rw[zL f B];exact hD) (by rw[zL top B];exact hN) hDr hl hf hB hg (by rw[zL left B];exact ht)
theorem qt9{D N g:Nat}(h1:N<(g+1)*D)(h2:g*D<N+D):(g*D≤N→N / D=g∧N % D=N-g*D)∧(N<g*D→N / D+1=g∧N % D+g*D=N+D):=by
 have hD:0<D:=by
  cases D with
  | zero=>omega
  | succ=>omega
 refine⟨fun h=>?_,fun h=>?_⟩
 · have hq:N / D=g:=by
    refine Nat.le_antisymm (Nat.lt_succ_iff.1 ((KG hD).2 h1)) ((WP hD).2 h)
   have:=Vb N D
   rw[hq,zL]at this;exact⟨hq,by omega⟩
 · cases g with
   | zero=>omega
   | succ g=>
    rw[zR,KR]at h h2;have hq:N / D=g:=by
     refine Nat.le_antisymm (Nat.lt_succ_iff.1 ((KG hD).2 (by rw[Nat.succ_mul];exact h))) ((WP hD).2 (by omega))
    have:=Vb N D
    rw[hq,zL]at this;rw[zR,KR];exact⟨by rw[hq],by omega⟩
end Su
end
