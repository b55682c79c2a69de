/-
  What functions of the program compute, in plain Lean, and that the evaluator finds it.
-/
import Derived.Test.YtfckjjffdfkelaaGreatSuSd
import Derived.Test.YtfckjjffdfkelaaGreatNC01
import Derived.Test.YtfckjjffdfkelaaGreatRb
import Derived.Test.YtfckjjffdfkelaaGreatFlyM
set_option maxRecDepth 10000
section
namespace Su
open Go Fly
set_option linter.unusedVariables false
noncomputable section
theorem qFy:((List.range 256).all fun i=>decide ((YC[i]?).map UInt8.toNat=some (qn i)))=true:=by decide +kernel
theorem qcw {i:Nat} (h:i<256):∃ b:UInt8,YC[i]?=some b∧b.toNat=qn i:=by
 have:=List.all_eq_true.1 qFy i (List.mem_range.2 h)
 have h2:=of_decide_eq_true this
 cases hb:YC[i]? with
 | none=>rw [hb] at h2;cases h2
 | some b=>rw [hb] at h2;exact ⟨b,rfl,by simpa using h2⟩
theorem qhr (x:Nat) (h:x<4294967296):qhq (x:Int)=some (qn x:Int):=by
 have b32:qn x≤32:=j0.2 (by simpa using h)
 have fd:∀ (y k:Nat),Int.fdiv (y:Int) (2^k)=((y / 2^k:Nat):Int):=fun y k=>by
  rw [Int.fdiv_eq_ediv_of_nonneg _ (by have:=Nat.two_pow_pos k;exact_mod_cast Nat.zero_le _)]
  simp
 have w8:∀ (y:Nat),y<256→IntKind.u8.wrap (y:Int)=y:=fun y hy=>wu8 (by omega) (by omega)
 have wn:∀ (y:Nat),y<256→IntKind.i64.wrap (y:Int)=y:=fun y hy=>w64 (by omega) (by omega)
 have ws:∀ (y z:Nat),y<256→z<256→IntKind.i64.wrap ((y:Int)+(z:Int))=((y+z:Nat):Int):=fun y z hy hz=>by rw [w64 (by omega) (by omega)];rfl
 have bl:∀ y,y<256→qn y≤8:=fun y hy=>j0.2 (by simpa using hy)
 unfold qhq
 by_cases h1:65536≤x
 · have d1:decide ((65536:Int)≤(x:Int))=true:=decide_eq_true (by omega)
   rw [d1,cond_true,fd]
   have hb:=Yx (n:=x) (k:=16) h1
   by_cases h2:256≤x / 2^16
   · have d2:decide ((256:Int)≤((x / 2^16:Nat):Int))=true:=decide_eq_true (by omega)
     have hlt:x / 2^16 / 2^8<256:=by omega
     obtain ⟨b,hb1,hb2⟩:=qcw hlt
     have hb':=Yx (n:=x / 2^16) (k:=8) h2
     have:=bl _ hlt
     rw [d2,cond_true,fd,w8 _ hlt,decide_eq_true (by omega),cond_true,Int.toNat_natCast,hb1,Option.bind_some,hb2]
     rw [wn (qn _) (by omega),show ((16:Int)+8)=((24:Nat):Int) from rfl,wn 24 (by omega),ws _ _ (by omega) (by omega)]
     congr 2;omega
   · have d2:decide ((256:Int)≤((x / 2^16:Nat):Int))=false:=decide_eq_false (by omega)
     have hlt:x / 2^16<256:=by omega
     obtain ⟨b,hb1,hb2⟩:=qcw hlt
     have:=bl _ hlt
     rw [d2,cond_false,w8 _ hlt,decide_eq_true (by omega),cond_true,Int.toNat_natCast,hb1,Option.bind_some,hb2]
     rw [wn (qn _) (by omega),show (16:Int)=((16:Nat):Int) from rfl,ws _ _ (by omega) (by omega)]
     congr 2;omega
 · have d1:decide ((65536:Int)≤(x:Int))=false:=decide_eq_false (by omega)
   rw [d1,cond_false]
   by_cases h2:256≤x
   · have d2:decide ((256:Int)≤(x:Int))=true:=decide_eq_true (by omega)
     have hlt:x / 2^8<256:=by omega
     obtain ⟨b,hb1,hb2⟩:=qcw hlt
     have hb':=Yx (n:=x) (k:=8) h2
     have:=bl _ hlt
     rw [d2,cond_true,fd,w8 _ hlt,decide_eq_true (by omega),cond_true,Int.toNat_natCast,hb1,Option.bind_some,hb2]
     rw [wn (qn _) (by omega),show ((0:Int)+8)=((8:Nat):Int) from rfl,wn 8 (by omega),ws _ _ (by omega) (by omega)]
     congr 2;omega
   · have d2:decide ((256:Int)≤(x:Int))=false:=decide_eq_false (by omega)
     have hlt:x<256:=by omega
     obtain ⟨b,hb1,hb2⟩:=qcw hlt
     have:=bl _ hlt
     rw [d2,cond_false,w8 _ hlt,decide_eq_true (by omega),cond_true,Int.toNat_natCast,hb1,Option.bind_some,hb2]
     rw [wn (qn _) (by omega),Int.zero_add,wn _ (by omega)]
theorem qf2 (v:Nat):v≠0→∃ (l:List Int) (x:Nat),ofN v=l++[(x:Int)]∧x≠0∧x<4294967296∧Wd l∧v=qa l+4294967296^l.length*x:=by
 induction v using Nat.strongRecOn with
 | _ v ih =>
  intro hv
  rw [qk1 hv]
  by_cases hB:v<4294967296
  · refine ⟨[],v,?_,hv,hB,.nil,by simp [qa]⟩
    rw [Nat.mod_eq_of_lt hB,Nat.div_eq_of_lt hB,YB];rfl
  · obtain ⟨l,x,h1,h2,h3,h4,h5⟩:=ih (v / 4294967296) (by omega) (by omega)
    refine ⟨((v % 4294967296:Nat):Int)::l,x,by rw [h1];rfl,h2,h3,.cons (by omega) (by omega) h4,?_⟩
    simp only [qa,List.length_cons,Nat.pow_succ,Int.toNat_natCast]
    have e:4294967296^l.length*4294967296*x=4294967296*(4294967296^l.length*x):=by rw [Nat.mul_comm (4294967296^l.length) 4294967296,Nat.mul_assoc]
    rw [e]
    have:=Nat.div_add_mod v 4294967296
    rw [h5] at this
    rw [Nat.mul_add] at this
    omega
theorem YR (k:Nat):(4294967296:Nat)^k=2^(32*k):=by rw [Nat.pow_mul]
theorem qhs {l:List Int} {x:Nat} (hw:Wd l) (hx:x≠0):qn (qa l+4294967296^l.length*x)=32*l.length+qn x:=by
 have h1:=jg l hw
 have hp:0<4294967296^l.length:=Nat.pow_pos (by omega)
 have h2:2^(32*l.length)≤qa l+4294967296^l.length*x:=by
  rw [← YR]
  have:4294967296^l.length*1≤4294967296^l.length*x:=Nat.mul_le_mul_left _ (by omega)
  omega
 rw [Yx h2,← YR,Nat.add_mul_div_left _ _ hp,Nat.div_eq_of_lt h1,Nat.zero_add]
theorem qiX (a:List Int) (h:qn (qa a)<4611686018427387904):Len a=some (qn (qa a):Int):=by
 unfold Len
 generalize qa a=v at h ⊢
 by_cases hv:v=0
 · subst hv;rfl
 · obtain ⟨l,x,h1,h2,h3,h4,h5⟩:=qf2 v hv
   have hb:qn v=32*l.length+qn x:=by rw [h5];exact qhs h4 h2
   have hbx:qn x≤32:=j0.2 (by simpa using h3)
   have hl:(ofN v).length=l.length+1:=by rw [h1];simp
   have d1:decide (((ofN v).length:Int)=0)=false:=decide_eq_false (by omega)
   have e1:IntKind.i64.wrap (((ofN v).length:Int)-1)=(l.length:Int):=by rw [hl,w64 (by omega) (by omega)];omega
   have e2:IntKind.i64.wrap (32*(l.length:Int))=32*(l.length:Int):=w64 (by omega) (by omega)
   have hi:idx (ofN v) (l.length:Int)=some (x:Int):=by rw [jJ,h1];simp
   rw [d1,cond_false,e1,hi,Option.bind_some,qhr x h3,Option.bind_some,e2,w64 (by omega) (by omega),hb]
   simp
end
end Su
end
section
namespace Su
open Go Fly
set_option linter.unusedVariables false
noncomputable section
def qiY:(Int×((List Int)×(Nat×(Int×(Int×((List T)×Unit))))))→Option ((Int×((List Int)×(Nat×(Int×(Int×((List T)×Unit)))))) ⊕ (Int×((List Int)×(Nat×(Int×(Int×((List T)×Unit))))))):=fun p0=>(bif (decide ((p0.2.2.2.2.1<p0.2.2.2.1))) then
 ((At p0.2.1 p0.2.2.2.2.1)).bind fun x1 =>
 ((At p0.2.1 (IntKind.wrap .i64 (p0.2.2.2.2.1+1)))).bind fun x2 =>
 (bif (decide ((0≤(Int.tmod p0.1 32)))) then
 (bif ((true&&(Nat.beq p0.2.2.1 (List.length p0.2.2.2.2.2.1)))&&(Nat.ble ((List.length p0.2.2.2.2.2.1)+(List.length [(T.s (.int .u32 (IntKind.wrap .u32 (Int.fdiv (Fly.qB Go.BinOp.or .u64 x1 (IntKind.wrap .u64 (x2*(2^32)))) (2^(min (Int.toNat (Int.tmod p0.1 32)) 64))))))])) 549755813888)) then
 some (.inl (p0.1,(p0.2.1,((List.length (p0.2.2.2.2.2.1++[(T.s (.int .u32 (IntKind.wrap .u32 (Int.fdiv (Fly.qB Go.BinOp.or .u64 x1 (IntKind.wrap .u64 (x2*(2^32)))) (2^(min (Int.toNat (Int.tmod p0.1 32)) 64))))))])),(p0.2.2.2.1,((IntKind.wrap .i64 (p0.2.2.2.2.1+1)),((p0.2.2.2.2.2.1++[(T.s (.int .u32 (IntKind.wrap .u32 (Int.fdiv (Fly.qB Go.BinOp.or .u64 x1 (IntKind.wrap .u64 (x2*(2^32)))) (2^(min (Int.toNat (Int.tmod p0.1 32)) 64))))))]),())))))))
 else
  none)
 else
  none)
 else
  some (.inr (p0.1,(p0.2.1,(p0.2.2.1,(p0.2.2.2.1,(p0.2.2.2.2.1,(p0.2.2.2.2.2.1,()))))))))
def Shr  (fu:Nat) (a:(List Int)) (sh:Int):Option (List Int) :=
 (bif (decide (((((List.length a):Nat):Int)≤(IntKind.wrap .i64 (Int.tdiv (max sh 0) 32))))) then
 some []
 else
  (bif (true&&(((decide ((0≤(IntKind.wrap .i64 (Int.tdiv (max sh 0) 32)))))&&(decide (((IntKind.wrap .i64 (Int.tdiv (max sh 0) 32))≤(((List.length a):Nat):Int)))))&&(decide (((((List.length a):Nat):Int)≤(((List.length a):Nat):Int)))))) then
  (itP fu (qiY) ((max sh 0),((List.take (Int.toNat ((((List.length a):Nat):Int)-(IntKind.wrap .i64 (Int.tdiv (max sh 0) 32)))) (List.drop (Int.toNat (IntKind.wrap .i64 (Int.tdiv (max sh 0) 32))) a)),(0,((((List.length (List.take (Int.toNat ((((List.length a):Nat):Int)-(IntKind.wrap .i64 (Int.tdiv (max sh 0) 32)))) (List.drop (Int.toNat (IntKind.wrap .i64 (Int.tdiv (max sh 0) 32))) a))):Nat):Int),((0:Int),([],()))))))).bind fun x3 =>
  ((Su.sub x3.2.2.2.2.2.1 0 x3.2.2.1)).bind fun x4 =>
  ((Su.sub x3.2.2.2.2.2.1 0 x3.2.2.1)).bind fun x5 =>
  ((Su.sub x3.2.2.2.2.2.1 0 x3.2.2.1)).bind fun x6 =>
  (((jz 1 x4)).bind fun x7 =>
  some (ofN (qa x7))).bind fun x8 =>
  some x8
 else
  none))
abbrev qf3:=(Int×(Nat×(Int×((List Int)×(Int×(Int×((List T)×Unit)))))))
def qiZ:qf3→Option (qf3 ⊕ qf3):=fun p1=>(bif (decide ((p1.2.2.2.2.2.1<p1.2.2.2.2.1))) then
 ((idx p1.2.2.2.1 p1.2.2.2.2.2.1)).bind fun x2 =>
 (bif (decide ((0≤(Int.tmod p1.1 32)))) then
 (bif ((true&&(Nat.beq p1.2.1 (List.length p1.2.2.2.2.2.2.1)))&&(Nat.ble ((List.length p1.2.2.2.2.2.2.1)+(List.length [(T.s (.int .u32 (IntKind.wrap .u32 (Fly.qB Go.BinOp.or .u64 p1.2.2.1 (IntKind.wrap .u64 ((IntKind.wrap .u64 x2)*(2^(min (Int.toNat (Int.tmod p1.1 32)) 64))))))))])) 549755813888)) then
 some (.inl (p1.1,((List.length (p1.2.2.2.2.2.2.1++[(T.s (.int .u32 (IntKind.wrap .u32 (Fly.qB Go.BinOp.or .u64 p1.2.2.1 (IntKind.wrap .u64 ((IntKind.wrap .u64 x2)*(2^(min (Int.toNat (Int.tmod p1.1 32)) 64))))))))])),((Int.fdiv (Fly.qB Go.BinOp.or .u64 p1.2.2.1 (IntKind.wrap .u64 ((IntKind.wrap .u64 x2)*(2^(min (Int.toNat (Int.tmod p1.1 32)) 64))))) (2^32)),(p1.2.2.2.1,(p1.2.2.2.2.1,((IntKind.wrap .i64 (p1.2.2.2.2.2.1+1)),((p1.2.2.2.2.2.2.1++[(T.s (.int .u32 (IntKind.wrap .u32 (Fly.qB Go.BinOp.or .u64 p1.2.2.1 (IntKind.wrap .u64 ((IntKind.wrap .u64 x2)*(2^(min (Int.toNat (Int.tmod p1.1 32)) 64))))))))]),()))))))))
 else
  none)
 else
  none)
 else
  some (.inr (p1.1,(p1.2.1,(p1.2.2.1,(p1.2.2.2.1,(p1.2.2.2.2.1,(p1.2.2.2.2.2.1,(p1.2.2.2.2.2.2.1,())))))))))
def Shl  (fu:Nat) (a:(List Int)) (sh:Int):Option ((List Int)×Int) :=
 ((Len a)).bind fun x0 =>
 (bif (decide ((x0=0))) then
 some ([],(0:Int))
 else
  (bif (decide (((IntKind.wrap .i64 (65536-x0))<(max sh 0)))) then
  some ([],(20:Int))
 else
  (bif (((true&&(decide ((0≤(IntKind.wrap .i64 (Int.tdiv (max sh 0) 32))))))&&(decide (((IntKind.wrap .i64 (Int.tdiv (max sh 0) 32))≤(IntKind.wrap .i64 ((IntKind.wrap .i64 ((IntKind.wrap .i64 (Int.tdiv (max sh 0) 32))+(((List.length a):Nat):Int)))+1))))))&&(decide (((IntKind.wrap .i64 ((IntKind.wrap .i64 ((IntKind.wrap .i64 (Int.tdiv (max sh 0) 32))+(((List.length a):Nat):Int)))+1))≤549755813888)))) then
  (itP fu (qiZ) ((max sh 0),((Int.toNat (IntKind.wrap .i64 (Int.tdiv (max sh 0) 32))),((0:Int),(a,((((List.length a):Nat):Int),((0:Int),((List.replicate (Int.toNat (IntKind.wrap .i64 (Int.tdiv (max sh 0) 32))) (T.s (.int .u32 0))),())))))))).bind fun x3 =>
  (bif ((true&&(Nat.beq x3.2.1 (List.length x3.2.2.2.2.2.2.1)))&&(Nat.ble ((List.length x3.2.2.2.2.2.2.1)+(List.length [(T.s (.int .u32 (IntKind.wrap .u32 x3.2.2.1)))])) 549755813888)) then
  ((Su.sub (x3.2.2.2.2.2.2.1++[(T.s (.int .u32 (IntKind.wrap .u32 x3.2.2.1)))]) 0 (List.length (x3.2.2.2.2.2.2.1++[(T.s (.int .u32 (IntKind.wrap .u32 x3.2.2.1)))])))).bind fun x4 =>
  ((Su.sub (x3.2.2.2.2.2.2.1++[(T.s (.int .u32 (IntKind.wrap .u32 x3.2.2.1)))]) 0 (List.length (x3.2.2.2.2.2.2.1++[(T.s (.int .u32 (IntKind.wrap .u32 x3.2.2.1)))])))).bind fun x5 =>
  (((jz 1 x4)).bind fun x6 =>
  some (ofN (qa x6))).bind fun x7 =>
  some (x7,(0:Int))
 else
  none)
 else
  none)))
theorem qbH (y k:Nat):Int.fdiv (y:Int) (2^k)=((y / 2^k:Nat):Int):=by
 have h0:(0:Int)≤(2:Int)^k:=Int.pow_nonneg (by decide)
 rw [Int.fdiv_eq_ediv_of_nonneg _ h0]
 simp
theorem qi0 {x y r:Nat} (hr:x<2^r):x ||| y*2^r=x+y*2^r:=by
 have:=Nat.two_pow_add_eq_or_of_lt hr y
 rw [Nat.mul_comm,Nat.or_comm,← this];omega
theorem qdh {a:List Int} (h:Wd a) (i:Nat):qa a / 4294967296^i=qa (a.drop i):=by
 by_cases hi:i≤a.length
 · have h1:=yu (a.take i) (a.drop i)
   rw [List.take_append_drop,List.length_take,Nat.min_eq_left hi] at h1
   rw [h1,Nat.add_mul_div_left _ _ (Nat.pow_pos (by omega)),Nat.div_eq_of_lt (yT h i),Nat.zero_add]
 · rw [List.drop_of_length_le (by omega)]
   have:=jg a h
   have:qa a<4294967296^i:=Nat.lt_of_lt_of_le this (Nat.pow_le_pow_right (by omega) (by omega))
   rw [Nat.div_eq_of_lt this];rfl
theorem qht (a:List Int) (i:Nat):qa (a.drop i)=(nth a i).toNat+4294967296*qa (a.drop (i+1)):=by
 unfold nth
 by_cases hi:i<a.length
 · rw [List.drop_eq_getElem_cons hi,List.getElem?_eq_getElem hi];rfl
 · rw [List.drop_of_length_le (by omega),List.drop_of_length_le (by omega),List.getElem?_eq_none (by omega)];rfl
theorem qs9 {a:List Int} (h:Wd a) (i r:Nat) (hr:r≤32):qa a / 2^r / 4294967296^i % 4294967296=((nth a i).toNat+4294967296*(nth a (i+1)).toNat) / 2^r % 4294967296:=by
 rw [Nat.div_div_eq_div_mul,Nat.mul_comm,← Nat.div_div_eq_div_mul,qdh h,qht,qht]
 generalize qa (a.drop (i+1+1))=z
 have hp:=Nat.two_pow_pos r
 obtain ⟨q,hq⟩:∃ q,4294967296=2^r*q:=⟨2^(32-r),by rw [← Nat.pow_add,show r+(32-r)=32 by omega]⟩
 have e:(nth a i).toNat+4294967296*((nth a (i+1)).toNat+4294967296*z)=((nth a i).toNat+4294967296*(nth a (i+1)).toNat)+2^r*(4294967296*(q*z)):=by
  rw [Nat.mul_add,← Nat.add_assoc]
  congr 1
  rw [← Nat.mul_assoc (2^r),Nat.mul_comm (2^r),Nat.mul_assoc,← Nat.mul_assoc (2^r),← hq]
 rw [e,Nat.add_mul_div_left _ _ hp,Nat.add_mul_mod_self_left]
theorem Wd.drop {a:List Int} (h:Wd a) (i:Nat):Wd (a.drop i):=fun x hx=>h x (List.mem_of_mem_drop hx)
theorem qxY (q:Nat):Wd [((q % 4294967296:Nat):Int)]:=.cons (by omega) (by omega) .nil
theorem qta (B k x vo q:Nat) (hv:vo=x % B^k) (hq:x / B^k % B=q):vo+B^k*q=x % B^(k+1):=by
 rw [Nat.mod_pow_succ,hv,hq]
theorem Jc (l:List Int) (q:Nat):qa (l++[(q:Int)])=qa l+4294967296^l.length*q:=by
 rw [yu]
 show qa l+4294967296^l.length*((q:Int).toNat+4294967296*0)=_
 rw [Int.toNat_natCast,Nat.mul_zero,Nat.add_zero]
theorem qk7 (a:List Int) (ha:Wd a) (s:Nat) (hlen:a.length≤549755813887):∀ (k i:Nat) (out:List Int),i+k=a.length→out.length=i→Wd out→qa out=qa a / 2^(s % 32) % 4294967296^i →
 ∃ out':List Int,out'.length=a.length∧Wd out'∧qa out'=qa a / 2^(s % 32) % 4294967296^a.length ∧
  ∃ n,itP n qiY ((s:Int),(a,(i,((a.length:Int),((i:Int),(out.map eW,()))))))=some ((s:Int),(a,(a.length,((a.length:Int),((a.length:Int),(out'.map eW,()))))))
 | 0,i,out,hk,ho,hw,hv=>by
  have:i=a.length:=by omega
  subst this
  exact ⟨out,ho,hw,hv,Qp (by simp [qiY])⟩
 | k+1,i,out,hk,ho,hw,hv=>by
  obtain ⟨x0,x1⟩:=jW ha i
  obtain ⟨y0,y1⟩:=jW ha (i+1)
  obtain ⟨X,hX⟩:∃ X:Nat,nth a i=(X:Int):=⟨(nth a i).toNat,by omega⟩
  obtain ⟨Y,hY⟩:∃ Y:Nat,nth a (i+1)=(Y:Int):=⟨(nth a (i+1)).toNat,by omega⟩
  have hr:s % 32<32:=Nat.mod_lt _ (by omega)
  have e1:IntKind.i64.wrap ((i:Int)+1)=((i+1:Nat):Int):=by rw [w64 (by omega) (by omega)];rfl
  have e2:Int.tmod (s:Int) 32=((s % 32:Nat):Int):=by rw [Int.tmod_eq_emod_of_nonneg (by omega)];rfl
  have e3:IntKind.u64.wrap ((Y:Int)*2^32)=((Y*4294967296:Nat):Int):=by
   rw [show ((Y:Int)*2^32)=((Y*4294967296:Nat):Int) by rw [Int.natCast_mul];rfl]
   exact jZ (by omega) (by omega)
  have e4:qB .or .u64 (X:Int) ((Y*4294967296:Nat):Int)=((X+Y*4294967296:Nat):Int):=by
   rw [qff (by omega) (by omega)]
   have:=qi0 (x:=X) (y:=Y) (r:=32) (by simp;omega)
   rw [show (2:Nat)^32=4294967296 from rfl] at this
   rw [this]
  have e5:Int.fdiv ((X+Y*4294967296:Nat):Int) (2^(min (s % 32) 64))=(((X+Y*4294967296) / 2^(s % 32):Nat):Int):=by
   rw [Nat.min_eq_left (Nat.le_of_lt (Nat.lt_of_lt_of_le hr (by decide)))];exact qbH _ _
  generalize hQ:(X+Y*4294967296) / 2^(s % 32)=Q at *
  have e6:IntKind.u32.wrap (Q:Int)=((Q % 4294967296:Nat):Int):=by rw [wrap_u32];omega
  have hword:=qs9 ha i (s % 32) (by omega)
  rw [hX,hY] at hword
  simp only [Int.toNat_natCast] at hword
  rw [Nat.mul_comm 4294967296 Y,hQ] at hword
  have hval:qa (out++[((Q % 4294967296:Nat):Int)])=qa a / 2^(s % 32) % 4294967296^(i+1):=by
   rw [Jc,ho]
   exact qta _ _ _ _ _ hv hword
  obtain ⟨out',h1,h2,h3,h4⟩:=qk7 a ha s hlen k (i+1) (out++[((Q % 4294967296:Nat):Int)]) (by omega) (by simp [ho]) (hw.app (qxY Q)) hval
  refine ⟨out',h1,h2,h3,Qk ?_ h4⟩
  have d1:decide ((i:Int)<(a.length:Int))=true:=decide_eq_true (by omega)
  have d2:decide ((0:Int)≤((s % 32:Nat):Int))=true:=decide_eq_true (by omega)
  have hb1:Nat.beq i (out.map eW).length=true:=by rw [List.length_map,ho];exact Nat.beq_refl _
  have hb2:Nat.ble ((out.map eW).length+[eW ((Q % 4294967296:Nat):Int)].length) 549755813888=true:=by
   rw [Nat.ble_eq,List.length_map,ho];simp;omega
  simp only [qiY,d1,cond_true,e1,Ja ha,hX,hY,Option.bind_some,e2,d2,e3,e4,Int.toNat_natCast,e5,e6]
  rw [hb1,hb2]
  simp [ho]
def qA0 (p:List Int×Int):Option (List Int):=bif Nat.ble p.1.length 549755813887 then some (ofN (qa p.1 / 2^(max p.2 0).toNat)) else none
theorem qCI (p:List Int×Int) (y:List Int) (hg:(dc (cQ 1 1) (d1 (cI .i64))).good p) (h:qA0 p=some y):∃ n,Shr n p.1 p.2=some y:=by
 obtain ⟨a,s⟩:=p
 obtain ⟨⟨ha,la⟩,hs⟩:=hg
 obtain ⟨hm,h⟩:=qj h
 have:=soi h;subst this
 have hlen:a.length≤549755813887:=Nat.le_of_ble_eq_true hm
 have hs':=YP.1 hs
 obtain ⟨S,hS⟩:∃ S:Nat,max s 0=(S:Int):=⟨(max s 0).toNat,by omega⟩
 have hw:=Wd.of ha
 have e1:Int.tdiv (S:Int) 32=((S / 32:Nat):Int):=by rw [Int.tdiv_eq_ediv_of_nonneg (by omega)];rfl
 have e2:IntKind.i64.wrap ((S / 32:Nat):Int)=((S / 32:Nat):Int):=w64 (by omega) (by omega)
 show ∃ n,Shr n a s=some (ofN (qa a / 2^(max s 0).toNat))
 unfold Shr
 rw [hS,e1,e2]
 simp only [Int.toNat_natCast]
 have split:qa a / 2^S=qa (a.drop (S / 32)) / 2^(S % 32):=by
  rw [← qdh hw,YR,Nat.div_div_eq_div_mul,← Nat.pow_add]
  congr 2;omega
 by_cases hge:a.length≤S / 32
 · refine ⟨0,?_⟩
   rw [decide_eq_true (by omega),cond_true,split,List.drop_of_length_le hge]
   simp [qa,YB]
 · obtain ⟨out,h1,h2,h3,n,h4⟩:=qk7 (a.drop (S / 32)) (hw.drop _) S (by rw [List.length_drop];omega) (a.drop (S / 32)).length 0 [] (by omega) rfl .nil (by simp [qa,Nat.mod_one])
   refine ⟨n,?_⟩
   rw [decide_eq_false (by omega),cond_false,decide_eq_true (by omega),decide_eq_true (by omega),decide_eq_true (by omega)]
   have et:a.length-S / 32=(a.drop (S / 32)).length:=by rw [List.length_drop]
   have ed:List.take ((a.length:Int)-((S / 32:Nat):Int)).toNat (a.drop (S / 32))=a.drop (S / 32):=List.take_of_length_le (by rw [List.length_drop];omega)
   rw [Int.natCast_zero] at h4
   simp only [Bool.and_self,cond_true,ed]
   rw [show ([]:List T)=([]:List Int).map eW from rfl,h4]
   have hsb:sub (out.map eW) 0 (a.drop (S / 32)).length=some (out.map eW):=by
    have:=YQ (out.map eW)
    rwa [List.length_map,h1] at this
   simp only [Option.bind_some,hsb,Jb]
   show some (ofN (qa out))=_
   have hlt:qa (a.drop (S / 32)) / 2^(S % 32)<4294967296^(a.drop (S / 32)).length:=Nat.lt_of_le_of_lt (Nat.div_le_self _ _) (jg _ (hw.drop _))
   rw [h3,Nat.mod_eq_of_lt hlt,split]
theorem obB {α β:Type} {o:Option α} {x:α} {f:α→Option β} {r:Option β} (h:o=some x) (k:f x=r):o.bind f=r:=by rw [h];exact k
theorem qoq (Bk Bi B r vo c x va:Nat) (h:vo+c*(Bk*Bi)=va*r*Bk) :
 (vo+Bk*Bi*((c+x*r) % B))+(c+x*r) / B*(Bk*(Bi*B))=(va+Bi*x)*r*Bk:=by
 have:=Nat.mod_add_div (c+x*r) B
 generalize (c+x*r) % B=m at *
 generalize (c+x*r) / B=d at *
 grind
theorem qk8 (a:List Int) (ha:Wd a) (s:Nat) (hlen:s / 32+a.length≤549755813887):∀ (m i:Nat) (out:List Int) (c:Nat),i+m=a.length→out.length=s / 32+i→Wd out→c<2^(s % 32) →
 qa out+c*(4294967296^(s / 32)*4294967296^i)=qa (a.take i)*2^(s % 32)*4294967296^(s / 32) →
 ∃ (out':List Int) (c':Nat),out'.length=s / 32+a.length∧Wd out'∧c'<2^(s % 32)∧qa out'+c'*(4294967296^(s / 32)*4294967296^a.length)=qa a*2^(s % 32)*4294967296^(s / 32) ∧
  ∃ n,itP n qiZ ((s:Int),(s / 32+i,((c:Int),(a,((a.length:Int),((i:Int),(out.map eW,())))))))=some ((s:Int),(s / 32+a.length,((c':Int),(a,((a.length:Int),((a.length:Int),(out'.map eW,())))))))
 | 0,i,out,c,hk,ho,hw,hc,hv=>by
  have:i=a.length:=by omega
  subst this
  rw [List.take_of_length_le (Nat.le_refl _)] at hv
  exact ⟨out,c,ho,hw,hc,hv,Qp (by simp [qiZ])⟩
 | m+1,i,out,c,hk,ho,hw,hc,hv=>by
  have hia:i<a.length:=by omega
  obtain ⟨x0,x1⟩:=jW ha i
  obtain ⟨X,hX⟩:∃ X:Nat,nth a i=(X:Int):=⟨(nth a i).toNat,by omega⟩
  have hXl:X<4294967296:=by omega
  have hx:idx a (i:Int)=some (X:Int):=by rw [jJ,List.getElem?_eq_getElem hia,← hX];simp [nth,List.getElem?_eq_getElem hia]
  have hr:s % 32<32:=Nat.mod_lt _ (by omega)
  have hp31:2^(s % 32)≤2147483648:=by
   have:=Nat.pow_le_pow_right (n:=2) (by omega) (show s % 32≤31 by omega);simpa using this
  have hvs:=qoq (4294967296^(s / 32)) (4294967296^i) 4294967296 (2^(s % 32)) (qa out) c X (qa (a.take i)) hv
  have hc2:(c+X*2^(s % 32)) / 4294967296<2^(s % 32):=by
   rw [Nat.div_lt_iff_lt_mul (by omega)]
   have:=Nat.mul_le_mul_right (2^(s % 32)) (show X≤4294967295 by omega)
   omega
  have e2:Int.tmod (s:Int) 32=((s % 32:Nat):Int):=by rw [Int.tmod_eq_emod_of_nonneg (by omega)];rfl
  have e3:IntKind.u64.wrap (IntKind.u64.wrap (X:Int)*2^min (s % 32) 64)=((X*2^(s % 32):Nat):Int):=by
   have ex:IntKind.u64.wrap (X:Int)=(X:Int):=jZ (by omega) (by omega)
   rw [Nat.min_eq_left (Nat.le_of_lt (Nat.lt_of_lt_of_le hr (by decide))),ex]
   have h1:X*2^(s % 32)≤4294967295*2147483648:=Nat.mul_le_mul (by omega) hp31
   rw [show ((X:Int)*2^(s % 32))=((X*2^(s % 32):Nat):Int) by rw [Int.natCast_mul,Int.natCast_pow];rfl]
   exact jZ (by omega) (by omega)
  have e4:qB .or .u64 (c:Int) ((X*2^(s % 32):Nat):Int)=((c+X*2^(s % 32):Nat):Int):=by
   have h1:X*2^(s % 32)≤4294967295*2147483648:=Nat.mul_le_mul (by omega) hp31
   rw [qff (by omega) (by omega),qi0 hc]
  generalize hT:c+X*2^(s % 32)=t at *
  have e5:IntKind.u32.wrap (t:Int)=((t % 4294967296:Nat):Int):=by rw [wrap_u32];omega
  have e6:Int.fdiv (t:Int) (2^32)=((t / 4294967296:Nat):Int):=by
   have:=qbH t 32;rwa [show (2:Nat)^32=4294967296 from rfl] at this
  have e9:IntKind.i64.wrap ((i:Int)+1)=((i+1:Nat):Int):=by rw [w64 (by omega) (by omega)];rfl
  have hvt:qa (a.take (i+1))=qa (a.take i)+4294967296^i*X:=by rw [qM,hX,Int.toNat_natCast]
  obtain ⟨out',c',h1,h2,h3,h4,h5⟩:=qk8 a ha s hlen m (i+1) (out++[((t % 4294967296:Nat):Int)]) (t / 4294967296) (by omega) (by simp [ho];omega) (hw.app (qxY t)) hc2 (by
   rw [Jc,ho,hvt,← hvs,Nat.pow_add,Nat.pow_succ])
  refine ⟨out',c',h1,h2,h3,h4,Qk ?_ h5⟩
  have d1:decide ((i:Int)<(a.length:Int))=true:=decide_eq_true (by omega)
  have d2:decide ((0:Int)≤((s % 32:Nat):Int))=true:=decide_eq_true (by omega)
  have hb1:Nat.beq (s / 32+i) (out.map eW).length=true:=by rw [List.length_map,ho];exact Nat.beq_refl _
  have hb2:Nat.ble ((out.map eW).length+[eW ((t % 4294967296:Nat):Int)].length) 549755813888=true:=by
   rw [Nat.ble_eq,List.length_map,ho];simp;omega
  simp only [qiZ,d1,cond_true,hx,Option.bind_some,e2,d2,Int.toNat_natCast,e3,e4,e5,e6,e9]
  rw [hb1,hb2]
  simp [ho];omega
def qor (v s:Nat):List Int×Int:=if v=0 then ([],0) else if 65536<qn v+s then ([],20) else (ofN (v*2^s),0)
def shlL:{f:Nat→Nat→List Int×Int // ∀ v s,f v s=qor v s}:=Classical.choice ⟨⟨_,fun _ _=>rfl⟩⟩
def qqv (v s:Nat):List Int×Int:=shlL.1 v s
theorem qos (v s:Nat):qqv v s=qor v s:=shlL.2 v s
def okSL:{f:List Int→Bool // ∀ a,f a=Nat.ble a.length 1000000}:=Classical.choice ⟨⟨_,fun _=>rfl⟩⟩
def okS (a:List Int):Bool:=okSL.1 a
theorem qmW (a:List Int):okS a=Nat.ble a.length 1000000:=okSL.2 a
def qhu (p:List Int×Int):Option (List Int×Int):=bif okS p.1 then
 some (qqv (qa p.1) (max p.2 0).toNat) else none
theorem qCJ (p:List Int×Int) (y:List Int×Int) (hg:(dc (cQ 1 1) (d1 (cI .i64))).good p) (h:qhu p=some y):∃ n,Shl n p.1 p.2=some y:=by
 obtain ⟨a,s⟩:=p
 obtain ⟨⟨ha,la⟩,hs⟩:=hg
 obtain ⟨hm,h⟩:=qj h
 have:=soi h;subst this
 have hm:okS a=true:=hm
 rw [qmW] at hm
 have hlen:a.length≤1000000:=Nat.le_of_ble_eq_true hm
 have hs':=YP.1 hs
 obtain ⟨S,hS⟩:∃ S:Nat,max s 0=(S:Int):=⟨(max s 0).toNat,by omega⟩
 have hw:=Wd.of ha
 have hbl:qn (qa a)≤32*a.length:=j0.2 (by rw [← YR];exact jg a hw)
 have e0:Len a=some (qn (qa a):Int):=qiX a (by omega)
 show ∃ n,Shl n a s=some (qqv (qa a) (max s 0).toNat)
 rw [qos]
 unfold qor
 unfold Shl
 rw [hS,e0,Int.toNat_natCast]
 simp only [Option.bind_some]
 by_cases hz:qa a=0
 · refine ⟨0,?_⟩
   rw [if_pos hz,hz,show qn 0=0 from rfl];rfl
 · have hb0:qn (qa a)≠0:=fun e=>by
    have:=j0.1 (Nat.le_of_eq e)
    simp at this;omega
   have dz:decide (((qn (qa a):Nat):Int)=0)=false:=decide_eq_false (by omega)
   have ew:IntKind.i64.wrap (65536-((qn (qa a):Nat):Int))=65536-((qn (qa a):Nat):Int):=w64 (by omega) (by omega)
   rw [if_neg hz]
   by_cases hl:65536<qn (qa a)+S
   · refine ⟨0,?_⟩
     rw [if_pos hl,dz,cond_false,ew,decide_eq_true (by omega),cond_true]
   · have hSl:S≤65536:=by omega
     have e1:Int.tdiv (S:Int) 32=((S / 32:Nat):Int):=by rw [Int.tdiv_eq_ediv_of_nonneg (by omega)];rfl
     have e2:IntKind.i64.wrap ((S / 32:Nat):Int)=((S / 32:Nat):Int):=w64 (by omega) (by omega)
     have e3:IntKind.i64.wrap (((S / 32:Nat):Int)+(a.length:Int))=((S / 32+a.length:Nat):Int):=by rw [w64 (by omega) (by omega)];rfl
     have e4:IntKind.i64.wrap (((S / 32+a.length:Nat):Int)+1)=((S / 32+a.length+1:Nat):Int):=by rw [w64 (by omega) (by omega)];rfl
     obtain ⟨out,c,h1,h2,h3,h4,n,h5⟩:=qk8 a hw S (by omega) a.length 0 (List.replicate (S / 32) 0) 0 (by omega) (by simp) (fun x hx=>by
      have:=(List.mem_replicate.1 hx).2;subst this;exact ⟨Int.le_refl _,by decide⟩) (Nat.two_pow_pos _) (by simp [ZO,qa])
     refine ⟨n,?_⟩
     rw [if_neg hl,dz,cond_false,ew,decide_eq_false (by omega),cond_false]
     rw [e1,e2,e3,e4,decide_eq_true (show (0:Int)≤((S / 32:Nat):Int) by omega),decide_eq_true (show ((S / 32:Nat):Int)≤((S / 32+a.length+1:Nat):Int) by omega),decide_eq_true (show ((S / 32+a.length+1:Nat):Int)≤549755813888 by omega)]
     simp only [Bool.and_self,cond_true,Int.toNat_natCast]
     rw [List.map_replicate,Nat.add_zero] at h5
     refine obB h5 ?_
     have hcl:c<4294967296:=by
      have:=Nat.pow_le_pow_right (n:=2) (by omega) (show S % 32≤31 by omega);simp at this;omega
     have e5:IntKind.u32.wrap (c:Int)=(c:Int):=qmP (by omega) (by omega)
     have hb1:Nat.beq (S / 32+a.length) (out.map eW).length=true:=by rw [List.length_map,h1];exact Nat.beq_refl _
     have hb2:Nat.ble ((out.map eW).length+[eW (c:Int)].length) 549755813888=true:=by
      rw [Nat.ble_eq,List.length_map,h1];simp;omega
     have em:out.map eW++[T.s (.int .u32 (c:Int))]=(out++[(c:Int)]).map eW:=by rw [List.map_append];rfl
     simp only [e5]
     rw [hb1,hb2,em,YQ]
     simp only [Bool.and_self,cond_true,Option.bind_some,Jb]
     show some (ofN (qa (out++[(c:Int)])),(0:Int))=_
     rw [Jc,h1,Nat.mul_comm _ c,Nat.pow_add,h4,show 2^S=2^(S % 32)*4294967296^(S / 32) by rw [YR,← Nat.pow_add];congr 1;omega,Nat.mul_assoc]
end
end Su
end
section
namespace Su
open Go Fly
set_option linter.unusedVariables false
noncomputable section
def qi1:((List Int)×((List Int)×(Nat×(Int×(Int×(Int×((List T)×Unit)))))))→Option (((List Int)×((List Int)×(Nat×(Int×(Int×(Int×((List T)×Unit))))))) ⊕ ((List Int)×((List Int)×(Nat×(Int×(Int×(Int×((List T)×Unit)))))))):=fun p0=>(bif (decide ((p0.2.2.2.2.2.1<p0.2.2.2.2.1))) then
 ((At p0.1 p0.2.2.2.2.2.1)).bind fun x1 =>
 ((At p0.2.1 p0.2.2.2.2.2.1)).bind fun x2 =>
 (bif ((true&&(Nat.beq p0.2.2.1 (List.length p0.2.2.2.2.2.2.1)))&&(Nat.ble ((List.length p0.2.2.2.2.2.2.1)+(List.length [(T.s (.int .u32 (IntKind.wrap .u32 (IntKind.wrap .u64 ((IntKind.wrap .u64 (x1-x2))-p0.2.2.2.1)))))])) 549755813888)) then
 some (.inl (p0.1,(p0.2.1,((List.length (p0.2.2.2.2.2.2.1++[(T.s (.int .u32 (IntKind.wrap .u32 (IntKind.wrap .u64 ((IntKind.wrap .u64 (x1-x2))-p0.2.2.2.1)))))])),((Int.fdiv (IntKind.wrap .u64 ((IntKind.wrap .u64 (x1-x2))-p0.2.2.2.1)) (2^63)),(p0.2.2.2.2.1,((IntKind.wrap .i64 (p0.2.2.2.2.2.1+1)),((p0.2.2.2.2.2.2.1++[(T.s (.int .u32 (IntKind.wrap .u32 (IntKind.wrap .u64 ((IntKind.wrap .u64 (x1-x2))-p0.2.2.2.1)))))]),()))))))))
 else
  none)
 else
  some (.inr (p0.1,(p0.2.1,(p0.2.2.1,(p0.2.2.2.1,(p0.2.2.2.2.1,(p0.2.2.2.2.2.1,(p0.2.2.2.2.2.2.1,())))))))))
def Sub  (fu:Nat) (a:(List Int)) (b:(List Int)):Option ((List Int)×Bool) :=
 (bif (decide (((JD (qa a) (qa b))<0))) then
 some ([],false)
 else
  (itP fu (qi1) (a,(b,(0,((0:Int),((((List.length a):Nat):Int),((0:Int),([],())))))))).bind fun x3 =>
  ((Su.sub x3.2.2.2.2.2.2.1 0 x3.2.2.1)).bind fun x4 =>
  ((Su.sub x3.2.2.2.2.2.2.1 0 x3.2.2.1)).bind fun x5 =>
  ((Su.sub x3.2.2.2.2.2.2.1 0 x3.2.2.1)).bind fun x6 =>
  (((jz 1 x4)).bind fun x7 =>
  some (ofN (qa x7))).bind fun x8 =>
  some (x8,true))
abbrev ZP:=((List Int)×(Int×(Nat×(Int×(Int×((List T)×Unit))))))
def ZQ:ZP→Option (ZP ⊕ ZP):=fun p0=>(bif (decide ((p0.2.2.2.2.1<p0.2.2.2.1))) then
 ((At p0.1 p0.2.2.2.2.1)).bind fun x1 =>
 (bif (decide ((0≤p0.2.1))) then
 (bif (decide ((0<p0.2.2.2.2.1))) then
 ((At p0.1 (IntKind.wrap .i64 (p0.2.2.2.2.1-1)))).bind fun x2 =>
 (bif (decide ((0≤p0.2.1))) then
 (bif ((true&&(decide ((0≤p0.2.2.2.2.1))))&&(decide ((p0.2.2.2.2.1<((p0.2.2.1:Nat):Int))))) then
 ((p0.2.2.2.2.2.1)[(0+(Int.toNat p0.2.2.2.2.1))]?).bind fun x3 =>
 ((asI .u32 (.t x3))).bind fun x4 =>
 some (.inl (p0.1,(p0.2.1,(p0.2.2.1,(p0.2.2.2.1,((IntKind.wrap .i64 (p0.2.2.2.2.1+1)),((List.set p0.2.2.2.2.2.1 (0+(Int.toNat p0.2.2.2.2.1)) (T.s (.int .u32 (IntKind.wrap .u32 (Fly.qB Go.BinOp.or .u64 (IntKind.wrap .u64 (x1*(2^(min (Int.toNat p0.2.1) 64)))) (Int.fdiv (IntKind.wrap .u64 (x2*(2^(min (Int.toNat p0.2.1) 64)))) (2^32))))))),())))))))
 else
  none)
 else
  none)
 else
  (bif ((true&&(decide ((0≤p0.2.2.2.2.1))))&&(decide ((p0.2.2.2.2.1<((p0.2.2.1:Nat):Int))))) then
  ((p0.2.2.2.2.2.1)[(0+(Int.toNat p0.2.2.2.2.1))]?).bind fun x5 =>
  ((asI .u32 (.t x5))).bind fun x6 =>
  some (.inl (p0.1,(p0.2.1,(p0.2.2.1,(p0.2.2.2.1,((IntKind.wrap .i64 (p0.2.2.2.2.1+1)),((List.set p0.2.2.2.2.2.1 (0+(Int.toNat p0.2.2.2.2.1)) (T.s (.int .u32 (IntKind.wrap .u32 (IntKind.wrap .u64 (x1*(2^(min (Int.toNat p0.2.1) 64)))))))),())))))))
 else
  none))
 else
  none)
 else
  some (.inr (p0.1,(p0.2.1,(p0.2.2.1,(p0.2.2.2.1,(p0.2.2.2.2.1,(p0.2.2.2.2.2.1,()))))))))
theorem subw {X Y r:Nat} (hX:X<4294967296) (hY:Y<4294967296) (hr:r≤1):∃ z r':Nat,z<4294967296∧r'≤1∧z+Y+r=X+r'*4294967296 ∧
 IntKind.u32.wrap (IntKind.u64.wrap (IntKind.u64.wrap ((X:Int)-(Y:Int))-(r:Int)))=(z:Int)∧Int.fdiv (IntKind.u64.wrap (IntKind.u64.wrap ((X:Int)-(Y:Int))-(r:Int))) (2^63)=(r':Int):=by
 rw [wrap_u32,wrap_u64,wrap_u64,Int.fdiv_eq_ediv_of_nonneg _ (by decide),show (2:Int)^63=9223372036854775808 from rfl]
 by_cases h:Y+r≤X
 · exact ⟨X-(Y+r),0,by omega,by omega,by omega,by omega,by omega⟩
 · exact ⟨X+4294967296-(Y+r),1,by omega,by omega,by omega,by omega,by omega⟩
theorem qxZ {P B vo vb va r x y z r':Nat} (h:vo+vb=va+r*P) (hz:z+y+r=x+r'*B):(vo+P*z)+(vb+P*y)=(va+P*x)+r'*(P*B):=by grind
theorem qk9 (a b:List Int) (ha:Wd a) (hb:Wd b) (hN:a.length≤549755813887):∀ (k i:Nat) (out:List Int) (r:Nat),i+k=a.length→out.length=i→Wd out→r≤1 →
 qa out+qa (b.take i)=qa (a.take i)+r*4294967296^i →
 ∃ (out':List Int) (r':Nat),out'.length=a.length∧Wd out'∧r'≤1∧qa out'+qa (b.take a.length)=qa a+r'*4294967296^a.length ∧
  ∃ n,itP n qi1 (a,(b,(i,((r:Int),((a.length:Int),((i:Int),(out.map eW,())))))))=some (a,(b,(a.length,((r':Int),((a.length:Int),((a.length:Int),(out'.map eW,())))))))
 | 0,i,out,r,hk,ho,hw,hr,hv=>by
  have:i=a.length:=by omega
  subst this
  rw [List.take_of_length_le (Nat.le_refl a.length)] at hv
  exact ⟨out,r,ho,hw,hr,hv,Qp (by simp [qi1])⟩
 | k+1,i,out,r,hk,ho,hw,hr,hv=>by
  obtain ⟨x0,x1⟩:=jW ha i
  obtain ⟨y0,y1⟩:=jW hb i
  obtain ⟨X,hX⟩:∃ X:Nat,nth a i=(X:Int):=⟨(nth a i).toNat,by omega⟩
  obtain ⟨Y,hY⟩:∃ Y:Nat,nth b i=(Y:Int):=⟨(nth b i).toNat,by omega⟩
  obtain ⟨z,r',z1,z2,z3,z4,z5⟩:=subw (X:=X) (Y:=Y) (r:=r) (by omega) (by omega) hr
  have e3:IntKind.i64.wrap ((i:Int)+1)=((i+1:Nat):Int):=by rw [w64 (by omega) (by omega)];rfl
  obtain ⟨out',r2,h1,h2,h4,h5,h6⟩:=qk9 a b ha hb hN k (i+1) (out++[(z:Int)]) r' (by omega) (by simp [ho]) (hw.app (.cons (by omega) (by omega) .nil)) z2 (by
   rw [Jc,qM,qM,ho,hX,hY,Int.toNat_natCast,Int.toNat_natCast,Nat.pow_succ]
   exact qxZ hv z3)
  refine ⟨out',r2,h1,h2,h4,h5,Qk ?_ h6⟩
  have hi:(i:Int)<(a.length:Int):=by omega
  have hb1:Nat.beq i (out.map eW).length=true:=by rw [List.length_map,ho];exact Nat.beq_refl _
  have hb2:Nat.ble ((out.map eW).length+[eW (z:Int)].length) 549755813888=true:=by
   rw [Nat.ble_eq,List.length_map,ho];simp;omega
  simp only [qi1,Ja ha,Ja hb,Option.bind_some,decide_eq_true hi,cond_true,hX,hY,z4,z5,e3]
  rw [hb1,hb2]
  simp [ho]
theorem qhv (b:List Int) (h:Wd b) (n:Nat) (hn:qa b<4294967296^n):qa (b.take n)=qa b:=by
 by_cases hl:n≤b.length
 · have h1:=yu (b.take n) (b.drop n)
   rw [List.take_append_drop,List.length_take,Nat.min_eq_left hl,← qdh h,Nat.div_eq_of_lt hn,Nat.mul_zero,Nat.add_zero] at h1
   exact h1.symm
 · rw [List.take_of_length_le (by omega)]
theorem qot (a b:Nat):decide (JD a b<0)=decide (a<b):=by
 unfold JD
 by_cases h:a<b
 · rw [if_pos h,decide_eq_true h];rfl
 · rw [if_neg h,decide_eq_false h]
   by_cases h2:a=b
   · rw [if_pos h2];rfl
   · rw [if_neg h2];rfl
def qhw (p:List Int×List Int):Option (List Int×Bool):=bif Nat.ble p.1.length 549755813887 then some (if qa p.1<qa p.2 then ([],false) else (ofN (qa p.1-qa p.2),true)) else none
theorem qCK (p:List Int×List Int) (y:List Int×Bool) (hg:(dc (cQ 1 1) (d1 (cQ 1 1))).good p) (h:qhw p=some y):∃ n,Sub n p.1 p.2=some y:=by
 obtain ⟨a,b⟩:=p
 obtain ⟨⟨ha,la⟩,hb,lb⟩:=hg
 obtain ⟨hm,h⟩:=qj h
 have:=soi h;subst this
 have hlen:a.length≤549755813887:=Nat.le_of_ble_eq_true hm
 have hwa:=Wd.of ha
 have hwb:=Wd.of hb
 show ∃ n,Sub n a b=some (if qa a<qa b then ([],false) else (ofN (qa a-qa b),true))
 unfold Sub
 rw [qot]
 by_cases hlt:qa a<qa b
 · refine ⟨0,?_⟩
   rw [if_pos hlt,decide_eq_true hlt,cond_true]
 · obtain ⟨out,r,h1,h2,h3,h4,n,h5⟩:=qk9 a b hwa hwb hlen a.length 0 [] 0 (by omega) rfl .nil (by omega) (by simp [qa])
   refine ⟨n,?_⟩
   rw [if_neg hlt,decide_eq_false hlt,cond_false]
   refine obB h5 ?_
   have hs:sub (out.map eW) 0 a.length=some (out.map eW):=by
    have:=YQ (out.map eW)
    rwa [List.length_map,h1] at this
   simp only [hs,Option.bind_some,Jb]
   have hva:=jg a hwa
   rw [qhv b hwb a.length (by omega)] at h4
   have ho:=jg out h2
   rw [h1] at ho
   have hr0:r=0:=by
    cases r with
    | zero=>rfl
    | succ r=>rw [Nat.add_mul,Nat.one_mul] at h4;omega
   subst hr0
   show some (ofN (qa out),true)=_
   rw [show qa out=qa a-qa b by omega]
def qla:Nat→Nat→List Int
 | 0,_=>[]
 | k+1,v=>((v % 4294967296:Nat):Int)::qla k (v / 4294967296)
theorem qlb:∀ (k v:Nat),(qla k v).length=k
 | 0,_=>rfl
 | k+1,v=>by rw [qla,List.length_cons,qlb k]
theorem qou:∀ (k v:Nat),Wd (qla k v)
 | 0,_=>.nil
 | k+1,v=>.cons (by omega) (by omega) (qou k _)
theorem qtb (k v:Nat):qa (qla k v)=v % 4294967296^k:=by
 induction k generalizing v with
 | zero=>simp [qla,qa,Nat.mod_one]
 | succ k ih =>
  have h1:=Nat.mod_mul (x:=v) (a:=4294967296) (b:=4294967296^k)
  rw [Nat.pow_succ,Nat.mul_comm (4294967296^k),h1]
  simp only [qla,qa,ih]
  rw [Int.toNat_natCast]
theorem qtc {c x r:Nat} (hr:r≤32) (hc:c<2^r):(c+x*2^r) / 4294967296=x*2^r / 4294967296:=by
 have e:4294967296=2^r*2^(32-r):=by rw [← Nat.pow_add,show r+(32-r)=32 by omega]
 rw [e,← Nat.div_div_eq_div_mul,← Nat.div_div_eq_div_mul,Nat.add_mul_div_right _ _ (Nat.two_pow_pos r),Nat.div_eq_of_lt hc,Nat.mul_div_cancel _ (Nat.two_pow_pos r),Nat.zero_add]
theorem qx0 (o:List Int) (k:Nat) (y:Int):((o++List.replicate (k+1) 0).map eW).set o.length (eW y)=((o++[y])++List.replicate k 0).map eW:=by
 rw [List.map_append,List.set_append,if_neg (by simp),List.length_map,Nat.sub_self,List.replicate_succ,List.map_cons,List.set_cons_zero,List.map_append,List.map_append,List.append_assoc];rfl
theorem qlc (a:List Int) (ha:Wd a) (r:Nat) (hr:r<32) (size:Nat) (hN:size≤549755813887):∀ (k i:Nat) (o:List Int) (c:Nat),i+k=size→o.length=i→Wd o→c<2^r →
 (i=0→c=0)→(∀ j,i=j+1→c=(nth a j).toNat*2^r / 4294967296)→qa o+c*4294967296^i=qa (a.take i)*2^r →
 ∃ (o':List Int) (c':Nat),o'.length=size∧Wd o'∧qa o'+c'*4294967296^size=qa (a.take size)*2^r ∧
  ∃ n,itP n ZQ (a,((r:Int),(size,((size:Int),((i:Int),((o++List.replicate k 0).map eW,()))))))=some (a,((r:Int),(size,((size:Int),((size:Int),(o'.map eW,()))))))
 | 0,i,o,c,hk,ho,hw,hc,_,_,hv=>by
  have:i=size:=by omega
  subst this
  refine ⟨o,c,ho,hw,hv,Qp ?_⟩
  rw [List.replicate_zero,List.append_nil]
  simp [ZQ]
 | k+1,i,o,c,hk,ho,hw,hc,hc0,hcs,hv=>by
  obtain ⟨x0,x1⟩:=jW ha i
  obtain ⟨X,hX⟩:∃ X:Nat,nth a i=(X:Int):=⟨(nth a i).toNat,by omega⟩
  have hXl:X<4294967296:=by omega
  have hp31:2^r≤2147483648:=by
   have:=Nat.pow_le_pow_right (n:=2) (by omega) (show r≤31 by omega);simpa using this
  have hxl:X*2^r≤4294967295*2147483648:=Nat.mul_le_mul (by omega) hp31
  have hvs:=qoq 1 (4294967296^i) 4294967296 (2^r) (qa o) c X (qa (a.take i)) (by rw [Nat.one_mul,Nat.mul_one];exact hv)
  rw [qtc (by omega) hc,Nat.one_mul,Nat.one_mul,Nat.mul_one] at hvs
  have hmin:min r 64=r:=by omega
  have em:∀ Z:Nat,Z<4294967296→IntKind.u64.wrap ((Z:Int)*2^min r 64)=((Z*2^r:Nat):Int):=fun Z hZ=>by
   have h1:Z*2^r≤4294967295*2147483648:=Nat.mul_le_mul (by omega) hp31
   rw [hmin,show ((Z:Int)*2^r)=((Z*2^r:Nat):Int) by rw [Int.natCast_mul,Int.natCast_pow];rfl]
   exact jZ (by omega) (by omega)
  have hvt:qa (a.take (i+1))=qa (a.take i)+4294967296^i*X:=by rw [qM,hX,Int.toNat_natCast]
  have e9:IntKind.i64.wrap ((i:Int)+1)=((i+1:Nat):Int):=by rw [w64 (by omega) (by omega)];rfl
  have hc2:X*2^r / 4294967296<2^r:=by
   rw [Nat.div_lt_iff_lt_mul (by omega)]
   have:=Nat.mul_le_mul_right (2^r) (show X≤4294967295 by omega)
   have:=Nat.two_pow_pos r
   omega
  obtain ⟨o',c',h1,h2,h4,h5⟩:=qlc a ha r hr size hN k (i+1) (o++[(((c+X*2^r) % 4294967296:Nat):Int)]) (X*2^r / 4294967296) (by omega) (by simp [ho]) (hw.app (qxY _)) hc2 (fun h=>by omega)
   (fun j hj=>by (have:j=i:=(by omega));subst this;rw [hX,Int.toNat_natCast]) (by rw [Jc,ho,hvt,← hvs,Nat.pow_succ])
  refine ⟨o',c',h1,h2,h4,Qk ?_ h5⟩
  have d1:decide ((i:Int)<(size:Int))=true:=decide_eq_true (by omega)
  have d2:decide ((0:Int)≤(r:Int))=true:=decide_eq_true (by omega)
  have d3:decide ((0:Int)≤(i:Int))=true:=decide_eq_true (by omega)
  have hget:((o++List.replicate (k+1) 0).map eW)[i]?=some (eW 0):=by
   rw [List.map_append,List.getElem?_append_right (by simp [ho]),List.length_map,ho,Nat.sub_self];rfl
  have hset:=qx0 o k (((c+X*2^r) % 4294967296:Nat):Int)
  rw [ho] at hset
  have ewrap:∀ t:Nat,IntKind.u32.wrap (t:Int)=((t % 4294967296:Nat):Int):=fun t=>by rw [wrap_u32];omega
  simp only [ZQ,d1,cond_true,Ja ha,hX,Option.bind_some,d2,d3,Int.toNat_natCast,em X hXl,Bool.and_self,Bool.true_and,Nat.zero_add,hget,QT,e9]
  by_cases hi0:i=0
  · subst hi0
    obtain rfl:c=0:=hc0 rfl
    have d4:decide ((0:Int)<((0:Nat):Int))=false:=rfl
    rw [d4,cond_false,ewrap]
    simp only [Nat.zero_add] at hset ⊢
    rw [show T.s (.int .u32 ((X*2^r % 4294967296:Nat):Int))=eW ((X*2^r % 4294967296:Nat):Int) from rfl,hset]
  · obtain ⟨j,rfl⟩:∃ j,i=j+1:=⟨i-1,by omega⟩
    have hcj:=hcs j rfl
    obtain ⟨y0,y1⟩:=jW ha j
    obtain ⟨Y,hY⟩:∃ Y:Nat,nth a j=(Y:Int):=⟨(nth a j).toNat,by omega⟩
    rw [hY,Int.toNat_natCast] at hcj
    have d4:decide ((0:Int)<((j+1:Nat):Int))=true:=decide_eq_true (by omega)
    have e5:IntKind.i64.wrap (((j+1:Nat):Int)-1)=(j:Int):=by rw [w64 (by omega) (by omega)];omega
    have e6:Int.fdiv ((Y*2^r:Nat):Int) (2^32)=(c:Int):=by
     have:=qbH (Y*2^r) 32;rw [show (2:Nat)^32=4294967296 from rfl] at this;rw [this,hcj]
    have e7:qB .or .u64 ((X*2^r:Nat):Int) (c:Int)=((c+X*2^r:Nat):Int):=by
     rw [qff (by omega) (by omega),Nat.or_comm,qi0 hc]
    rw [d4,cond_true,e5,Ja ha,hY,Option.bind_some,em Y (by omega),e6,e7,ewrap]
    rw [show T.s (.int .u32 (((c+X*2^r) % 4294967296:Nat):Int))=eW (((c+X*2^r) % 4294967296:Nat):Int) from rfl,hset]
end
end Su
end
section
namespace Su
open Go Fly
def qld (l:List Int):Bool:=Nat.ble l.length 549755813888
def Jm (l:List Int):Option (List Int):=bif qld l then some l else none
def qcx (p:List Int×Int):Option (List Int×List Int):=bif decide (0<p.2)&&qld p.1 then some (ofN (qa p.1 / p.2.toNat),ofN (qa p.1 % p.2.toNat)) else none
end Su
end
section
namespace Su
theorem qtd {B P f d2 top n2 D N Dr Nr:Nat} (hD:D=(f*B+d2)*P+Dr) (hN:N=(top*B+n2)*P+Nr) (hNr:Nr<P) (hn2:n2<B) (hf:0<f):N<(top / f+1)*D:=by
 have h1:top+1≤(top / f+1)*f:=by
  have:=Nat.div_add_mod top f
  have h2:=Nat.mod_lt top hf
  rw [Nat.add_mul,Nat.one_mul,Nat.mul_comm];omega
 have h2:top*B+n2+1≤(top / f+1)*(f*B+d2):=by
  have h3:=Nat.mul_le_mul_right B h1
  rw [Nat.add_mul,Nat.one_mul] at h3
  have h4:(top / f+1)*(f*B+d2)=(top / f+1)*f*B+(top / f+1)*d2:=by rw [Nat.mul_add,Nat.mul_assoc]
  rw [h4];omega
 have h3:N<(top*B+n2+1)*P:=by rw [hN,Nat.add_mul (top*B+n2) 1 P,Nat.one_mul];omega
 have h4:(top*B+n2+1)*P≤(top / f+1)*(f*B+d2)*P:=Nat.mul_le_mul_right P h2
 have h5:(top / f+1)*(f*B+d2)*P≤(top / f+1)*D:=by
  rw [Nat.mul_assoc,hD];exact Nat.mul_le_mul_left _ (Nat.le_add_right _ _)
 omega
theorem qx1 {B P f d2 top n2 D N Dr Nr g left:Nat} (hD:D=(f*B+d2)*P+Dr) (hN:N=(top*B+n2)*P+Nr) (hNr:Nr<P) (hl:g*f+left=top)
 (ht:left*B+n2<g*d2):N<g*D:=by
 have h2:top*B+n2+1≤g*(f*B+d2):=by
  have h4:g*(f*B+d2)=g*f*B+g*d2:=by rw [Nat.mul_add,Nat.mul_assoc]
  rw [h4,← hl,Nat.add_mul];omega
 have h3:N<(top*B+n2+1)*P:=by rw [hN,Nat.add_mul (top*B+n2) 1 P,Nat.one_mul];omega
 have h4:(top*B+n2+1)*P≤g*(f*B+d2)*P:=Nat.mul_le_mul_right P h2
 have h5:g*(f*B+d2)*P≤g*D:=by
  rw [Nat.mul_assoc,hD];exact Nat.mul_le_mul_left _ (Nat.le_add_right _ _)
 omega
theorem qCL {B P f d2 top n2 D N Dr Nr g left:Nat} (hD:D=(f*B+d2)*P+Dr) (hN:N=(top*B+n2)*P+Nr) (hDr:Dr<P) (hl:g*f+left=top) (hf:0<f) (hB:0<B) (hg:g≤B)
 (ht:g*d2≤left*B+n2):g*D<N+D:=by
 have h2:g*(f*B+d2)≤top*B+n2:=by
  have h4:g*(f*B+d2)=g*f*B+g*d2:=by rw [Nat.mul_add,Nat.mul_assoc]
  rw [h4,← hl,Nat.add_mul];omega
 have h3:g*(f*B+d2)*P≤(top*B+n2)*P:=Nat.mul_le_mul_right P h2
 have h4:g*D=g*(f*B+d2)*P+g*Dr:=by rw [hD,Nat.mul_add,Nat.mul_assoc]
 have h5:g*Dr≤B*Dr:=Nat.mul_le_mul_right _ hg
 have h6:B*Dr+B≤B*P:=by
  have:=Nat.mul_le_mul_left B (show Dr+1≤P by omega)
  rwa [Nat.mul_add,Nat.mul_one] at this
 have h7:B*P≤D:=by
  have:1*(B*P)≤f*(B*P):=Nat.mul_le_mul_right _ hf
  rw [hD,Nat.add_mul,Nat.mul_assoc];omega
 omega
theorem qte {B P f d2 top n2 D N Dr Nr:Nat} (hD:D=(B*f+d2)*P+Dr) (hN:N=(B*top+n2)*P+Nr) (hNr:Nr<P) (hn2:n2<B) (hf:0<f):N<(top / f+1)*D :=
 qtd (B:=B) (by rw [Nat.mul_comm f B];exact hD) (by rw [Nat.mul_comm top B];exact hN) hNr hn2 hf
theorem qx2 {B P f d2 top n2 D N Dr Nr g left:Nat} (hD:D=(B*f+d2)*P+Dr) (hN:N=(B*top+n2)*P+Nr) (hNr:Nr<P) (hl:g*f+left=top) (ht:B*left+n2<g*d2):N<g*D :=
 qx1 (B:=B) (by rw [Nat.mul_comm f B];exact hD) (by rw [Nat.mul_comm top B];exact hN) hNr hl (by rw [Nat.mul_comm left B];exact ht)
theorem qCM {B P f d2 top n2 D N Dr Nr g left:Nat} (hD:D=(B*f+d2)*P+Dr) (hN:N=(B*top+n2)*P+Nr) (hDr:Dr<P) (hl:g*f+left=top) (hf:0<f) (hB:0<B) (hg:g≤B) (ht:g*d2≤B*left+n2):g*D<N+D :=
 qCL (B:=B) (by rw [Nat.mul_comm f B];exact hD) (by rw [Nat.mul_comm top B];exact hN) hDr hl hf hB hg (by rw [Nat.mul_comm left B];exact ht)
theorem qx3 {D N g:Nat} (h1:N<(g+1)*D) (h2:g*D<N+D):(g*D≤N→N / D=g∧N % D=N-g*D)∧(N<g*D→N / D+1=g∧N % D+g*D=N+D):=by
 have hD:0<D:=by
  cases D with
  | zero=>omega
  | succ=>omega
 refine ⟨fun h=>?_,fun h=>?_⟩
 · have hq:N / D=g:=by
    refine Nat.le_antisymm (Nat.lt_succ_iff.1 ((Nat.div_lt_iff_lt_mul hD).2 h1)) ((Nat.le_div_iff_mul_le hD).2 h)
   have:=Nat.div_add_mod N D
   rw [hq,Nat.mul_comm] at this
   exact ⟨hq,by omega⟩
 · cases g with
   | zero=>omega
   | succ g =>
    rw [Nat.add_mul,Nat.one_mul] at h h2
    have hq:N / D=g:=by
     refine Nat.le_antisymm (Nat.lt_succ_iff.1 ((Nat.div_lt_iff_lt_mul hD).2 (by rw [Nat.succ_mul];exact h))) ((Nat.le_div_iff_mul_le hD).2 (by omega))
    have:=Nat.div_add_mod N D
    rw [hq,Nat.mul_comm] at this
    rw [Nat.add_mul,Nat.one_mul]
    exact ⟨by rw [hq],by omega⟩
end Su
end
