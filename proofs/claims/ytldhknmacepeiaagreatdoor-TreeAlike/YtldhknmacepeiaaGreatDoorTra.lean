/-
  A small logic of walks: judgements, operations, regions, loops, calls. No condition.
-/
import Derived.Test.YtldhknmacepeiaaGreatDoorTrTb
import Derived.Shelf.Strings.Repeat
import Derived.Test.YtldhknmacepeiaaGreatDoorProg
import Derived.Shelf.Small.Strs
import Derived.Shelf.Strconv.Itoa3
import Derived.Test.YtldhknmacepeiaaGreatDoorSuSd
import Derived.Test.YtldhknmacepeiaaGreatDoorSuTb
import Derived.Test.YtldhknmacepeiaaGreatDoorRb
set_option linter.unusedVariables false
set_option linter.unusedSimpArgs false
set_option maxRecDepth 10000
section
namespace Fly
open Go
def J4(n:Nat):List UInt8:=List.replicate n 9
theorem YS(n:Nat):(J4 n).length=n:=WI
def qs8(ts:List (Int×List UInt8)):List UInt8:=if ts.length=0 then[]else[91]++Ye ts 0++[93]
mutual
def QO(l:jc)(n:Nat):St_→List UInt8
 | .mk kd _ nm ix ex lo hi tn el=>
  if kd=1 then J4 n++nm.data.toList++qs8 (textEs l ix)++([32,61,32]++jU l ex++[59])++[10]
  else if kd=2 then J4 n++([105,102,32]++jU l ex)++([32,123,10]++textSs l (n+1) tn++(J4 n++[125]))++(if el.list.length=0 then[]else[32,101,108,115,101]++([32,123,10]++textSs l (n+1) el++(J4 n++[125])))++[10]
  else if kd=3 then J4 n++([102,111,114,32]++nm.data.toList++[32,61,32]++l.itoa lo++[32,46,46,32]++l.itoa hi)++([32,123,10]++textSs l (n+1) tn++(J4 n++[125]))++[10]
  else[]
def textSs(l:jc)(n:Nat):Sts→List UInt8
 | .nil=>[]
 | .cons s r=>QO l n s++textSs l n r
end
def Jq(l:jc)(n:Nat)(es:Sts):List UInt8:=[32,123,10]++textSs l (n+1) es++(J4 n++[125])
theorem qc9(l:jc)(n:Nat):∀es:Sts,textSs l n es=(es.list.map (QO l n)).flatten
 | .nil=>rfl
 | .cons s r=>by simp[textSs,Sts.list,qc9 l n r]
def qgb(t:Int):List UInt8:=if t=1 then[98,111,111,108]else if t=2 then[105,110,116]else if t=3 then[102,108,111,97,116]else[]
def Z1(l:jc)(d:Dc):List UInt8 :=
 ((if d.inp then[105,110,112,117,116,32]else[118,97,114,32])++d.nm.data.toList++[58,32]++qgb d.ty)++(if 0<d.len then[91]++l.itoa d.len++[93]else[]) ++
   (if d.rng then[32,105,110,32,91]++jU l d.lo++[44,32]++jU l d.hi++[93]else[])++[59,10]
def yI(l:jc)(ds:List Dc):List UInt8:=(ds.map (Z1 l)).flatten
def YB(l:jc)(p:Pg):List UInt8 :=
 ([116,105,99,107,115,32]++l.itoa p.ticks++[59,10])++yI l p.ds++[105,110,105,116]++Jq l 0 p.ini++[10,115,116,101,112]++Jq l 0 p.step++[10]
mutual
theorem Zi(l:jc):∀x y:Ex,Qy x y=true→opE x=opE y∧jU l x=jU l y
 | .mk op _ b i f nm al,.mk op' _ b' i' f' nm' as',h=>by
  simp only[Qy,zh,VU,zM]at h;obtain⟨⟨⟨⟨⟨rfl,rfl⟩,rfl⟩,rfl⟩,rfl⟩,h⟩:=h;have:=sameEs_text l al as' h
  simp only[jU,this];exact⟨rfl,trivial⟩
theorem sameEs_text(l:jc):∀x y:Exs,sameEs x y=true→textEs l x=textEs l y
 | .nil,.nil,_=>rfl
 | .nil,.cons _ _,h=>by simp[sameEs]at h
 | .cons _ _,.nil,h=>by simp[sameEs]at h
 | .cons e r,.cons e' r',h=>by
  simp only[sameEs,zh]at h;obtain⟨h1,h2⟩:=Zi l e e' h.1;simp only[textEs,h1,h2,sameEs_text l r r' h.2]
end
theorem qeK:∀x y:Sts,sameSs x y=true→x.list.length=y.list.length
 | .nil,.nil,_=>rfl
 | .nil,.cons _ _,h=>by simp[sameSs]at h
 | .cons _ _,.nil,h=>by simp[sameSs]at h
 | .cons e r,.cons e' r',h=>by
  simp only[sameSs,zh]at h;simp only[Sts.list,zm,qeK r r' h.2]
mutual
theorem qkv(l:jc)(n:Nat):∀x y:St_,Ji x y=true→QO l n x=QO l n y
 | .mk kd _ nm ix ex lo hi tn el,.mk kd' _ nm' ix' ex' lo' hi' tn' el',h=>by
  simp only[Ji,zh,VU,zM]at h;obtain⟨⟨⟨⟨⟨⟨⟨rfl,rfl⟩,rfl⟩,rfl⟩,h1⟩,h2⟩,h3⟩,h4⟩:=h;have e1:=sameEs_text l ix ix' h1;have e2:=(Zi l ex ex' h2).2
  have e3:=sameSs_text l (n+1) tn tn' h3
  have e4:=sameSs_text l (n+1) el el' h4
  have e5:=qeK el el' h4;simp only[QO,e1,e2,e3,e4,e5]
theorem sameSs_text(l:jc)(n:Nat):∀x y:Sts,sameSs x y=true→textSs l n x=textSs l n y
 | .nil,.nil,_=>rfl
 | .nil,.cons _ _,h=>by simp[sameSs]at h
 | .cons _ _,.nil,h=>by simp[sameSs]at h
 | .cons e r,.cons e' r',h=>by
  simp only[sameSs,zh]at h;simp only[textSs,qkv l n e e' h.1,sameSs_text l n r r' h.2]
end
theorem qkw(l:jc)(x y:Dc)(h:YI x y=true):Z1 l x=Z1 l y:=by
 simp only[YI,zh,VU,zM]at h;obtain⟨⟨⟨⟨⟨⟨h1,h2⟩,h3⟩,h4⟩,h5⟩,h6⟩,h7⟩:=h;simp only[Z1,h1,h2,h3,h4,h5,(Zi l _ _ h6).2,(Zi l _ _ h7).2]
theorem qda(l:jc):∀x y:List Dc,yx x y=true→yI l x=yI l y
 | [],[],_=>rfl
 | [],_::_,h=>by simp[yx]at h
 | _::_,[],h=>by simp[yx]at h
 | e::r,e'::r',h=>by
  simp only[yx,zh]at h;have:=qda l r r' h.2
  unfold yI at this ⊢
  simp only[KD,VF,qkw l e e' h.1,this]
theorem qkx(l:jc)(p q:Pg)(h:Yj p q=true):YB l p=YB l q:=by
 simp only[Yj,zh,VU]at h;obtain⟨⟨⟨h1,h2⟩,h3⟩,h4⟩:=h;simp only[YB,Jq,h1,qda l _ _ h2,sameSs_text l _ _ _ h3,sameSs_text l _ _ _ h4]
mutual
theorem Yo:∀x y z:Ex,Qy x y=true→Qy y z=true→Qy x z=true
 | .mk op _ b i f nm al,.mk op' _ b' i' f' nm' as',.mk op2 _ b2 i2 f2 nm2 as2,h,k=>by
  simp only[Qy,zh,VU,zM]at h k ⊢;obtain⟨⟨⟨⟨⟨rfl,rfl⟩,rfl⟩,rfl⟩,rfl⟩,h⟩:=h;obtain⟨⟨⟨⟨⟨rfl,rfl⟩,rfl⟩,rfl⟩,rfl⟩,k⟩:=k;exact⟨⟨⟨⟨⟨rfl,rfl⟩,rfl⟩,rfl⟩,rfl⟩,sameEs_trans al as' as2 h k⟩
theorem sameEs_trans:∀x y z:Exs,sameEs x y=true→sameEs y z=true→sameEs x z=true
 | .nil,.nil,.nil,_,_=>rfl
 | .nil,.nil,.cons _ _,_,k=>by simp[sameEs]at k
 | .nil,.cons _ _,_,h,_=>by simp[sameEs]at h
 | .cons _ _,.nil,_,h,_=>by simp[sameEs]at h
 | .cons _ _,.cons _ _,.nil,_,k=>by simp[sameEs]at k
 | .cons e r,.cons e' r',.cons e2 r2,h,k=>by
  simp only[sameEs,zh]at h k ⊢;exact⟨Yo e e' e2 h.1 k.1,sameEs_trans r r' r2 h.2 k.2⟩
end
mutual
theorem qiX:∀x y z:St_,Ji x y=true→Ji y z=true→Ji x z=true
 | .mk kd _ nm ix ex lo hi tn el,.mk kd' _ nm' ix' ex' lo' hi' tn' el',.mk kd2 _ nm2 ix2 ex2 lo2 hi2 tn2 el2,h,k=>by
  simp only[Ji,zh,VU,zM]at h k ⊢;obtain⟨⟨⟨⟨⟨⟨⟨rfl,rfl⟩,rfl⟩,rfl⟩,h1⟩,h2⟩,h3⟩,h4⟩:=h;obtain⟨⟨⟨⟨⟨⟨⟨rfl,rfl⟩,rfl⟩,rfl⟩,k1⟩,k2⟩,k3⟩,k4⟩:=k;exact⟨⟨⟨⟨⟨⟨⟨rfl,rfl⟩,rfl⟩,rfl⟩,sameEs_trans _ _ _ h1 k1⟩,Yo _ _ _ h2 k2⟩,sameSs_trans tn tn' tn2 h3 k3⟩,sameSs_trans el el' el2 h4 k4⟩
theorem sameSs_trans:∀x y z:Sts,sameSs x y=true→sameSs y z=true→sameSs x z=true
 | .nil,.nil,.nil,_,_=>rfl
 | .nil,.nil,.cons _ _,_,k=>by simp[sameSs]at k
 | .nil,.cons _ _,_,h,_=>by simp[sameSs]at h
 | .cons _ _,.nil,_,h,_=>by simp[sameSs]at h
 | .cons _ _,.cons _ _,.nil,_,k=>by simp[sameSs]at k
 | .cons e r,.cons e' r',.cons e2 r2,h,k=>by
  simp only[sameSs,zh]at h k ⊢;exact⟨qiX e e' e2 h.1 k.1,sameSs_trans r r' r2 h.2 k.2⟩
end
theorem qiY(x y z:Dc)(h:YI x y=true)(k:YI y z=true):YI x z=true:=by
 simp only[YI,zh,VU,zM]at h k ⊢;obtain⟨⟨⟨⟨⟨⟨h1,h2⟩,h3⟩,h4⟩,h5⟩,h6⟩,h7⟩:=h;obtain⟨⟨⟨⟨⟨⟨k1,k2⟩,k3⟩,k4⟩,k5⟩,k6⟩,k7⟩:=k;exact⟨⟨⟨⟨⟨⟨h1.trans k1,h2.trans k2⟩,h3.trans k3⟩,h4.trans k4⟩,h5.trans k5⟩,Yo _ _ _ h6 k6⟩,Yo _ _ _ h7 k7⟩
theorem qbN:∀x y z:List Dc,yx x y=true→yx y z=true→yx x z=true
 | [],[],[],_,_=>rfl
 | [],[],_::_,_,k=>by simp[yx]at k
 | [],_::_,_,h,_=>by simp[yx]at h
 | _::_,[],_,h,_=>by simp[yx]at h
 | _::_,_::_,[],_,k=>by simp[yx]at k
 | e::r,e'::r',e2::r2,h,k=>by
  simp only[yx,zh]at h k ⊢;exact⟨qiY e e' e2 h.1 k.1,qbN r r' r2 h.2 k.2⟩
theorem qiZ(p q r:Pg)(h:Yj p q=true)(k:Yj q r=true):Yj p r=true:=by
 simp only[Yj,zh,VU]at h k ⊢;obtain⟨⟨⟨h1,h2⟩,h3⟩,h4⟩:=h;obtain⟨⟨⟨k1,k2⟩,k3⟩,k4⟩:=k;exact⟨⟨⟨h1.trans k1,qbN _ _ _ h2 k2⟩,sameSs_trans _ _ _ h3 k3⟩,sameSs_trans _ _ _ h4 k4⟩
mutual
def wE:Ex→Nat
 | .mk _ _ _ _ _ nm al=>1+nm.size+wEs al
def wEs:Exs→Nat
 | .nil=>0
 | .cons e r=>wE e+wEs r
end
mutual
def wS:St_→Nat
 | .mk _ _ nm ix ex _ _ tn el=>1+nm.size+wEs ix+wE ex+wSs tn+wSs el
def wSs:Sts→Nat
 | .nil=>0
 | .cons s r=>wS s+wSs r
end
def wD(d:Dc):Nat:=1+d.nm.size+wE d.lo+wE d.hi
def wDs:List Dc→Nat
 | []=>0
 | d::r=>wD d+wDs r
def wP(p:Pg):Nat:=wDs p.ds+wSs p.ini+wSs p.step
structure LeafLen (l:jc):Prop where
 i:∀z,(l.itoa z).length≤30
 f:∀z,(l.flt z).length≤2000010
def wTs(ts:List (Int×List UInt8)):Nat:=(ts.map fun p=>p.2.length+2).sum
theorem qht:∀(ts:List (Int×List UInt8)) (i:Nat),(Ye ts i).length≤wTs ts
 | [],i=>by simp[Ye]
 | p::r,0=>by simp only[Ye,Vo,wTs,KD,WA];omega
 | p::r,i+1=>by
  have:=qht r i
  simp only[Ye,K7,wTs,KD,WA]at this ⊢;omega
theorem qeL:∀(ts:List (Int×List UInt8)) (i:Nat),(yu ts i).length≤wTs ts
 | [],i=>by simp[yu]
 | p::r,0=>by
  simp only[yu,Vo,wTs,KD,WA];split <;> (try simp only[zg,zm,zt]) <;> omega
 | p::r,i+1=>by
  have:=qeL r i
  simp only[yu,K7,wTs,KD,WA]at this ⊢;omega
theorem qns:∀(ts:List (Int×List UInt8)),(yu ts 0).length+(yu ts 1).length≤wTs ts
 | []=>by simp[yu]
 | p::r=>by
  have h1:=qeL r 0
  have h0:(yu (p::r) 0).length≤p.2.length+2:=by
   simp only[yu,Vo];split <;> (try simp only[zg,zm,zt]) <;> omega
  have h2:yu (p::r) 1=yu r 0:=by simp only[yu,K7]
  rw[h2];simp only[wTs,KD,WA]at h1 ⊢;omega
theorem qpE(o:Int):(qaJ o).length≤2:=by
 unfold qaJ
 repeat' split
 all_goals simp
mutual
theorem YU{l:jc}(hl:LeafLen l):∀x:Ex,(jU l x).length+2≤2000064*wE x
 | .mk op p b i f nm es=>by
  have h:=textEs_le hl es;have h1:=qht (textEs l es) 0
  have h2:=qeL (textEs l es) 0
  have h3:=qns (textEs l es)
  have h4:=qpE op;have h5:=hl.i i;have h6:=hl.f f;have hn:nm.data.toList.length=nm.size:=by rw[Kv];rfl
  simp only[jU,wE]
  repeat' split
  all_goals first
   | omega
   | (simp only[zg,zm,zt];omega)
   | (unfold qlI;split <;> (try simp only[zg,zm,zt]) <;> omega)
theorem textEs_le{l:jc}(hl:LeafLen l):∀x:Exs,wTs (textEs l x)≤2000064*wEs x
 | .nil=>by simp[textEs,wTs]
 | .cons e r=>by
  have h1:=YU hl e;have h2:=textEs_le hl r;simp only[textEs,wTs,wEs,KD,WA]at h2 ⊢;omega
end
mutual
theorem qpF{l:jc}(hl:LeafLen l)(M:Nat):∀(x:St_) (n:Nat),n+wS x≤M→(QO l n x).length≤(2000400+3*M)*wS x
 | .mk kd p nm ix ex lo hi tn el,n,h=>by
  simp only[wS]at h;have h1:=textSs_le hl M tn (n+1) (by omega)
  have h2:=textSs_le hl M el (n+1) (by omega)
  have h3:=YU hl ex;have h4:=textEs_le hl ix;have h5:=qht (textEs l ix) 0
  have h6:=hl.i lo;have h7:=hl.i hi;have h8:=YS n;have hn:nm.data.toList.length=nm.size:=by rw[Kv];rfl
  have e:(2000400+3*M)*wS (.mk kd p nm ix ex lo hi tn el)=(2000400+3*M)+(2000400+3*M)*nm.size+(2000400+3*M)*wEs ix+(2000400+3*M)*wE ex+(2000400+3*M)*wSs tn+(2000400+3*M)*wSs el:=by
   simp only[wS,Ky,KW]
  have m1:nm.size≤(2000400+3*M)*nm.size:=Nat.le_mul_of_pos_left _ (by omega)
  have m2:2000064*wEs ix≤(2000400+3*M)*wEs ix:=zF _ (by omega)
  have m3:2000064*wE ex≤(2000400+3*M)*wE ex:=zF _ (by omega)
  rw[e];generalize (2000400+3*M)*nm.size=a1 at *
  generalize (2000400+3*M)*wEs ix=a2 at *
  generalize (2000400+3*M)*wE ex=a3 at *
  generalize (2000400+3*M)*wSs tn=a4 at *
  generalize (2000400+3*M)*wSs el=a5 at *
  simp only[QO];split
  · unfold qs8
    split <;> simp only[zg,zm,zt] <;> omega
  · split
    · split <;> simp only[zg,zm,zt] <;> omega
    · split
      · simp only[zg,zm,zt];omega
      · simp
theorem textSs_le{l:jc}(hl:LeafLen l)(M:Nat):∀(x:Sts) (n:Nat),n+wSs x≤M→(textSs l n x).length≤(2000400+3*M)*wSs x
 | .nil,n,_=>by simp[textSs]
 | .cons s r,n,h=>by
  simp only[wSs]at h;have h1:=qpF hl M s n (by omega)
  have h2:=textSs_le hl M r n (by omega)
  simp only[textSs,wSs,zg,Ky];omega
end
theorem qi0{l:jc}(hl:LeafLen l)(es:Sts)(h:wSs es≤10000):(Jq l 0 es).length≤30000000000:=by
 have h1:=textSs_le hl 10001 es (0+1) (by omega)
 have h2:(2000400+3*10001)*wSs es≤(2000400+3*10001)*10000:=zX _ h
 have h8:=YS 0
 simp only[Jq,zg,zm,zt];omega
theorem qpG(t:Int):(qgb t).length≤5:=by
 unfold qgb
 repeat' split
 all_goals simp
theorem qpH{l:jc}(hl:LeafLen l)(d:Dc):(Z1 l d).length≤6001000*wD d:=by
 have h1:=YU hl d.lo;have h2:=YU hl d.hi;have h3:=hl.i d.len;have h4:=qpG d.ty;have hn:d.nm.data.toList.length=d.nm.size:=by rw[Kv];rfl
 simp only[Z1,wD]
 repeat' split
 all_goals (simp only[zg,zm,zt];omega)
theorem qgc{l:jc}(hl:LeafLen l):∀ds:List Dc,(yI l ds).length≤6001000*wDs ds
 | []=>by simp[yI]
 | d::r=>by
  have h1:=qpH hl d;have h2:=qgc hl r;unfold yI at h2 ⊢
  simp only[KD,VF,zg,wDs];omega
theorem qnt{l:jc}(hl:LeafLen l)(p:Pg)(h:wP p≤10000):(YB l p).length≤200000000000:=by
 unfold wP at h;have h1:=qgc hl p.ds;have h2:=qi0 hl p.ini (by omega)
 have h3:=qi0 hl p.step (by omega)
 have h4:=hl.i p.ticks;simp only[YB,zg,zm,zt];omega
end Fly
end
section
namespace Go.Proofs
open Go.Shelf
def Tryz.repN_ren:Go.Shelf.Ren:=⟨fun | 105=>102 | 212=>149 | 99=>126 | 165=>150 | 166=>144 | 170=>151 | 169=>88 | 263=>185 | 264=>186 | 206=>171 | 240=>183 | 241=>187 | 276=>204 | 277=>209 | n=>n,fun | 9=>9 | 3=>3 | 4=>4 | 20=>20 | 0=>0 | 46=>28 | 109=>198 | 5=>5 | 72=>131 | 76=>194 | 51=>105 | 146=>227 | 53=>22 | 148=>229 | 70=>128 | 37=>129 | 75=>193 | 127=>191 | 164=>243 | 80=>96 | n=>n,fun | n=>n⟩
theorem Tryz.repN:Go.Proofs.Lays.n105 Tryz.prog Tryz.repN_ren:={
 mixed:=by kernel_rfl
 f99:=Tryz.func126.trans (congrArg some (by kernel_rfl))
 f105:=Tryz.func102.trans (congrArg some (by kernel_rfl))
 f165:=Tryz.func150.trans (congrArg some (by kernel_rfl))
 f166:=Tryz.func144.trans (congrArg some (by kernel_rfl))
 f169:=Tryz.func88.trans (congrArg some (by kernel_rfl))
 f170:=Tryz.func151.trans (congrArg some (by kernel_rfl))
 f206:=Tryz.func171.trans (congrArg some (by kernel_rfl))
 f212:=Tryz.func149.trans (congrArg some (by kernel_rfl))
 f240:=Tryz.func183.trans (congrArg some (by kernel_rfl))
 f241:=Tryz.func187.trans (congrArg some (by kernel_rfl))
 f263:=Tryz.func185.trans (congrArg some (by kernel_rfl))
 f264:=Tryz.func186.trans (congrArg some (by kernel_rfl))
 f276:=Tryz.func204.trans (congrArg some (by kernel_rfl))
 f277:=Tryz.func209.trans (congrArg some (by kernel_rfl))
 t0:=Tryz.underlying0
 a0:=Tryz.isAgg0
 z0:=Tryz.sizeOf0
 v0:=Tryz.zeroValue0
 t3:=Tryz.underlying3
 a3:=Tryz.isAgg3
 z3:=Tryz.sizeOf3
 v3:=Tryz.zeroValue3
 t4:=Tryz.underlying4
 a4:=Tryz.isAgg4
 z4:=Tryz.sizeOf4
 v4:=Tryz.zeroValue4
 t5:=Tryz.underlying5
 a5:=Tryz.isAgg5
 z5:=Tryz.sizeOf5
 v5:=Tryz.zeroValue5
 t9:=Tryz.underlying9
 a9:=Tryz.isAgg9
 z9:=Tryz.sizeOf9
 v9:=Tryz.zeroValue9
 t20:=Tryz.underlying20
 a20:=Tryz.isAgg20
 z20:=Tryz.sizeOf20
 v20:=Tryz.zeroValue20
 t37:=Tryz.underlying129
 a37:=Tryz.isAgg129
 z37:=Tryz.sizeOf129
 v37:=Tryz.zeroValue129
 t46:=Tryz.underlying28
 a46:=Tryz.isAgg28
 z46:=Tryz.sizeOf28
 v46:=Tryz.zeroValue28
 t51:=Tryz.underlying105
 a51:=Tryz.isAgg105
 z51:=Tryz.sizeOf105
 v51:=Tryz.zeroValue105
 t53:=Tryz.underlying22
 a53:=Tryz.isAgg22
 z53:=Tryz.sizeOf22
 v53:=Tryz.zeroValue22
 t70:=Tryz.underlying128
 a70:=Tryz.isAgg128
 z70:=Tryz.sizeOf128
 v70:=Tryz.zeroValue128
 t72:=Tryz.underlying131
 a72:=Tryz.isAgg131
 z72:=Tryz.sizeOf131
 v72:=Tryz.zeroValue131
 t75:=Tryz.underlying193
 a75:=Tryz.isAgg193
 z75:=Tryz.sizeOf193
 v75:=Tryz.zeroValue193
 t76:=Tryz.underlying194
 a76:=Tryz.isAgg194
 z76:=Tryz.sizeOf194
 v76:=Tryz.zeroValue194
 t109:=Tryz.underlying198
 a109:=Tryz.isAgg198
 z109:=Tryz.sizeOf198
 v109:=Tryz.zeroValue198
 t127:=Tryz.underlying191
 a127:=Tryz.isAgg191
 z127:=Tryz.sizeOf191
 v127:=Tryz.zeroValue191
 t146:=Tryz.underlying227
 a146:=Tryz.isAgg227
 z146:=Tryz.sizeOf227
 v146:=Tryz.zeroValue227
 t148:=Tryz.underlying229
 a148:=Tryz.isAgg229
 z148:=Tryz.sizeOf229
 v148:=Tryz.zeroValue229
 t164:=Tryz.underlying243
 a164:=Tryz.isAgg243
 z164:=Tryz.sizeOf243
 v164:=Tryz.zeroValue243 }
end Go.Proofs
end
section
namespace Go.Proofs
open Go.Shelf
def Tryz.idxB_ren:Go.Shelf.Ren:=⟨fun | 137=>125 | 217=>170 | 266=>194 | n=>n,fun | 9=>9 | 5=>5 | 3=>3 | n=>n,fun | n=>n⟩
theorem Tryz.idxB:Go.Proofs.Lays.n137 Tryz.prog Tryz.idxB_ren:={
 mixed:=by kernel_rfl
 f137:=Tryz.func125.trans (congrArg some (by kernel_rfl))
 f217:=Tryz.func170.trans (congrArg some (by kernel_rfl))
 f266:=Tryz.func194.trans (congrArg some (by kernel_rfl))
 t3:=Tryz.underlying3
 a3:=Tryz.isAgg3
 z3:=Tryz.sizeOf3
 v3:=Tryz.zeroValue3
 t5:=Tryz.underlying5
 a5:=Tryz.isAgg5
 z5:=Tryz.sizeOf5
 v5:=Tryz.zeroValue5
 t9:=Tryz.underlying9
 a9:=Tryz.isAgg9
 z9:=Tryz.sizeOf9
 v9:=Tryz.zeroValue9 }
def Tryz.itoa_ren:Go.Shelf.Ren:=⟨fun | 171=>94 | 243=>145 | 246=>184 | 283=>205 | 284=>206 | 285=>207 | 286=>208 | 129=>122 | 317=>224 | 318=>225 | 319=>226 | 320=>227 | 337=>235 | 338=>236 | n=>n,fun | 3=>3 | 9=>9 | 2=>2 | 4=>4 | 171=>245 | 0=>0 | 53=>22 | 37=>129 | 5=>5 | 173=>247 | 212=>266 | 51=>105 | 20=>20 | 213=>267 | 46=>28 | 232=>282 | 233=>283 | n=>n,fun | 17=>4 | 18=>7 | 19=>8 | n=>n⟩
theorem Tryz.itoa:Go.Proofs.LaysM.n171 Tryz.prog Tryz.itoa_ren:={
 mixed:=by kernel_rfl
 f129:=Tryz.func122.trans (congrArg some (by kernel_rfl))
 f171:=Tryz.func94.trans (congrArg some (by kernel_rfl))
 f243:=Tryz.func145.trans (congrArg some (by kernel_rfl))
 f246:=Tryz.func184.trans (congrArg some (by kernel_rfl))
 f283:=Tryz.func205.trans (congrArg some (by kernel_rfl))
 f284:=Tryz.func206.trans (congrArg some (by kernel_rfl))
 f285:=Tryz.func207.trans (congrArg some (by kernel_rfl))
 f286:=Tryz.func208.trans (congrArg some (by kernel_rfl))
 f317:=Tryz.func224.trans (congrArg some (by kernel_rfl))
 f318:=Tryz.func225.trans (congrArg some (by kernel_rfl))
 f319:=Tryz.func226.trans (congrArg some (by kernel_rfl))
 f320:=Tryz.func227.trans (congrArg some (by kernel_rfl))
 f337:=Tryz.func235.trans (congrArg some (by kernel_rfl))
 f338:=Tryz.func236.trans (congrArg some (by kernel_rfl))
 t0:=Tryz.underlying0
 a0:=Tryz.isAgg0
 z0:=Tryz.sizeOf0
 v0:=Tryz.zeroValue0
 t2:=Tryz.underlying2
 a2:=Tryz.isAgg2
 z2:=Tryz.sizeOf2
 v2:=Tryz.zeroValue2
 t3:=Tryz.underlying3
 a3:=Tryz.isAgg3
 z3:=Tryz.sizeOf3
 v3:=Tryz.zeroValue3
 t4:=Tryz.underlying4
 a4:=Tryz.isAgg4
 z4:=Tryz.sizeOf4
 v4:=Tryz.zeroValue4
 t5:=Tryz.underlying5
 a5:=Tryz.isAgg5
 z5:=Tryz.sizeOf5
 v5:=Tryz.zeroValue5
 t9:=Tryz.underlying9
 a9:=Tryz.isAgg9
 z9:=Tryz.sizeOf9
 v9:=Tryz.zeroValue9
 t20:=Tryz.underlying20
 a20:=Tryz.isAgg20
 z20:=Tryz.sizeOf20
 v20:=Tryz.zeroValue20
 t37:=Tryz.underlying129
 a37:=Tryz.isAgg129
 z37:=Tryz.sizeOf129
 v37:=Tryz.zeroValue129
 t46:=Tryz.underlying28
 a46:=Tryz.isAgg28
 z46:=Tryz.sizeOf28
 v46:=Tryz.zeroValue28
 t51:=Tryz.underlying105
 a51:=Tryz.isAgg105
 z51:=Tryz.sizeOf105
 v51:=Tryz.zeroValue105
 t53:=Tryz.underlying22
 a53:=Tryz.isAgg22
 z53:=Tryz.sizeOf22
 v53:=Tryz.zeroValue22
 t171:=Tryz.underlying245
 a171:=Tryz.isAgg245
 z171:=Tryz.sizeOf245
 v171:=Tryz.zeroValue245
 t173:=Tryz.underlying247
 a173:=Tryz.isAgg247
 z173:=Tryz.sizeOf247
 v173:=Tryz.zeroValue247
 t212:=Tryz.underlying266
 a212:=Tryz.isAgg266
 z212:=Tryz.sizeOf266
 v212:=Tryz.zeroValue266
 t213:=Tryz.underlying267
 a213:=Tryz.isAgg267
 z213:=Tryz.sizeOf267
 t232:=Tryz.underlying282
 a232:=Tryz.isAgg282
 z232:=Tryz.sizeOf282
 v232:=Tryz.zeroValue282
 t233:=Tryz.underlying283
 a233:=Tryz.isAgg283
 z233:=Tryz.sizeOf283
 v233:=Tryz.zeroValue283
 g17:=by kernel_rfl
 g18:=by kernel_rfl
 g19:=by kernel_rfl
 i0:=by kernel_rfl
 i2:=by kernel_rfl
 i3:=by kernel_rfl
 i4:=by kernel_rfl
 i5:=by kernel_rfl
 i9:=by kernel_rfl
 i20:=by kernel_rfl
 i37:=by kernel_rfl
 i46:=by kernel_rfl
 i51:=by kernel_rfl
 i53:=by kernel_rfl
 i171:=by kernel_rfl
 i173:=by kernel_rfl
 i212:=by kernel_rfl
 i232:=by kernel_rfl
 i233:=by kernel_rfl
 m17:=by kernel_rfl
 m18:=by kernel_rfl
 m19:=by kernel_rfl }
end Go.Proofs
end
section
namespace Su
open Go Fly
def bs(l:List UInt8):ByteArray:=⟨l.toArray⟩
def lb(b:ByteArray):List UInt8:=b.data.toList
theorem qi1(b:ByteArray):bs (lb b)=b:=by
 apply ByteArray.ext
 show b.data.toList.toArray=b.data
 exact Vp
theorem qgd(l:List UInt8):lb (bs l)=l:=rfl
theorem jO(l:List UInt8):(bs l).size=l.length:=by
 show l.toArray.size=_
 simp
theorem qvO(l:List UInt8)(i:Nat):(bs l)[i]?=l[i]?:=by
 by_cases h:i<l.length
 · rw[zB h,getElem?_pos (bs l) i (by rw[jO];exact h)]
   rfl
 · rw[Ki (by omega),getElem?_neg (bs l) i (by rw[jO];exact h)]
theorem qpI(l:List UInt8)(a b:Nat):(bs l).extract a b=bs ((l.drop a).take (b-a)):=by
 apply ByteArray.ext
 rw[ByteArray.data_extract];apply Array.toList_inj.1
 simp[bs,List.extract_eq_take_drop]
theorem J5(l m:List UInt8):bs l++bs m=bs (l++m):=by
 apply ByteArray.ext
 rw[ByteArray.data_append];simp[bs]
theorem qpJ{l m:List UInt8}:bs l=bs m↔l=m:=⟨fun h=>by
 have:=congrArg lb h
 exact this,fun h=>by rw[h]⟩
theorem qi2(l:List UInt8):ByteArray.mk (List.toArray l)=bs l:=rfl
theorem qvP(l:List Int):byI l=bs (l.map fun n=>UInt8.ofNat n.toNat):=rfl
theorem onB{P:ByteArray→Prop}(h:∀l,P (bs l))(b:ByteArray):P b:=by rw[← qi1 b];exact h _
theorem qvQ(l m:List UInt8):decide (bs l=bs m)=decide (l=m):=by
 by_cases h:l=m
 · rw[zf h,zf (qpJ.2 h)]
 · rw[zp h,zp (fun e=>h (qpJ.1 e))]
def yv(c:UInt8)(l:List UInt8):List UInt8:=(l.reverse.dropWhile (· == c)).reverse
theorem Qw(c x:UInt8)(l:List UInt8):yv c (l++[x])=bif x == c then yv c l else l++[x]:=by
 unfold yv;rw[List.reverse_append,List.reverse_singleton,List.singleton_append,List.dropWhile_cons];cases h:x == c <;> simp
def dgT:Nat→Nat→List UInt8
 | 0,n=>[UInt8.ofNat (48+n % 10)]
 | f+1,n=>bif Nat.blt n 10 then[UInt8.ofNat (48+n)]else dgT f (n / 10)++[UInt8.ofNat (48+n % 10)]
def dg(n:Nat):List UInt8:=dgT n n
theorem qpK:∀(f g n:Nat),n≤f→n≤g→dgT f n=dgT g n
 | 0,0,_,_,_=>rfl
 | 0,g+1,n,h,_=>by
  have:n=0:=by omega
  subst this;rfl
 | f+1,0,n,_,h=>by
  have:n=0:=by omega
  subst this;rfl
 | f+1,g+1,n,h1,h2=>by
  unfold dgT;cases h:Nat.blt n 10 with
  | true=>rfl
  | false=>
   rw[zo,zo,qpK f g (n / 10) (by omega) (by omega)]
theorem qbO{n:Nat}(h:n<10):dg n=[UInt8.ofNat (48+n)]:=by
 unfold dg;cases n with
 | zero=>rfl
 | succ n=>
  unfold dgT;rw[show Nat.blt (n+1) 10=true by rw[VO];exact h,zd]
theorem qeM{n:Nat}(h:10≤n):dg n=dg (n / 10)++[UInt8.ofNat (48+n % 10)]:=by
 obtain⟨m,rfl⟩:∃m,n=m+1:=⟨n-1,by omega⟩
 have hb:Nat.blt (m+1) 10=false:=by
  cases hb:Nat.blt (m+1) 10 with
  | false=>rfl
  | true=>rw[VO]at hb;omega
 have e:dgT (m+1) (m+1)=dgT m ((m+1) / 10)++[UInt8.ofNat (48+(m+1) % 10)]:=by
  rw[dgT,hb,zo]
 unfold dg;rw[e,qpK m _ _ (by omega) (zJ _)]
def dv(l:List UInt8):Nat:=l.foldl (fun n c=>n*10+(c.toNat-48)) 0
theorem qhu{n:Nat}(h:n<10):(UInt8.ofNat (48+n)).toNat=48+n:=by
 rw[UInt8.toNat_ofNat'];omega
theorem quv(n:Nat):dg n≠[]:=by
 by_cases h:n<10
 · rw[qbO h];simp
 · rw[qeM (by omega)];simp
def qeN(c:UInt8):List UInt8→Int
 | []=>-1
 | b::l=>bif b == c then 0 else bif decide (qeN c l = -1)then -1 else qeN c l+1
def qpL(p:ByteArray×Int):Option Int:=some (qeN (UInt8.ofNat p.2.toNat) (lb p.1))
theorem qlJ(c:UInt8):∀l,-1≤qeN c l∧qeN c l<(l.length:Int)
 | []=>⟨Int.le_refl _,by show(-1:Int)<0;omega⟩
 | b::l=>by
  obtain⟨h1,h2⟩:=qlJ c l;unfold qeN;rw[zm];cases b == c with
  | true=>exact⟨by simp only[zd];omega,by simp only[zd];omega⟩
  | false=>
   simp only[zo];by_cases h:qeN c l = -1
   · rw[zf h];exact⟨by simp only[zd];omega,by simp only[zd];omega⟩
   · rw[zp h];exact⟨by simp only[zo];omega,by simp only[zo];omega⟩
def itT(n:Int):List UInt8:=bif decide (n<0)then 45::dg n.natAbs else dg n.toNat
def qge(n:Int):Option ByteArray:=bif decide (-1000000≤n)&&decide (n≤1000000)then some (bs (itT n))else none
theorem qhv{n:Int}(h : -1000000≤n)(h2:n≤1000000):(itT n).length≤1000002:=by
 have key:∀m,(dg m).length≤m+1:=by
  intro m;induction m using Nat.strongRecOn with
  | ind m ih=>
   by_cases h:m<10
   · rw[qbO h];simp
   · rw[qeM (by omega)]
     have:=ih (m / 10) (by omega)
     simp;omega
 unfold itT;have k1:=key n.natAbs;have k2:=key n.toNat;cases decide (n<0) <;> simp <;> omega
end Su
end
section
namespace Su
noncomputable section
open Go Go.Proofs Fly
abbrev OkT(f:Nat)(p:PrimD):Prop:=Ok1 Tryz.prog tb qlH.sound f p
abbrev PkT(q:jj):Prop:=Ju Tryz.prog tb qlH.sound q
theorem qlK(c:UInt8):∀l,Lib.indexByte l c=qeN c l
 | []=>rfl
 | b::l=>by
  unfold Lib.indexByte qeN;rw[qlK c l];cases b == c with
  | true=>rfl
  | false=>
   simp only[zo];by_cases h:qeN c l = -1
   · simp[h]
   · simp[h]
def qpM:PrimD:=prim (dc cS (d1 (cI .u8))) (d1 (cI .i64)) qpL
theorem qky{V:qa}{w:World}(hs:qaM V w):Holds ⟨keys [],w,V,fun _ _ _=>False⟩ V [] w :=
 ⟨Ext.refl _ _,hs,(fun p hp=>by cases hp),(fun p hp=>by cases hp),.nil,Sub.refl _,fun r h0 hr=>absurd h0 hr⟩
theorem qvR:OkT 125 qpM:=by
 refine⟨by kernel_rfl,fun xs y h V vs _ hr=>?_,fun j hj=>nomatch hj⟩
 obtain⟨p,h1,h2⟩:=osm (show((dc cS (d1 (cI .u8))).dec xs).bind qpL=some y from h)
 have hr2:=(dc cS (d1 (cI .u8))).rep h1 hr
 have hg:=(dc cS (d1 (cI .u8))).rng hr2
 obtain⟨s,c⟩:=p;have:=soi h2;subst this
 cases hr2 with | cons k1 k2=>
 cases k2 with | cons k2 k3=>
 cases k3 with | nil=>
 cases k1 with | s k1=>
 cases k2 with | s k2=>
 intro w hs _ _ _;refine(Any.strings_IndexByte Tryz.idxB s c w).mono ?_
 rintro e w' ⟨rfl,rfl⟩
 refine⟨_,V,[],rfl,qky hs,[_],.cons (.s (v:=.int .i64 (qeN (UInt8.ofNat c.toNat) (lb s))) ?_) .nil,?_⟩
 · have hl:s.size≤maxLen:=hg.1
   have:=qlJ (UInt8.ofNat c.toNat) (lb s)
   have e:(lb s).length=s.size:=by unfold lb;rw[Kv];rfl
   rw[Q7]at hl;exact Jc.2 ⟨by omega,by omega⟩
 · rw[qlK];rfl
theorem qpN:∀n,Lib.decDigits n=dg n:=by
 intro n;induction n using Nat.strongRecOn with
 | ind n ih=>
  unfold Lib.decDigits;by_cases h:n<10
  · rw[dif_pos h,qbO h]
  · rw[dif_neg h,qeM (by omega),ih (n / 10) (by omega)]
theorem qpO(n:Int):Lib.itoa n=itT n:=by
 unfold Lib.itoa itT;rw[qpN,qpN];by_cases h:n<0
 · rw[zZ h,zf h];rfl
 · rw[zP h,zp h];rfl
def quw:PrimD:=prim (d1 (cI .i64)) (d1 cS) qge
theorem qi3{V:qa}:∀ {l:List Nat} {vs:List Value},RepA V (l.map fun z=>T.s (.int .u64 ((z:Nat):Int))) vs→vs=l.map fun z=>Value.int .u64 ((z:Nat):Int)
 | [],_,.nil=>rfl
 | z::l,_,.cons h h'=>by
  cases h with | s h=>
  rw[KD,qi3 h']
theorem qpP{V:qa}{w:World}(hg:GOK tb V)(hs:qaM V w):Lib.TabIs Tryz.prog w "internal/strconv.uint64pow10" .u64 Lib.pow10Tab:=by
 obtain⟨h1,arr,e,f,h2,h3⟩:=hg.1 4 gT4 rfl
 unfold Lib.TabIs World.var?
 rw[show Tryz.prog.globalNamed "internal/strconv.uint64pow10"=some 4 by kernel_rfl,zk];show(match w.heap[4]? with | some (.cells cs _ _)=>some cs | _=>none)=_
 rw[hs _ _ h2];have hv:arr.toList=[1,10,100,1000,10000,100000,1000000,10000000,100000000,1000000000,10000000000,100000000000,1000000000000,10000000000000,100000000000000,1000000000000000,10000000000000000,100000000000000000,1000000000000000000,10000000000000000000].map fun z:Nat=>Value.int .u64 ((z:Nat):Int):=by
  cases h1 with
  | pt k1 k2 k3=>
   rename_i vs;have hvs:=qi3 (l:=[1,10,100,1000,10000,100000,1000000,10000000,100000000,1000000000,10000000000,100000000000,1000000000000,10000000000000,100000000000000,1000000000000000,10000000000000000,100000000000000000,1000000000000000000,10000000000000000000]) k1
   rw[← hvs];have hl:vs.length=20:=by rw[hvs];rfl
   have hsz:arr.toList.length=20:=by rw[Kv];exact h3
   refine WK fun j=>?_
   by_cases hj:j<20
   · obtain⟨arr',e',f',q1,q2⟩:=k3 j vs[j] (zB (by omega))
     rw[h2]at q1;simp only[za,Obj.cells.injEq]at q1;obtain⟨rfl,_⟩:=q1;rw[zB (show j<vs.length by omega),← q2,zr];simp
   · rw[Ki (by omega),Ki (by omega)]
 have:arr=(Lib.pow10Tab.map fun z=>Value.int .u64 z).toArray:=by
  apply Array.toList_inj.1
  rw[hv];rfl
 rw[this]
theorem qlL{V:qa}{w:World}(hs:qaM V w)(k:Nat)(os:Array Obj):Holds ⟨keys [],w,V,fun _ _ _=>False⟩ V [] (Go.Sort.grow (w.drewN k) os):=by
 have hh:(Go.Sort.grow (w.drewN k) os).heap=w.heap++os:=rfl
 refine⟨⟨rfl,rfl,rfl,by rw[hh];simp,fun i hi _=>?_⟩,fun r o hr=>?_,(fun p hp=>by cases hp),(fun p hp=>by cases hp),.nil,Sub.refl _,fun r h0 hr=>absurd h0 hr⟩
 · rw[hh,Vq hi]
 · have:=hs r o hr
   rw[hh,Vq (zU.1 this).1];exact this
theorem qxs:OkT 94 quw:=by
 refine⟨by kernel_rfl,fun xs y h V vs hgk hr=>?_,fun j hj=>nomatch hj⟩
 obtain⟨n,h1,h2⟩:=osm (show((d1 (cI .i64)).dec xs).bind qge=some y from h)
 have hr2:=(d1 (cI .i64)).rep h1 hr
 obtain⟨h3,h4⟩:=qI h2;have:=soi h4;subst this
 simp only[zh,zM]at h3;cases hr2 with | cons k1 k2=>
 cases k2 with | nil=>
 cases k1 with | s k1=>
 intro w hs _ _ _;refine(Any.strconv_Itoa Tryz.itoa n (by omega) (by omega) w (qpP hgk hs)).mono ?_
 rintro e w' ⟨rfl,k,os,rfl⟩
 refine⟨_,V,[],rfl,qlL hs k os,[_],.cons (.s (v:=.string (bs (itT n))) ?_) .nil,?_⟩
 · refine zK ?_
   show(bs (itT n)).size≤maxLen
   have:=qhv h3.1 h3.2
   rw[jO,Q7];omega
 · rw[qpO];rfl
end
end Su
end
section
namespace Su
open Go Fly
abbrev Stp(S:Type):Type:=S→Option (S ⊕ S)
noncomputable section
variable {P:Program} {B:Bts}
theorem YV{h:BtsOK P B}(hc:B.fns.mp (fun f fn=>match fn.body with | some c=>okC fn.ntmps B.tbl f c | none=>true)=B.fns.mp fun _ _=>true){pr:jj}(hpr:Ju P B.tbl h.sound pr)
 {f:Nat} {α ρ:Type} {d:Dec α} {e:Dec ρ} {g:α→Option ρ} (X:Nat→α→Option ρ) (hgo:(B.go.get f).isSome=true) (heq:∀fu a,qie B.tbl pr (shN B.tbl pr fu 9) fu f (d.enc a) e.dec=X fu a)
 (ok:∀a y,d.good a→g a=some y→∃n,X n a=some y):Ok1 P B.tbl h.sound f (prim d e g) :=
 qdE hc hpr hgo fun a y hg h=>by
  obtain⟨n,hn⟩:=ok a y hg h;exact⟨n,9,n,(heq n a).trans hn⟩
theorem QW{h:BtsOK P B}(hc:B.fns.mp (fun f fn=>match fn.body with | some c=>okC fn.ntmps B.tbl f c | none=>true)=B.fns.mp fun _ _=>true){pr:jj}(hpr:Ju P B.tbl h.sound pr)
 {f:Nat} {α ρ:Type} {d:Dec α} {e:Dec ρ} {g:α→Option ρ} (X:α→Option ρ) (hgo:(B.go.get f).isSome=true) (heq:∀fu a,qie B.tbl pr (shN B.tbl pr fu 9) fu f (d.enc a) e.dec=X a)
 (ok:∀a y,d.good a→g a=some y→X a=some y):Ok1 P B.tbl h.sound f (prim d e g) :=
 qdE hc hpr hgo fun a y hg h=>⟨0,9,0,(heq 0 a).trans (ok a y hg h)⟩
theorem fnL{h:BtsOK P B}(hc:B.fns.mp (fun f fn=>match fn.body with | some c=>okC fn.ntmps B.tbl f c | none=>true)=B.fns.mp fun _ _=>true){pr:jj}(hpr:Ju P B.tbl h.sound pr)
 {f:Nat} {α ρ:Type} {d:Dec α} {e:Dec ρ} {g:α→Option ρ} (hgo:(B.go.get f).isSome=true) (heq:∀fu a,qie B.tbl pr (shN B.tbl pr fu 9) fu f (d.enc a) e.dec=g a):Ok1 P B.tbl h.sound f (prim d e g) :=
 qdE hc hpr hgo fun a y _ h=>⟨0,9,0,(heq 0 a).trans h⟩
end
end Su
end
section
namespace Su
open Go Fly
noncomputable section
def qkz  (f:Int):Option (Bool×Int×Int) :=
 some ((decide ((Int.fdiv f (2^63))=1)),(IntKind.wrap .i64 (Fly.jf Go.BinOp.and .u64 (Int.fdiv f (2^52)) 2047)),(Fly.jf Go.BinOp.and .u64 f 4503599627370495))
def qpQ  (neg:Bool)(exp:Int)(frac:Int):Option (Int×Int) :=
 (bif(decide (exp<0))then
 some ((0:Int),(1:Int))
 else
  (bif(decide (2047<exp))then
  some ((0:Int),(1:Int))
 else
  (bif(decide (4503599627370495<frac))then
  some ((0:Int),(1:Int))
 else
  (bif neg then
  some ((Fly.jf Go.BinOp.or .u64 (Fly.jf Go.BinOp.or .u64 (IntKind.wrap .u64 ((IntKind.wrap .u64 exp)*(2^52))) frac) 9223372036854775808),(0:Int))
 else
  some ((Fly.jf Go.BinOp.or .u64 (IntKind.wrap .u64 ((IntKind.wrap .u64 exp)*(2^52))) frac),(0:Int))))))
def qi4(f:Int):Option (Bool×Int×Int):=some (bS f.toNat,((bK f.toNat / 4503599627370496:Nat):Int),((f.toNat % 4503599627370496:Nat):Int))
theorem fd63(f:Nat)(h:f<18446744073709551616):decide (Int.fdiv (f:Int) (2^63)=1)=bS f:=by
 rw[qa7];refine bB ?_
 rw[qvL];constructor
 · intro h;have:f / 2^63=1:=by omega
   rw[this];rfl
 · intro h;omega
theorem qxt(f:Nat)(h:f<18446744073709551616):IntKind.i64.wrap (jf .and .u64 (Int.fdiv (f:Int) (2^52)) 2047)=((bK f / 4503599627370496:Nat):Int):=by
 have h1:=qdH (f / 2^52) 2047 11 rfl (by omega) (by omega)
 rw[qa7,show(2047:Int)=((2047:Nat):Int) from rfl,h1];unfold bK;rw[w64 (by omega) (by omega)]
 congr 1;omega
theorem qvS(f:Nat)(h:f<18446744073709551616):jf .and .u64 (f:Int) 4503599627370495=((f % 4503599627370496:Nat):Int):=qdH f 4503599627370495 52 rfl h (by omega)
theorem qnu(f:Int)(y:Bool×Int×Int)(hg:(d1 (cI .u64)).good f)(h:qi4 f=some y):qkz f=some y:=by
 obtain⟨n,rfl,hn⟩:=Yn hg;have:=soi h;subst this
 unfold qkz;rw[fd63 n hn,qxt n hn,qvS n hn,zn]
def Zj(p:Bool×Int×Int):Option (Int×Int):=bif decide (0≤p.2.1)&&decide (p.2.1≤2047)&&decide (p.2.2≤4503599627370495)then some (((sgN p.1+4503599627370496*p.2.1.toNat+p.2.2.toNat:Nat):Int),0)else some (0,1)
theorem qpR(p:Bool×Int×Int)(y:Int×Int)(hg:(dc cB (dc (cI .i64) (d1 (cI .u64)))).good p)(h:Zj p=some y):qpQ p.1 p.2.1 p.2.2=some y:=by
 obtain⟨neg,e,fr⟩:=p;obtain⟨_,he,hf⟩:=hg;have he:=Jc.1 he;obtain⟨F,rfl,hF⟩:=Yn hf;unfold Zj at h;unfold qpQ;simp only[]at h ⊢;by_cases h1:e<0
 · rw[zp (show¬(0:Int)≤e by omega)]at h
   rw[zf h1];exact h
 · rw[zf (show(0:Int)≤e by omega)]at h
   rw[zp h1,zo];by_cases h2:2047<e
   · rw[zp (show¬e≤2047 by omega)]at h
     rw[zf h2];exact h
   · rw[zf (show e≤2047 by omega)]at h
     rw[zp h2,zo];by_cases h3:(4503599627370495:Int)<(F:Int)
     · rw[zp (show¬(F:Int)≤4503599627370495 by omega)]at h
       rw[zf h3];exact h
     · rw[zf (show(F:Int)≤4503599627370495 by omega)]at h
       rw[zp h3,zo];obtain⟨E,rfl⟩:∃E:Nat,e=(E:Int):=⟨e.toNat,by omega⟩
       have e1:IntKind.u64.wrap (E:Int)=(E:Int):=yj (by omega) (by omega)
       have e2:IntKind.u64.wrap ((E:Int)*2^52)=((E*2^52:Nat):Int):=by
        rw[show(2:Int)^52=((2^52:Nat):Int) from rfl,← Vs];exact yj (by omega) (by omega)
       have e3:jf .or .u64 ((E*2^52:Nat):Int) (F:Int)=((E*2^52+F:Nat):Int):=by
        rw[qau _ _ (by omega) hF,qdG (by omega)]
       rw[e1,e2,e3];have h:=soi h;subst h;cases neg with
       | true=>
        rw[zd,qs5 _ (by omega)];simp[sgN];omega
       | false=>simp[sgN];omega
end
end Su
end
section
namespace Su
open Go Fly
noncomputable section
def qkA  (f:Int):Option Int :=
 (bif(decide (((((bK f.toNat) / 4503599627370496):Nat):Int)=2047))then
 (bif(decide ((((f.toNat % 4503599627370496):Nat):Int)=0))then
 some 3
 else
  (bif(decide (((((bK f.toNat) / 4503599627370496):Nat):Int)=2047))then
  some 4
 else
  (bif(decide (((((bK f.toNat) / 4503599627370496):Nat):Int)=0))then
  (bif(decide ((((f.toNat % 4503599627370496):Nat):Int)=0))then
  some 0
 else
  (bif(decide (((((bK f.toNat) / 4503599627370496):Nat):Int)=0))then
  some 1
 else
  some 2))
 else
  (bif(decide (((((bK f.toNat) / 4503599627370496):Nat):Int)=0))then
  some 1
 else
  some 2))))
 else
  (bif(decide (((((bK f.toNat) / 4503599627370496):Nat):Int)=2047))then
  some 4
 else
  (bif(decide (((((bK f.toNat) / 4503599627370496):Nat):Int)=0))then
  (bif(decide ((((f.toNat % 4503599627370496):Nat):Int)=0))then
  some 0
 else
  (bif(decide (((((bK f.toNat) / 4503599627370496):Nat):Int)=0))then
  some 1
 else
  some 2))
 else
  (bif(decide (((((bK f.toNat) / 4503599627370496):Nat):Int)=0))then
  some 1
 else
  some 2))))
def pInf  (neg:Bool):Option Int :=
 some (((((sgN neg)+(4503599627370496*(Int.toNat 2047)))+(Int.toNat 0)):Nat):Int)
def qi5(f:Int):Option Int:=some (yg (bK f.toNat):Int)
theorem qnv(f:Int)(y:Int)(hg:(d1 (cI .u64)).good f)(h:qi5 f=some y):qkA f=some y:=by
 obtain⟨n,rfl,hn⟩:=Yn hg;have:=soi h;subst this
 unfold qkA;have hk:bK n=bK n / 4503599627370496*4503599627370496+n % 4503599627370496:=by unfold bK;omega
 have he:bK n / 4503599627370496≤2047:=by have:=qpC n;omega
 have hf:n % 4503599627370496<4503599627370496:=Va _ (by decide)
 have hc:yg (bK n)=_:=(congrArg yg hk).trans (qs6 he hf)
 rw[zn,hc];generalize bK n / 4503599627370496=e at *
 generalize n % 4503599627370496=f at *
 rw[show(2047:Int)=((2047:Nat):Int) from rfl,show(0:Int)=((0:Nat):Int) from rfl];simp only[qhq,YR];by_cases h1:e=2047
 · by_cases h2:f=0 <;> simp[h1,h2]
 · by_cases h3:e=0
   · by_cases h2:f=0 <;> simp[h3,h2]
   · simp[h1,h3]
def qpS(neg:Bool):Option Int:=some ((sgN neg+9218868437227405312:Nat):Int)
theorem qs9(neg:Bool)(y:Int)(hg:(d1 cB).good neg)(h:qpS neg=some y):pInf neg=some y:=by
 have:=soi h;subst this
 cases neg <;> rfl
end
end Su
end
section
namespace Su
open Go Fly
noncomputable section
def qkB  (f:Int):Option (Int×Int) :=
 (bif(decide ((((yg (bK f.toNat)):Nat):Int)=2))then
 some ((Fly.jf Go.BinOp.or .u64 4503599627370496 (((f.toNat % 4503599627370496):Nat):Int)),(IntKind.wrap .i64 (((((bK f.toNat) / 4503599627370496):Nat):Int)-1075)))
 else
  (bif(decide ((((yg (bK f.toNat)):Nat):Int)=1))then
  some ((((f.toNat % 4503599627370496):Nat):Int),(-1074))
 else
  some ((0:Int),(0:Int))))
def qvT  (f:Int):Option Bool :=
 some (decide ((((yg (bK f.toNat)):Nat):Int)=4))
def qi6(f:Int):Option (Int×Int):=some ((spM (bK f.toNat):Int),spE (bK f.toNat))
theorem qnw(f:Int)(y:Int×Int)(hg:(d1 (cI .u64)).good f)(h:qi6 f=some y):qkB f=some y:=by
 obtain⟨n,rfl,hn⟩:=Yn hg;have:=soi h;subst this
 unfold qkB;rw[zn];have hk:bK n % 4503599627370496=n % 4503599627370496:=by unfold bK;omega
 have hl:=qpC n;rw[← hk];generalize bK n=k at *
 have h2:decide (((yg k:Nat):Int)=2)=decide (4503599627370496≤k∧k≤9218868437227405311):=by
  rw[show(2:Int)=((2:Nat):Int) from rfl,qpD,ZZ]
  (repeat' split) <;> simp <;> omega
 have h1:decide (((yg k:Nat):Int)=1)=decide (0<k∧k<4503599627370496):=by
  rw[show(1:Int)=((1:Nat):Int) from rfl,qpD,ZZ]
  (repeat' split) <;> simp <;> omega
 rw[h2,h1];unfold spM spE;by_cases c2:4503599627370496≤k∧k≤9218868437227405311
 · have hf:qft k=true:=ZY.2 (by omega)
   have e1:jf .or .u64 4503599627370496 ((k % 4503599627370496:Nat):Int)=((kM k:Nat):Int):=by
    have:=qau 4503599627370496 (k % 4503599627370496) (by omega) (by omega)
    rw[show((4503599627370496:Nat):Int)=4503599627370496 from rfl]at this;rw[this];have h3:=qdG (x:=k % 4503599627370496) (y:=1) (r:=52) (by omega)
    rw[show(1*2^52:Nat)=4503599627370496 from rfl]at h3;rw[h3];unfold kM;rw[zP (by omega)];omega
   rw[zf c2,zd,e1,hf,w64 (by omega) (by omega),beq_dec,zp (by omega)];simp only[zd,Vx,Kq];unfold kE
   congr 2;omega
 · rw[zp c2,zo]
   by_cases c1:0<k∧k<4503599627370496
   · have hf:qft k=true:=ZY.2 (by omega)
     rw[zf c1,zd,hf,beq_dec,zp (by omega)];simp only[zd,Vx,Kq];unfold kE kM;rw[zZ (by omega),show k / 4503599627370496=0 by omega];rfl
   · rw[zp c1,zo]
     by_cases c0:k=0
     · subst c0;rfl
     · have hf:qft k=false:=qpB.2 (by omega)
       rw[hf];rfl
def qpT(f:Int):Option Bool:=some (qfs (bK f.toNat))
theorem qta(f:Int)(y:Bool)(hg:(d1 (cI .u64)).good f)(h:qpT f=some y):qvT f=some y:=by
 have:=soi h;subst this
 unfold qvT;rw[qs7]
end
end Su
end
section
namespace Su
open Go Fly
noncomputable section
def qvU  (f:Int):Option Int :=
 (bif(qfs (bK f.toNat))then
 some f
 else
  some (Fly.jf Go.BinOp.andNot .u64 f 9223372036854775808))
def qpU(f:Int):Option Int:=some (qbL f.toNat:Int)
theorem qtb(f:Int)(y:Int)(hg:(d1 (cI .u64)).good f)(h:qpU f=some y):qvU f=some y:=by
 obtain⟨n,rfl,hn⟩:=Yn hg;have:=soi h;subst this
 unfold qvU qbL;rw[zn,qnm n hn];cases qfs (bK n) <;> rfl
end
end Su
end
section
namespace Su
open Go Fly
noncomputable section
def At  (a:(List Int))(i:Int):Option Int :=
 (bif(decide (i<(List.length a:Int)))then
 (idx a i).bind fun x0=>
 some (IntKind.wrap .u64 x0)
 else
  some 0)
end
end Su
end
