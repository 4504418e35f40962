/- natural.Of, natural.word, natural.Cmp. -/
import Derived.Test.YtppeigelbecpbaaGreatB2
set_option linter.unusedVariables false
namespace Go.Am.B
open Go Go.Am.N AV
theorem ZL:aO P qo uC (aq uC):=aP ab3 (by kernel_rfl) (by kernel_rfl) (by kernel_rfl)
theorem VM:aO P yl nu (aq nu):=aP X6 (by kernel_rfl) (by kernel_rfl) (by kernel_rfl)
theorem afP:aO P oE nh (aq nh):=aP WZ (by kernel_rfl) (by kernel_rfl) (by kernel_rfl)
theorem val_two {z:Nat→Nat}:val 2 z=z 0+z 1*4294967296:=by simp[val]
theorem Xp {x:Nat}:bu T G1 [] 30 uC (aq uC) ⟨aM 0 [.int .u64 x],[],0⟩=
  let c2:AV:=int IntKind.u32 (0:Int);let c1:List AV:=[int IntKind.u32 (IntKind.u32.wrap (↑x:Int)),int IntKind.u32 (IntKind.u32.wrap ((↑x:Int).fdiv ((2:Int)^min (Int.toNat (32:Int)) IntKind.u64.bits)))];some (aa.af [(0:Int)≤(32:Int),(2:Nat)*1≤2^24,cT 2 fun i↦nth c1 c2 (i+0),(2:Nat)<2^62] (aa.leaf aj.ret [mag (val 2 fun i↦numOf (nth c1 c2 (i+0)))])):=by kernel_rfl
theorem Wz {x:Nat} (hx:x<2^64) (K:Nat) (pre:aA):az P qo K [.int .u64 x] pre (aF (.mag x) []):=by
 refine bC hT fu hm ZL rfl (of_decide_eq_true (by kernel_rfl)) rfl 30 Xp (fun _=>?_) K pre
 simp only[aa.all,ax,jw]
 refine⟨⟨by omega,by omega,fun i hi=>?_,by omega⟩,de (congrArg AV.mag ?_)⟩
 ·match i,hi with
  |0,_=>exact⟨x%2^32,by omega,by simp[nth,ij]⟩
  |1,_=>exact⟨x/4294967296,by omega,by simp[nth,jC];omega⟩
 ·rw[val_two]
  simp[nth,numOf,jC]
  omega
theorem QD {n:Nat} {z:Nat→Nat}:aG T [] [] 30 [0,3,4] (before (aq nu) [1,1,0,1]) ⟨aM 0 [.ag 1 n (au z)],[],0⟩=
  some (aa.leaf aj.normal ([ag 1 n fun a↦int IntKind.u32 (↑(z a):Int),int IntKind.u64 (0:Int),int IntKind.i64 (IntKind.i64.wrap ((↑n:Int)-(1:Int)))],[])):=by kernel_rfl
theorem Y8 {n k v:Nat} {z:Nat→Nat}:aG T [] [9] 30 [0,3,4] [part (aq nu) [1,1,0,1,0,0]] ⟨aB [0,3,4] [.ag 1 n (au z),.int .u64 v,.int .i64 ((k:Int)-1)],[],0⟩=
  let c2:AV:=ag 1 n fun a↦int IntKind.u32 (↑(z a):Int);let c1:Int:=(↑k:Int)-(1:Int);some (aa.fork (decide (c1≥(0:Int))) (aa.af [(0:Int)≤(32:Int),(0:Int)≤c1∧c1.toNat<n] (aa.leaf aj.normal ([c2,int IntKind.u64 (IntKind.u64.wrap (↑(BitVec.ofInt IntKind.u64.bits (IntKind.u64.wrap ((↑v:Int)*(2:Int)^min (Int.toNat (32:Int)) IntKind.u64.bits))|||BitVec.ofInt IntKind.u64.bits (IntKind.u64.wrap (↑(z c1.toNat):Int))).toNat:Int)),int IntKind.i64 (IntKind.i64.wrap (c1-(1:Int)))],[]))) (aa.leaf (aj.exit 0) ([c2,int IntKind.u64 (↑v:Int),int IntKind.i64 c1],[]))):=by kernel_rfl
theorem aaP {n k v:Nat} {z:Nat→Nat}:bZ T [] [] 30 nu (behind (aq nu) [1,1,0,1]) ⟨aB [0,3,4] [.ag 1 n (au z),.int .u64 v,.int .i64 ((k:Int)-1)],[],0⟩=
  some (aa.leaf aj.ret [int IntKind.u64 (↑v:Int)]):=by kernel_rfl
theorem Iu {z:Nat→Nat} {n k v:Nat} (h:v*2^(32*(k+1))+val (k+1) z=val n z):(v*4294967296+z k)*2^(32*k)+val k z=val n z:=by
 rw[←h,val,fQ,Nat.add_mul]
 rw[Nat.mul_assoc]
 omega
theorem Yd {n:Nat} {z:Nat→Nat} (hz:∀i,i<n→z i<2^32) (hn:n≤2) (K:Nat) (pre:aA):az P yl K [.ag 1 n (au z)] pre (aF (.int .u64 (val n z:Nat)) []):=by
 refine iG hT VM rfl (of_decide_eq_true (by kernel_rfl)) rfl (fun _ c h0=>?_) K pre
 refine ak.hole [1,1,0,1] (by kernel_rfl) (aC.bf hT aX hm 30 [0,3,4] QD (by kernel_rfl) ?_)
 intro s' hv
 have hv64:val n z<2^64:=by
  have h1:=ey hz
  have h2:2^(32*n)≤2^(32*2):=Nat.pow_le_pow_right (by omega) (by omega)
  omega
 refine ak.gk (i:=0) (y:=part (aq nu) [1,1,0,1,0,0]) (by kernel_rfl)
  (fun p:Nat×Nat=>⟨aB [0,3,4] [.ag 1 n (au z),.int .u64 (p.2:Nat),.int .i64 ((p.1:Nat)-1:Int)],[],0⟩)
  (fun p=>p.1≤n∧p.2*2^(32*p.1)+val p.1 z=val n z) (fun p=>p.1) (n,0)
  (cK [] hv h0 rfl ⟨⟨rfl,aH rfl⟩,⟨rfl,aH rfl⟩,⟨rfl,eZ (wrap_i64 (by omega) (by omega))⟩,trivial⟩ trivial) ⟨by simp,by simp⟩ ?_
 rintro⟨k,v⟩ ⟨hk,hval⟩
 simp only at hk hval
 refine ak.bf hT aX hm 30 [0,3,4] Y8 (by kernel_rfl) ?_
 simp only[aa.all,ax,decide_eq_true_eq,decide_eq_false_iff_not]
 refine⟨fun hb=>?_,fun hb s' hv=>?_⟩
 ·obtain⟨j,rfl⟩:∃j,k=j+1:=⟨k-1,by omega⟩
  have e:(((j+1:Nat):Int)-1).toNat=j:=by omega
  have hzj:=hz j (by omega)
  have hv32:v<2^32:=by
   rcases Nat.lt_or_ge v (2^32)with h|h
   ·exact h
   ·have h1:2^32*2^(32*(j+1))≤v*2^(32*(j+1)):=Nat.mul_le_mul_right _ h
    have h2:2^32≤2^(32*(j+1)):=Nat.pow_le_pow_right (by omega) (by omega)
    have h3:2^32*2^32≤2^32*2^(32*(j+1)):=Nat.mul_le_mul_left _ h2
    omega
  rw[e]
  have hor:IntKind.u64.wrap ((BitVec.ofInt IntKind.u64.bits (IntKind.u64.wrap ((v:Int)*2^min (Int.toNat 32) IntKind.u64.bits))|||BitVec.ofInt IntKind.u64.bits (IntKind.u64.wrap (z j:Int))).toNat:Int)=
    ((v*4294967296+z j:Nat):Int):=by
   rw[wP,bH (x:=(z j:Int)) (by omega) (by omega),bH (x:=(v:Int)*4294967296) (by omega) (by omega)]
   rw[show(v:Int)*4294967296=((v*2^32:Nat):Int) by omega,su (by omega) (by omega),nZ hzj]
  refine⟨⟨by omega,by omega,by omega⟩,fun s' hv=>⟨(j,v*4294967296+z j),cK [] hv h0 rfl ⟨⟨rfl,aH rfl⟩,⟨rfl,eZ hor⟩,⟨rfl,eZ (by rw[wrap_i64 (by omega) (by omega)];simp only;omega)⟩,trivial⟩ trivial,
   ⟨by simp only;omega,Iu hval⟩,by simp⟩⟩
 ·have hk0:k=0:=by omega
  subst hk0
  have hval:v=val n z:=by simpa [val]using hval
  subst hval
  exact aC.weak (by kernel_rfl) (cK (vs:=[.ag 1 n (au z),.int .u64 (val n z:Nat),.int .i64 (((0:Nat):Int)-1)]) (ps:=[]) (nx:=0) [] hv h0 rfl ⟨⟨rfl,aH rfl⟩,⟨rfl,aH rfl⟩,⟨rfl,aH rfl⟩,trivial⟩ trivial)
   (aC.fin hT aX hm 30 aaP (by kernel_rfl) (bz.refl _))
theorem Xr {n m:Nat} {z y:Nat→Nat}:aG T G1 [14,19] 30 [0,1,5,4] (before (aq nh) [1,1,1,0,1]) ⟨aM 0 [.ag 1 n (au z),.ag 1 m (au y)],[],0⟩=
  let c2 : Nat := val m fun i ↦ numOf (au y i); let c1 : Nat := val n fun i ↦ numOf (au z i); let c4 : Int := (↑(nl c2) : Int); let c3 : Int := (↑(nl c1) : Int); some (aa.af [cT n (au z), n < 2 ^ 62, cT m (au y), m < 2 ^ 62] (aa.fork (c3 != c4) (aa.fork (decide (c3 < c4)) (aa.leaf aj.ret ([mag c1, mag c2, tuple [], int IntKind.i64 (-1 : Int)], [])) (aa.leaf aj.ret ([mag c1, mag c2, tuple [], int IntKind.i64 (1 : Int)], []))) (aa.leaf aj.normal ([mag c1, mag c2, int IntKind.i64 (IntKind.i64.wrap (c3 - (1 : Int))), int IntKind.i64 (0 : Int)], [])))) := by kernel_rfl
theorem aaS {A B k:Nat}:aG T [] [24,35,44] 30 [0,1,5,4] [part (aq nh) [1,1,1,0,1,0,0]] ⟨aB [0,1,5,4] [.mag A,.mag B,.int .i64 ((k:Int)-1),.int .i64 0],[],0⟩=
  let c6 : AV := int IntKind.i64 (0 : Int); let c1 : Int := (↑k : Int) - (1 : Int); let c5 : AV := int IntKind.i64 c1; let c4 : Int := (↑(ay A c1.toNat) : Int); let c3 : Int := (↑(ay B c1.toNat) : Int); let c2 : List Prop := [(0 : Int) ≤ c1 ∧ c1.toNat < nl A, (0 : Int) ≤ c1 ∧ c1.toNat < nl B]; some (aa.fork (decide (c1 ≥ (0 : Int))) (aa.af c2 (aa.fork (c4 != c3) (aa.af c2 (aa.fork (decide (c4 < c3)) (aa.leaf aj.ret ([mag A, mag B, c5, int IntKind.i64 (-1 : Int)], [])) (aa.leaf aj.ret ([mag A, mag B, c5, int IntKind.i64 (1 : Int)], [])))) (aa.leaf aj.normal ([mag A, mag B, int IntKind.i64 (IntKind.i64.wrap (c1 - (1 : Int))), c6], [])))) (aa.leaf (aj.exit 0) ([mag A, mag B, c5, c6], []))) := by kernel_rfl
theorem Sx {A B k:Nat}:bZ T [] [] 30 nh (behind (aq nh) [1,1,1,0,1]) ⟨aB [0,1,5,4] [.mag A,.mag B,.int .i64 ((k:Int)-1),.int .i64 0],[],0⟩=
  some (aa.leaf aj.ret [int IntKind.i64 (0:Int)]):=by kernel_rfl
theorem Zh {n m:Nat} {z y:Nat→Nat} (hz:∀i,i<n→z i<2^32) (hy:∀i,i<m→y i<2^32) (hn:n<2^40) (hm':m<2^40) (K:Nat) (pre:aA):
  az P oE K [.ag 1 n (au z),.ag 1 m (au y)] pre (aF (.int .i64 (ct (val n z) (val m y))) []):=by
 refine iG hT afP rfl (of_decide_eq_true (by kernel_rfl)) rfl (fun _ c h0=>?_) K pre
 refine ak.hole [1,1,1,0,1] (by kernel_rfl) (aC.bf hT fu hm 30 [0,1,5,4] Xr (by kernel_rfl) ?_)
 have hnl:nl (val n z)≤n:=cI.2 (ey hz)
 generalize hA:val n z=A at*
 generalize hB:val m y=B at*
 simp only[aa.all,ax,decide_eq_true_eq,decide_eq_false_iff_not,EJ,hA,hB,bne_iff_ne,ne_eq,Int.natCast_inj,bne_eq_false_iff_eq]
 refine⟨⟨fc hz,by omega,fc hy,by omega⟩,fun hb=>⟨fun hb2 s' hv=>?_,fun hb2 s' hv=>?_⟩,fun hb s' hv=>?_⟩
 ·have h1:A<B:=AA (by omega)
  exact fk (us:=[.int .i64 (-1)]) (.inr rfl) hv (by kernel_rfl) (br (by simp[ct,h1]))
 ·have h1:B<A:=AA (by omega)
  exact fk (us:=[.int .i64 1]) (.inr rfl) hv (by kernel_rfl) (br (by simp[ct,h1];omega))
 refine ak.gk (i:=0) (y:=part (aq nh) [1,1,1,0,1,0,0]) (by kernel_rfl)
  (fun k:Nat=>⟨aB [0,1,5,4] [.mag A,.mag B,.int .i64 ((k:Int)-1),.int .i64 0],[],0⟩)
  (fun k=>k≤nl A∧∀j,k≤j→j<nl A→ay A j=ay B j) id (nl A)
  (cK [] hv h0 rfl ⟨⟨rfl,aH rfl⟩,⟨rfl,aH rfl⟩,⟨rfl,eZ (wrap_i64 (by omega) (by omega))⟩,⟨rfl,aH rfl⟩,trivial⟩ trivial) ⟨by simp,fun j h1 h2=>by omega⟩ ?_
 rintro k ⟨hk,hlim⟩
 refine ak.bf hT aX hm 30 [0,1,5,4] aaS (by kernel_rfl) ?_
 simp only[aa.all,ax,decide_eq_true_eq,decide_eq_false_iff_not,bne_iff_ne,ne_eq,Int.natCast_inj,bne_eq_false_iff_eq]
 refine⟨fun hb2=>?_,fun hb2 s' hv=>?_⟩
 ·obtain⟨j,rfl⟩:∃j,k=j+1:=⟨k-1,by omega⟩
  have e:(((j+1:Nat):Int)-1).toNat=j:=by omega
  rw[e]
  refine⟨⟨by omega,by omega⟩,fun hne=>⟨⟨by omega,by omega⟩,fun hlt s' hv=>?_,fun hlt s' hv=>?_⟩,fun heq s' hv=>?_⟩
  ·have h1:A<B:=zW hb (k:=j) (by omega) (fun i h1 h2=>hlim i (by omega) h2) (by omega)
   exact fk (us:=[.int .i64 (-1)]) (.inr rfl) hv (by kernel_rfl) (br (by simp[ct,h1]))
  ·have h1:B<A:=zW hb.symm (k:=j) (by omega) (fun i h1 h2=>(hlim i (by omega) (by omega)).symm) (by omega)
   exact fk (us:=[.int .i64 1]) (.inr rfl) hv (by kernel_rfl) (br (by simp[ct,h1];omega))
  ·refine⟨j,cK [] hv h0 rfl ⟨⟨rfl,aH rfl⟩,⟨rfl,aH rfl⟩,⟨rfl,eZ (by rw[wrap_i64 (by omega) (by omega)];omega)⟩,⟨rfl,aH rfl⟩,trivial⟩ trivial,⟨by omega,fun i h1 h2=>?_⟩,by simp⟩
   by_cases hi:i=j
   ·subst hi;exact heq
   ·exact hlim i (by omega) h2
 ·have hk0:k=0:=by omega
  subst hk0
  have hAB:A=B:=Fg hb fun i hi=>hlim i (by omega) hi
  exact aC.weak (by kernel_rfl) (cK (vs:=[.mag A,.mag B,.int .i64 (((0:Nat):Int)-1),.int .i64 0]) (ps:=[]) (nx:=0) [] hv h0 rfl ⟨⟨rfl,aH rfl⟩,⟨rfl,aH rfl⟩,⟨rfl,aH rfl⟩,⟨rfl,aH rfl⟩,trivial⟩ trivial)
   (aC.fin hT aX hm 30 Sx (by kernel_rfl) (br (by simp[ct,hAB])))
def Dk:Spec:=bA fun l=>match l with
 |[.int .u64 x]=>some (aF (.mag x.toNat) [0≤x∧x<2^64])
 |_=>none
theorem LM:∀K args pre r,Dk K args pre=some r→az P qo K args pre r:=by
 refine bS fun K args r hk hs _=>?_
 split at hs
 ·rename_i x
  simp only[Option.some.injEq]at hs
  subst hs
  intro need
  obtain⟨h1,h2⟩:0≤x∧x<2^64:=need
  obtain⟨y,rfl⟩:=Int.eq_ofNat_of_zero_le h1
  exact Wz (x:=y) (by omega) K [] trivial
 ·simp at hs
def y7 (N n:Nat):cJ:=aF (.int .u64 (N:Nat)) [n≤2]
theorem U2:∀K args pre r,bA (jA y7) K args pre=some r→az P yl K args pre r:=
 bS (qx fun _ _ K hz need=>Yd hz need K [])
def yY (A n B m:Nat):cJ:=aF (.int .i64 (ct A B)) [n<2^40,m<2^40]
theorem CO:∀K args pre r,bA (fT yY) K args pre=some r→az P oE K args pre r:=
 bS (qP fun _ _ _ _ K hz hy need=>Zh hz hy need.1 need.2 K [])
end Go.Am.B
