/- natural.Of, natural.word, natural.Cmp. -/
import Derived.Test.YtppeigelbecpbaaGreatB2
set_option linter.unusedVariables false
namespace Go.Am.B
open Go Go.Am.N AV
theorem P1:aN P pe ur (au ur):=aO Sj (by kernel_rfl) (by kernel_rfl) (by kernel_rfl)
theorem I9:aN P q9 kZ (au kZ):=aO Kq (by kernel_rfl) (by kernel_rfl) (by kernel_rfl)
theorem YV:aN P m8 lX (au lX):=aO X1 (by kernel_rfl) (by kernel_rfl) (by kernel_rfl)
theorem val_two {z:Nat→Nat}:val 2 z=z 0+z 1*4294967296:=by simp[val]
theorem RA {x:Nat}:bu T G1 [] 30 ur (au ur) ⟨aM 0 [.int .u64 x],[],0⟩=
  let c2:AV:=int IntKind.u32 (0:Int);let c1:List AV:=[int IntKind.u32 (IntKind.u32.wrap (↑x:Int)),int IntKind.u32 (IntKind.u32.wrap ((↑x:Int).fdiv ((2:Int)^min (Int.toNat (32:Int)) IntKind.u64.bits)))];some (aa.ag [(0:Int)≤(32:Int),(2:Nat)*1≤2^24,cJ 2 fun i↦nth c1 c2 (i+0),(2:Nat)<2^62] (aa.leaf ah.ret [mag (val 2 fun i↦numOf (nth c1 c2 (i+0)))])):=by kernel_rfl
theorem PX {x:Nat} (hx:x<2^64) (K:Nat) (pre:aA):aB P pe K [.int .u64 x] pre (aG (.mag x) []):=by
 refine bE hT eR hm P1 rfl (of_decide_eq_true (by kernel_rfl)) rfl 30 RA (fun _=>?_) K pre
 simp only[aa.all,az,ja]
 refine⟨⟨by omega,by omega,fun i hi=>?_,by omega⟩,cD (congrArg AV.mag ?_)⟩
 ·match i,hi with
  |0,_=>exact⟨x%2^32,by omega,by simp[nth,gN]⟩
  |1,_=>exact⟨x/4294967296,by omega,by simp[nth,iY];omega⟩
 ·rw[val_two]
  simp[nth,numOf,iY]
  omega
theorem XB {n:Nat} {z:Nat→Nat}:aJ T [] [] 30 [0,3,4] (before (au kZ) [1,1,0,1]) ⟨aM 0 [.aq 1 n (ax z)],[],0⟩=
  some (aa.leaf ah.normal ([aq 1 n fun a↦int IntKind.u32 (↑(z a):Int),int IntKind.u64 (0:Int),int IntKind.i64 (IntKind.i64.wrap ((↑n:Int)-(1:Int)))],[])):=by kernel_rfl
theorem LR {n k v:Nat} {z:Nat→Nat}:aJ T [] [9] 30 [0,3,4] [part (au kZ) [1,1,0,1,0,0]] ⟨aD [0,3,4] [.aq 1 n (ax z),.int .u64 v,.int .i64 ((k:Int)-1)],[],0⟩=
  let c2:AV:=aq 1 n fun a↦int IntKind.u32 (↑(z a):Int);let c1:Int:=(↑k:Int)-(1:Int);some (aa.fork (decide (c1≥(0:Int))) (aa.ag [(0:Int)≤(32:Int),(0:Int)≤c1∧c1.toNat<n] (aa.leaf ah.normal ([c2,int IntKind.u64 (IntKind.u64.wrap (↑(BitVec.ofInt IntKind.u64.bits (IntKind.u64.wrap ((↑v:Int)*(2:Int)^min (Int.toNat (32:Int)) IntKind.u64.bits))|||BitVec.ofInt IntKind.u64.bits (IntKind.u64.wrap (↑(z c1.toNat):Int))).toNat:Int)),int IntKind.i64 (IntKind.i64.wrap (c1-(1:Int)))],[]))) (aa.leaf (ah.exit 0) ([c2,int IntKind.u64 (↑v:Int),int IntKind.i64 c1],[]))):=by kernel_rfl
theorem Qb {n k v:Nat} {z:Nat→Nat}:b7 T [] [] 30 kZ (behind (au kZ) [1,1,0,1]) ⟨aD [0,3,4] [.aq 1 n (ax z),.int .u64 v,.int .i64 ((k:Int)-1)],[],0⟩=
  some (aa.leaf ah.ret [int IntKind.u64 (↑v:Int)]):=by kernel_rfl
theorem Ep {z:Nat→Nat} {n k v:Nat} (h:v*2^(32*(k+1))+val (k+1) z=val n z):(v*4294967296+z k)*2^(32*k)+val k z=val n z:=by
 rw[←h,val,fm,Nat.add_mul]
 rw[Nat.mul_assoc]
 omega
theorem Wg {n:Nat} {z:Nat→Nat} (hz:∀i,i<n→z i<2^32) (hn:n≤2) (K:Nat) (pre:aA):aB P q9 K [.aq 1 n (ax z)] pre (aG (.int .u64 (val n z:Nat)) []):=by
 refine gH hT I9 rfl (of_decide_eq_true (by kernel_rfl)) rfl (fun _ c h0=>?_) K pre
 refine aj.hole [1,1,0,1] (by kernel_rfl) (aC.aV hT br hm 30 [0,3,4] XB (by kernel_rfl) ?_)
 intro s' hv
 have hv64:val n z<2^64:=by
  have h1:=ec hz
  have h2:2^(32*n)≤2^(32*2):=Nat.pow_le_pow_right (by omega) (by omega)
  omega
 refine aj.fU (i:=0) (y:=part (au kZ) [1,1,0,1,0,0]) (by kernel_rfl)
  (fun p:Nat×Nat=>⟨aD [0,3,4] [.aq 1 n (ax z),.int .u64 (p.2:Nat),.int .i64 ((p.1:Nat)-1:Int)],[],0⟩)
  (fun p=>p.1≤n∧p.2*2^(32*p.1)+val p.1 z=val n z) (fun p=>p.1) (n,0)
  (cu [] hv h0 rfl ⟨⟨rfl,aF rfl⟩,⟨rfl,aF rfl⟩,⟨rfl,eF (wrap_i64 (by omega) (by omega))⟩,trivial⟩ trivial) ⟨by simp,by simp⟩ ?_
 rintro⟨k,v⟩ ⟨hk,hval⟩
 simp only at hk hval
 refine aj.aV hT br hm 30 [0,3,4] LR (by kernel_rfl) ?_
 simp only[aa.all,az,decide_eq_true_eq,decide_eq_false_iff_not]
 refine⟨fun hb=>?_,fun hb s' hv=>?_⟩
 ·obtain⟨j,rfl⟩:∃j,k=j+1:=⟨k-1,by omega⟩
  have e:(((j+1:Nat):Int)-1).toNat=j:=by omega
  have hzj:=hz j (by omega)
  have hv32:v<2^32:=by
   rcases Nat.lt_or_ge v (2^32)with h|h
   ·exact h
   ·have h1:2^32*2^(32*(j+1))≤v*2^(32*(j+1)):=Nat.mul_le_mul_right _ h
    have h2:2^32≤2^(32*(j+1)):=Nat.pow_le_pow_right (by omega) (by omega)
    have h3:2^32*2^32≤2^32*2^(32*(j+1)):=Nat.mul_le_mul_left _ h2
    omega
  rw[e]
  have hor:IntKind.u64.wrap ((BitVec.ofInt IntKind.u64.bits (IntKind.u64.wrap ((v:Int)*2^min (Int.toNat 32) IntKind.u64.bits))|||BitVec.ofInt IntKind.u64.bits (IntKind.u64.wrap (z j:Int))).toNat:Int)=
    ((v*4294967296+z j:Nat):Int):=by
   rw[sS,bA (x:=(z j:Int)) (by omega) (by omega),bA (x:=(v:Int)*4294967296) (by omega) (by omega)]
   rw[show(v:Int)*4294967296=((v*2^32:Nat):Int) by omega,oN (by omega) (by omega),mV hzj]
  refine⟨⟨by omega,by omega,by omega⟩,fun s' hv=>⟨(j,v*4294967296+z j),cu [] hv h0 rfl ⟨⟨rfl,aF rfl⟩,⟨rfl,eF hor⟩,⟨rfl,eF (by rw[wrap_i64 (by omega) (by omega)];simp only;omega)⟩,trivial⟩ trivial,
   ⟨by simp only;omega,Ep hval⟩,by simp⟩⟩
 ·have hk0:k=0:=by omega
  subst hk0
  have hval:v=val n z:=by simpa [val]using hval
  subst hval
  exact aC.weak (by kernel_rfl) (cu (vs:=[.aq 1 n (ax z),.int .u64 (val n z:Nat),.int .i64 (((0:Nat):Int)-1)]) (ps:=[]) (nx:=0) [] hv h0 rfl ⟨⟨rfl,aF rfl⟩,⟨rfl,aF rfl⟩,⟨rfl,aF rfl⟩,trivial⟩ trivial)
   (aC.fin hT br hm 30 Qb (by kernel_rfl) (bt.refl _))
theorem UJ {n m:Nat} {z y:Nat→Nat}:aJ T G1 [14,19] 30 [0,1,5,4] (before (au lX) [1,1,1,0,1]) ⟨aM 0 [.aq 1 n (ax z),.aq 1 m (ax y)],[],0⟩=
  let c2 : Nat := val m fun i ↦ numOf (ax y i); let c1 : Nat := val n fun i ↦ numOf (ax z i); let c4 : Int := (↑(nl c2) : Int); let c3 : Int := (↑(nl c1) : Int); some (aa.ag [cJ n (ax z), n < 2 ^ 62, cJ m (ax y), m < 2 ^ 62] (aa.fork (c3 != c4) (aa.fork (decide (c3 < c4)) (aa.leaf ah.ret ([mag c1, mag c2, tuple [], int IntKind.i64 (-1 : Int)], [])) (aa.leaf ah.ret ([mag c1, mag c2, tuple [], int IntKind.i64 (1 : Int)], []))) (aa.leaf ah.normal ([mag c1, mag c2, int IntKind.i64 (IntKind.i64.wrap (c3 - (1 : Int))), int IntKind.i64 (0 : Int)], [])))) := by kernel_rfl
theorem JJ {A B k:Nat}:aJ T [] [24,35,44] 30 [0,1,5,4] [part (au lX) [1,1,1,0,1,0,0]] ⟨aD [0,1,5,4] [.mag A,.mag B,.int .i64 ((k:Int)-1),.int .i64 0],[],0⟩=
  let c6 : AV := int IntKind.i64 (0 : Int); let c1 : Int := (↑k : Int) - (1 : Int); let c5 : AV := int IntKind.i64 c1; let c4 : Int := (↑(ay A c1.toNat) : Int); let c3 : Int := (↑(ay B c1.toNat) : Int); let c2 : List Prop := [(0 : Int) ≤ c1 ∧ c1.toNat < nl A, (0 : Int) ≤ c1 ∧ c1.toNat < nl B]; some (aa.fork (decide (c1 ≥ (0 : Int))) (aa.ag c2 (aa.fork (c4 != c3) (aa.ag c2 (aa.fork (decide (c4 < c3)) (aa.leaf ah.ret ([mag A, mag B, c5, int IntKind.i64 (-1 : Int)], [])) (aa.leaf ah.ret ([mag A, mag B, c5, int IntKind.i64 (1 : Int)], [])))) (aa.leaf ah.normal ([mag A, mag B, int IntKind.i64 (IntKind.i64.wrap (c1 - (1 : Int))), c6], [])))) (aa.leaf (ah.exit 0) ([mag A, mag B, c5, c6], []))) := by kernel_rfl
theorem MH {A B k:Nat}:b7 T [] [] 30 lX (behind (au lX) [1,1,1,0,1]) ⟨aD [0,1,5,4] [.mag A,.mag B,.int .i64 ((k:Int)-1),.int .i64 0],[],0⟩=
  some (aa.leaf ah.ret [int IntKind.i64 (0:Int)]):=by kernel_rfl
theorem Vm {n m:Nat} {z y:Nat→Nat} (hz:∀i,i<n→z i<2^32) (hy:∀i,i<m→y i<2^32) (hn:n<2^40) (hm':m<2^40) (K:Nat) (pre:aA):
  aB P m8 K [.aq 1 n (ax z),.aq 1 m (ax y)] pre (aG (.int .i64 (bY (val n z) (val m y))) []):=by
 refine gH hT YV rfl (of_decide_eq_true (by kernel_rfl)) rfl (fun _ c h0=>?_) K pre
 refine aj.hole [1,1,1,0,1] (by kernel_rfl) (aC.aV hT eR hm 30 [0,1,5,4] UJ (by kernel_rfl) ?_)
 have hnl:nl (val n z)≤n:=cq.2 (ec hz)
 generalize hA:val n z=A at*
 generalize hB:val m y=B at*
 simp only[aa.all,az,decide_eq_true_eq,decide_eq_false_iff_not,BI,hA,hB,bne_iff_ne,ne_eq,Int.natCast_inj,bne_eq_false_iff_eq]
 refine⟨⟨eA hz,by omega,eA hy,by omega⟩,fun hb=>⟨fun hb2 s' hv=>?_,fun hb2 s' hv=>?_⟩,fun hb s' hv=>?_⟩
 ·have h1:A<B:=xe (by omega)
  exact eH (us:=[.int .i64 (-1)]) (.inr rfl) hv (by kernel_rfl) (bh (by simp[bY,h1]))
 ·have h1:B<A:=xe (by omega)
  exact eH (us:=[.int .i64 1]) (.inr rfl) hv (by kernel_rfl) (bh (by simp[bY,h1];omega))
 refine aj.fU (i:=0) (y:=part (au lX) [1,1,1,0,1,0,0]) (by kernel_rfl)
  (fun k:Nat=>⟨aD [0,1,5,4] [.mag A,.mag B,.int .i64 ((k:Int)-1),.int .i64 0],[],0⟩)
  (fun k=>k≤nl A∧∀j,k≤j→j<nl A→ay A j=ay B j) id (nl A)
  (cu [] hv h0 rfl ⟨⟨rfl,aF rfl⟩,⟨rfl,aF rfl⟩,⟨rfl,eF (wrap_i64 (by omega) (by omega))⟩,⟨rfl,aF rfl⟩,trivial⟩ trivial) ⟨by simp,fun j h1 h2=>by omega⟩ ?_
 rintro k ⟨hk,hlim⟩
 refine aj.aV hT br hm 30 [0,1,5,4] JJ (by kernel_rfl) ?_
 simp only[aa.all,az,decide_eq_true_eq,decide_eq_false_iff_not,bne_iff_ne,ne_eq,Int.natCast_inj,bne_eq_false_iff_eq]
 refine⟨fun hb2=>?_,fun hb2 s' hv=>?_⟩
 ·obtain⟨j,rfl⟩:∃j,k=j+1:=⟨k-1,by omega⟩
  have e:(((j+1:Nat):Int)-1).toNat=j:=by omega
  rw[e]
  refine⟨⟨by omega,by omega⟩,fun hne=>⟨⟨by omega,by omega⟩,fun hlt s' hv=>?_,fun hlt s' hv=>?_⟩,fun heq s' hv=>?_⟩
  ·have h1:A<B:=xF hb (k:=j) (by omega) (fun i h1 h2=>hlim i (by omega) h2) (by omega)
   exact eH (us:=[.int .i64 (-1)]) (.inr rfl) hv (by kernel_rfl) (bh (by simp[bY,h1]))
  ·have h1:B<A:=xF hb.symm (k:=j) (by omega) (fun i h1 h2=>(hlim i (by omega) (by omega)).symm) (by omega)
   exact eH (us:=[.int .i64 1]) (.inr rfl) hv (by kernel_rfl) (bh (by simp[bY,h1];omega))
  ·refine⟨j,cu [] hv h0 rfl ⟨⟨rfl,aF rfl⟩,⟨rfl,aF rfl⟩,⟨rfl,eF (by rw[wrap_i64 (by omega) (by omega)];omega)⟩,⟨rfl,aF rfl⟩,trivial⟩ trivial,⟨by omega,fun i h1 h2=>?_⟩,by simp⟩
   by_cases hi:i=j
   ·subst hi;exact heq
   ·exact hlim i (by omega) h2
 ·have hk0:k=0:=by omega
  subst hk0
  have hAB:A=B:=Ai hb fun i hi=>hlim i (by omega) hi
  exact aC.weak (by kernel_rfl) (cu (vs:=[.mag A,.mag B,.int .i64 (((0:Nat):Int)-1),.int .i64 0]) (ps:=[]) (nx:=0) [] hv h0 rfl ⟨⟨rfl,aF rfl⟩,⟨rfl,aF rfl⟩,⟨rfl,aF rfl⟩,⟨rfl,aF rfl⟩,trivial⟩ trivial)
   (aC.fin hT br hm 30 MH (by kernel_rfl) (bh (by simp[bY,hAB])))
def zq:Spec:=bq fun l=>match l with
 |[.int .u64 x]=>some (aG (.mag x.toNat) [0≤x∧x<2^64])
 |_=>none
theorem E2:∀K args pre r,zq K args pre=some r→aB P pe K args pre r:=by
 refine bL fun K args r hk hs _=>?_
 split at hs
 ·rename_i x
  simp only[Option.some.injEq]at hs
  subst hs
  intro need
  obtain⟨h1,h2⟩:0≤x∧x<2^64:=need
  obtain⟨y,rfl⟩:=Int.eq_ofNat_of_zero_le h1
  exact PX (x:=y) (by omega) K [] trivial
 ·simp at hs
def x8 (N n:Nat):cr:=aG (.int .u64 (N:Nat)) [n≤2]
theorem MX:∀K args pre r,bq (jb x8) K args pre=some r→aB P q9 K args pre r:=
 bL (oB fun _ _ K hz need=>Wg hz need K [])
def wq (A n B m:Nat):cr:=aG (.int .i64 (bY A B)) [n<2^40,m<2^40]
theorem A7:∀K args pre r,bq (fI wq) K args pre=some r→aB P m8 K args pre r:=
 bL (qg fun _ _ _ _ K hz hy need=>Vm hz hy need.1 need.2 K [])
end Go.Am.B
