/- natural.Of, natural.word, natural.Cmp. -/
import Derived.Test.YtppeigelbecpbaaGreatB2
set_option linter.unusedVariables false
namespace Go.Am.B
open Go Go.Am.N AV
theorem ahB:aO P sw yQ (au yQ):=aQ aj3 (by kernel_rfl) (by kernel_rfl) (by kernel_rfl)
theorem aeA:aO P v5 pM (au pM):=aQ ahD (by kernel_rfl) (by kernel_rfl) (by kernel_rfl)
theorem Ua:aO P rE oB (au oB):=aQ YR (by kernel_rfl) (by kernel_rfl) (by kernel_rfl)
theorem val_two {z:Nat→Nat}:val 2 z=z 0+z 1*4294967296:=by simp[val]
theorem aeV {x:Nat}:bF T G1 [] 30 yQ (au yQ) ⟨aN 0 [.int .u64 x],[],0⟩=
  let c2:AV:=int IntKind.u32 (0:Int);let c1:List AV:=[int IntKind.u32 (IntKind.u32.wrap (↑x:Int)),int IntKind.u32 (IntKind.u32.wrap ((↑x:Int).fdiv ((2:Int)^min (Int.toNat (32:Int)) IntKind.u64.bits)))];some (aa.ag [(0:Int)≤(32:Int),(2:Nat)*1≤2^24,dB 2 fun i↦nth c1 c2 (i+0),(2:Nat)<2^62] (aa.leaf aj.ret [mag (val 2 fun i↦numOf (nth c1 c2 (i+0)))])):=by kernel_rfl
theorem WL {x:Nat} (hx:x<2^64) (K:Nat) (pre:aC):aB P sw K [.int .u64 x] pre (aK (.mag x) []):=by
 refine bJ hT gj hm ahB rfl (of_decide_eq_true (by kernel_rfl)) rfl 30 aeV (fun _=>?_) K pre
 simp only[aa.all,ax,kB]
 refine⟨⟨by omega,by omega,fun i hi=>?_,by omega⟩,dc (congrArg AV.mag ?_)⟩
 ·match i,hi with
  |0,_=>exact⟨x%2^32,by omega,by simp[nth,jr]⟩
  |1,_=>exact⟨x/4294967296,by omega,by simp[nth,k9];omega⟩
 ·rw[val_two]
  simp[nth,numOf,k9]
  omega
theorem adw {n:Nat} {z:Nat→Nat}:aH T [] [] 30 [0,3,4] (before (au pM) [1,1,0,1]) ⟨aN 0 [.ak 1 n (ay z)],[],0⟩=
  some (aa.leaf aj.normal ([ak 1 n fun a↦int IntKind.u32 (↑(z a):Int),int IntKind.u64 (0:Int),int IntKind.i64 (IntKind.i64.wrap ((↑n:Int)-(1:Int)))],[])):=by kernel_rfl
theorem aii {n k v:Nat} {z:Nat→Nat}:aH T [] [9] 30 [0,3,4] [part (au pM) [1,1,0,1,0,0]] ⟨aA [0,3,4] [.ak 1 n (ay z),.int .u64 v,.int .i64 ((k:Int)-1)],[],0⟩=
  let c2:AV:=ak 1 n fun a↦int IntKind.u32 (↑(z a):Int);let c1:Int:=(↑k:Int)-(1:Int);some (aa.fork (decide (c1≥(0:Int))) (aa.ag [(0:Int)≤(32:Int),(0:Int)≤c1∧c1.toNat<n] (aa.leaf aj.normal ([c2,int IntKind.u64 (IntKind.u64.wrap (↑(BitVec.ofInt IntKind.u64.bits (IntKind.u64.wrap ((↑v:Int)*(2:Int)^min (Int.toNat (32:Int)) IntKind.u64.bits))|||BitVec.ofInt IntKind.u64.bits (IntKind.u64.wrap (↑(z c1.toNat):Int))).toNat:Int)),int IntKind.i64 (IntKind.i64.wrap (c1-(1:Int)))],[]))) (aa.leaf (aj.exit 0) ([c2,int IntKind.u64 (↑v:Int),int IntKind.i64 c1],[]))):=by kernel_rfl
theorem Y8 {n k v:Nat} {z:Nat→Nat}:cm T [] [] 30 pM (behind (au pM) [1,1,0,1]) ⟨aA [0,3,4] [.ak 1 n (ay z),.int .u64 v,.int .i64 ((k:Int)-1)],[],0⟩=
  some (aa.leaf aj.ret [int IntKind.u64 (↑v:Int)]):=by kernel_rfl
theorem Oy {z:Nat→Nat} {n k v:Nat} (h:v*2^(32*(k+1))+val (k+1) z=val n z):(v*4294967296+z k)*2^(32*k)+val k z=val n z:=by
 rw[←h,val,gz,Nat.add_mul]
 rw[Nat.mul_assoc]
 omega
theorem XU {n:Nat} {z:Nat→Nat} (hz:∀i,i<n→z i<2^32) (hn:n≤2) (K:Nat) (pre:aC):aB P v5 K [.ak 1 n (ay z)] pre (aK (.int .u64 (val n z:Nat)) []):=by
 refine jk hT aeA rfl (of_decide_eq_true (by kernel_rfl)) rfl (fun _ c h0=>?_) K pre
 refine aq.hole [1,1,0,1] (by kernel_rfl) (aD.bf hT bk hm 30 [0,3,4] adw (by kernel_rfl) ?_)
 intro s' hv
 have hv64:val n z<2^64:=by
  have h1:=fq hz
  have h2:2^(32*n)≤2^(32*2):=Nat.pow_le_pow_right (by omega) (by omega)
  omega
 refine aq.g8 (i:=0) (y:=part (au pM) [1,1,0,1,0,0]) (by kernel_rfl)
  (fun p:Nat×Nat=>⟨aA [0,3,4] [.ak 1 n (ay z),.int .u64 (p.2:Nat),.int .i64 ((p.1:Nat)-1:Int)],[],0⟩)
  (fun p=>p.1≤n∧p.2*2^(32*p.1)+val p.1 z=val n z) (fun p=>p.1) (n,0)
  (cX [] hv h0 rfl ⟨⟨rfl,aI rfl⟩,⟨rfl,aI rfl⟩,⟨rfl,fN (wrap_i64 (by omega) (by omega))⟩,trivial⟩ trivial) ⟨by simp,by simp⟩ ?_
 rintro⟨k,v⟩ ⟨hk,hval⟩
 simp only at hk hval
 refine aq.bf hT bk hm 30 [0,3,4] aii (by kernel_rfl) ?_
 simp only[aa.all,ax,decide_eq_true_eq,decide_eq_false_iff_not]
 refine⟨fun hb=>?_,fun hb s' hv=>?_⟩
 ·obtain⟨j,rfl⟩:∃j,k=j+1:=⟨k-1,by omega⟩
  have e:(((j+1:Nat):Int)-1).toNat=j:=by omega
  have hzj:=hz j (by omega)
  have hv32:v<2^32:=by
   rcases Nat.lt_or_ge v (2^32)with h|h
   ·exact h
   ·have h1:2^32*2^(32*(j+1))≤v*2^(32*(j+1)):=Nat.mul_le_mul_right _ h
    have h2:2^32≤2^(32*(j+1)):=Nat.pow_le_pow_right (by omega) (by omega)
    have h3:2^32*2^32≤2^32*2^(32*(j+1)):=Nat.mul_le_mul_left _ h2
    omega
  rw[e]
  have hor:IntKind.u64.wrap ((BitVec.ofInt IntKind.u64.bits (IntKind.u64.wrap ((v:Int)*2^min (Int.toNat 32) IntKind.u64.bits))|||BitVec.ofInt IntKind.u64.bits (IntKind.u64.wrap (z j:Int))).toNat:Int)=
    ((v*4294967296+z j:Nat):Int):=by
   rw[vZ,bN (x:=(z j:Int)) (by omega) (by omega),bN (x:=(v:Int)*4294967296) (by omega) (by omega)]
   rw[show(v:Int)*4294967296=((v*2^32:Nat):Int) by omega,uI (by omega) (by omega),rM hzj]
  refine⟨⟨by omega,by omega,by omega⟩,fun s' hv=>⟨(j,v*4294967296+z j),cX [] hv h0 rfl ⟨⟨rfl,aI rfl⟩,⟨rfl,fN hor⟩,⟨rfl,fN (by rw[wrap_i64 (by omega) (by omega)];simp only;omega)⟩,trivial⟩ trivial,
   ⟨by simp only;omega,Oy hval⟩,by simp⟩⟩
 ·have hk0:k=0:=by omega
  subst hk0
  have hval:v=val n z:=by simpa [val]using hval
  subst hval
  exact aD.weak (by kernel_rfl) (cX (vs:=[.ak 1 n (ay z),.int .u64 (val n z:Nat),.int .i64 (((0:Nat):Int)-1)]) (ps:=[]) (nx:=0) [] hv h0 rfl ⟨⟨rfl,aI rfl⟩,⟨rfl,aI rfl⟩,⟨rfl,aI rfl⟩,trivial⟩ trivial)
   (aD.fin hT bk hm 30 Y8 (by kernel_rfl) (bB.refl _))
theorem Yt {n m:Nat} {z y:Nat→Nat}:aH T G1 [14,19] 30 [0,1,5,4] (before (au oB) [1,1,1,0,1]) ⟨aN 0 [.ak 1 n (ay z),.ak 1 m (ay y)],[],0⟩=
  let c2 : Nat := val m fun i ↦ numOf (ay y i); let c1 : Nat := val n fun i ↦ numOf (ay z i); let c4 : Int := (↑(nl c2) : Int); let c3 : Int := (↑(nl c1) : Int); some (aa.ag [dB n (ay z), n < 2 ^ 62, dB m (ay y), m < 2 ^ 62] (aa.fork (c3 != c4) (aa.fork (decide (c3 < c4)) (aa.leaf aj.ret ([mag c1, mag c2, tuple [], int IntKind.i64 (-1 : Int)], [])) (aa.leaf aj.ret ([mag c1, mag c2, tuple [], int IntKind.i64 (1 : Int)], []))) (aa.leaf aj.normal ([mag c1, mag c2, int IntKind.i64 (IntKind.i64.wrap (c3 - (1 : Int))), int IntKind.i64 (0 : Int)], [])))) := by kernel_rfl
theorem ait {A B k:Nat}:aH T [] [24,35,44] 30 [0,1,5,4] [part (au oB) [1,1,1,0,1,0,0]] ⟨aA [0,1,5,4] [.mag A,.mag B,.int .i64 ((k:Int)-1),.int .i64 0],[],0⟩=
  let c6 : AV := int IntKind.i64 (0 : Int); let c1 : Int := (↑k : Int) - (1 : Int); let c5 : AV := int IntKind.i64 c1; let c4 : Int := (↑(az A c1.toNat) : Int); let c3 : Int := (↑(az B c1.toNat) : Int); let c2 : List Prop := [(0 : Int) ≤ c1 ∧ c1.toNat < nl A, (0 : Int) ≤ c1 ∧ c1.toNat < nl B]; some (aa.fork (decide (c1 ≥ (0 : Int))) (aa.ag c2 (aa.fork (c4 != c3) (aa.ag c2 (aa.fork (decide (c4 < c3)) (aa.leaf aj.ret ([mag A, mag B, c5, int IntKind.i64 (-1 : Int)], [])) (aa.leaf aj.ret ([mag A, mag B, c5, int IntKind.i64 (1 : Int)], [])))) (aa.leaf aj.normal ([mag A, mag B, int IntKind.i64 (IntKind.i64.wrap (c1 - (1 : Int))), c6], [])))) (aa.leaf (aj.exit 0) ([mag A, mag B, c5, c6], []))) := by kernel_rfl
theorem aez {A B k:Nat}:cm T [] [] 30 oB (behind (au oB) [1,1,1,0,1]) ⟨aA [0,1,5,4] [.mag A,.mag B,.int .i64 ((k:Int)-1),.int .i64 0],[],0⟩=
  some (aa.leaf aj.ret [int IntKind.i64 (0:Int)]):=by kernel_rfl
theorem aab {n m:Nat} {z y:Nat→Nat} (hz:∀i,i<n→z i<2^32) (hy:∀i,i<m→y i<2^32) (hn:n<2^40) (hm':m<2^40) (K:Nat) (pre:aC):
  aB P rE K [.ak 1 n (ay z),.ak 1 m (ay y)] pre (aK (.int .i64 (cA (val n z) (val m y))) []):=by
 refine jk hT Ua rfl (of_decide_eq_true (by kernel_rfl)) rfl (fun _ c h0=>?_) K pre
 refine aq.hole [1,1,1,0,1] (by kernel_rfl) (aD.bf hT gj hm 30 [0,1,5,4] Yt (by kernel_rfl) ?_)
 have hnl:nl (val n z)≤n:=cT.2 (fq hz)
 generalize hA:val n z=A at*
 generalize hB:val m y=B at*
 simp only[aa.all,ax,decide_eq_true_eq,decide_eq_false_iff_not,IE,hA,hB,bne_iff_ne,ne_eq,Int.natCast_inj,bne_eq_false_iff_eq]
 refine⟨⟨fR hz,by omega,fR hy,by omega⟩,fun hb=>⟨fun hb2 s' hv=>?_,fun hb2 s' hv=>?_⟩,fun hb s' hv=>?_⟩
 ·have h1:A<B:=CR (by omega)
  exact fZ (us:=[.int .i64 (-1)]) (.inr rfl) hv (by kernel_rfl) (bw (by simp[cA,h1]))
 ·have h1:B<A:=CR (by omega)
  exact fZ (us:=[.int .i64 1]) (.inr rfl) hv (by kernel_rfl) (bw (by simp[cA,h1];omega))
 refine aq.g8 (i:=0) (y:=part (au oB) [1,1,1,0,1,0,0]) (by kernel_rfl)
  (fun k:Nat=>⟨aA [0,1,5,4] [.mag A,.mag B,.int .i64 ((k:Int)-1),.int .i64 0],[],0⟩)
  (fun k=>k≤nl A∧∀j,k≤j→j<nl A→az A j=az B j) id (nl A)
  (cX [] hv h0 rfl ⟨⟨rfl,aI rfl⟩,⟨rfl,aI rfl⟩,⟨rfl,fN (wrap_i64 (by omega) (by omega))⟩,⟨rfl,aI rfl⟩,trivial⟩ trivial) ⟨by simp,fun j h1 h2=>by omega⟩ ?_
 rintro k ⟨hk,hlim⟩
 refine aq.bf hT bk hm 30 [0,1,5,4] ait (by kernel_rfl) ?_
 simp only[aa.all,ax,decide_eq_true_eq,decide_eq_false_iff_not,bne_iff_ne,ne_eq,Int.natCast_inj,bne_eq_false_iff_eq]
 refine⟨fun hb2=>?_,fun hb2 s' hv=>?_⟩
 ·obtain⟨j,rfl⟩:∃j,k=j+1:=⟨k-1,by omega⟩
  have e:(((j+1:Nat):Int)-1).toNat=j:=by omega
  rw[e]
  refine⟨⟨by omega,by omega⟩,fun hne=>⟨⟨by omega,by omega⟩,fun hlt s' hv=>?_,fun hlt s' hv=>?_⟩,fun heq s' hv=>?_⟩
  ·have h1:A<B:=Da hb (k:=j) (by omega) (fun i h1 h2=>hlim i (by omega) h2) (by omega)
   exact fZ (us:=[.int .i64 (-1)]) (.inr rfl) hv (by kernel_rfl) (bw (by simp[cA,h1]))
  ·have h1:B<A:=Da hb.symm (k:=j) (by omega) (fun i h1 h2=>(hlim i (by omega) (by omega)).symm) (by omega)
   exact fZ (us:=[.int .i64 1]) (.inr rfl) hv (by kernel_rfl) (bw (by simp[cA,h1];omega))
  ·refine⟨j,cX [] hv h0 rfl ⟨⟨rfl,aI rfl⟩,⟨rfl,aI rfl⟩,⟨rfl,fN (by rw[wrap_i64 (by omega) (by omega)];omega)⟩,⟨rfl,aI rfl⟩,trivial⟩ trivial,⟨by omega,fun i h1 h2=>?_⟩,by simp⟩
   by_cases hi:i=j
   ·subst hi;exact heq
   ·exact hlim i (by omega) h2
 ·have hk0:k=0:=by omega
  subst hk0
  have hAB:A=B:=Gn hb fun i hi=>hlim i (by omega) hi
  exact aD.weak (by kernel_rfl) (cX (vs:=[.mag A,.mag B,.int .i64 (((0:Nat):Int)-1),.int .i64 0]) (ps:=[]) (nx:=0) [] hv h0 rfl ⟨⟨rfl,aI rfl⟩,⟨rfl,aI rfl⟩,⟨rfl,aI rfl⟩,⟨rfl,aI rfl⟩,trivial⟩ trivial)
   (aD.fin hT bk hm 30 aez (by kernel_rfl) (bw (by simp[cA,hAB])))
def Gc:Spec:=bC fun l=>match l with
 |[.int .u64 x]=>some (aK (.mag x.toNat) [0≤x∧x<2^64])
 |_=>none
theorem QI:∀K args pre r,Gc K args pre=some r→aB P sw K args pre r:=by
 refine bV fun K args r hk hs _=>?_
 split at hs
 ·rename_i x
  simp only[Option.some.injEq]at hs
  subst hs
  intro need
  obtain⟨h1,h2⟩:0≤x∧x<2^64:=need
  obtain⟨y,rfl⟩:=Int.eq_ofNat_of_zero_le h1
  exact WL (x:=y) (by omega) K [] trivial
 ·simp at hs
def BQ (N n:Nat):cJ:=aK (.int .u64 (N:Nat)) [n≤2]
theorem afC:∀K args pre r,bC (kW BQ) K args pre=some r→aB P v5 K args pre r:=
 bV (s4 fun _ _ K hz need=>XU hz need K [])
def BO (A n B m:Nat):cJ:=aK (.int .i64 (cA A B)) [n<2^40,m<2^40]
theorem El:∀K args pre r,bC (gP BO) K args pre=some r→aB P rE K args pre r:=
 bV (r4 fun _ _ _ _ K hz hy need=>aab hz hy need.1 need.2 K [])
end Go.Am.B
