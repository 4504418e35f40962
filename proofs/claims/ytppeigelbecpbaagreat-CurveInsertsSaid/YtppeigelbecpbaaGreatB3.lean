/- natural.Of, natural.word, natural.Cmp. -/
import Derived.Test.YtppeigelbecpbaaGreatB2
set_option linter.unusedVariables false
namespace Go.Am.B
open Go Go.Am.N AV
theorem Xf:aP P uk xP (au xP):=aQ akr (by kernel_rfl) (by kernel_rfl) (by kernel_rfl)
theorem R8:aP P vE oc (au oc):=aQ afn (by kernel_rfl) (by kernel_rfl) (by kernel_rfl)
theorem Rr:aP P qX pH (au pH):=aQ afU (by kernel_rfl) (by kernel_rfl) (by kernel_rfl)
theorem val_two {z:Nat→Nat}:val 2 z=z 0+z 1*4294967296:=by simp[val]
theorem aiH {x:Nat}:bC T G1 [] 30 xP (au xP) ⟨aN 0 [.int .u64 x],[],0⟩=
  let c2:AV:=int IntKind.u32 (0:Int);let c1:List AV:=[int IntKind.u32 (IntKind.u32.wrap (↑x:Int)),int IntKind.u32 (IntKind.u32.wrap ((↑x:Int).fdiv ((2:Int)^min (Int.toNat (32:Int)) IntKind.u64.bits)))];some (aa.ag [(0:Int)≤(32:Int),(2:Nat)*1≤2^24,dz 2 fun i↦nth c1 c2 (i+0),(2:Nat)<2^62] (aa.leaf ak.ret [mag (val 2 fun i↦numOf (nth c1 c2 (i+0)))])):=by kernel_rfl
theorem aiS {x:Nat} (hx:x<2^64) (K:Nat) (pre:aC):aA P uk K [.int .u64 x] pre (aG (.mag x) []):=by
 refine bJ hT fN hm Xf rfl (of_decide_eq_true (by kernel_rfl)) rfl 30 aiH (fun _=>?_) K pre
 simp only[aa.all,ax,ki]
 refine⟨⟨by omega,by omega,fun i hi=>?_,by omega⟩,cX (congrArg AV.mag ?_)⟩
 ·match i,hi with
  |0,_=>exact⟨x%2^32,by omega,by simp[nth,iZ]⟩
  |1,_=>exact⟨x/4294967296,by omega,by simp[nth,kD];omega⟩
 ·rw[val_two]
  simp[nth,numOf,kD]
  omega
theorem Tt {n:Nat} {z:Nat→Nat}:aJ T [] [] 30 [0,3,4] (before (au oc) [1,1,0,1]) ⟨aN 0 [.aj 1 n (ay z)],[],0⟩=
  some (aa.leaf ak.normal ([aj 1 n fun a↦int IntKind.u32 (↑(z a):Int),int IntKind.u64 (0:Int),int IntKind.i64 (IntKind.i64.wrap ((↑n:Int)-(1:Int)))],[])):=by kernel_rfl
theorem Ss {n k v:Nat} {z:Nat→Nat}:aJ T [] [9] 30 [0,3,4] [part (au oc) [1,1,0,1,0,0]] ⟨aB [0,3,4] [.aj 1 n (ay z),.int .u64 v,.int .i64 ((k:Int)-1)],[],0⟩=
  let c2:AV:=aj 1 n fun a↦int IntKind.u32 (↑(z a):Int);let c1:Int:=(↑k:Int)-(1:Int);some (aa.fork (decide (c1≥(0:Int))) (aa.ag [(0:Int)≤(32:Int),(0:Int)≤c1∧c1.toNat<n] (aa.leaf ak.normal ([c2,int IntKind.u64 (IntKind.u64.wrap (↑(BitVec.ofInt IntKind.u64.bits (IntKind.u64.wrap ((↑v:Int)*(2:Int)^min (Int.toNat (32:Int)) IntKind.u64.bits))|||BitVec.ofInt IntKind.u64.bits (IntKind.u64.wrap (↑(z c1.toNat):Int))).toNat:Int)),int IntKind.i64 (IntKind.i64.wrap (c1-(1:Int)))],[]))) (aa.leaf (ak.exit 0) ([c2,int IntKind.u64 (↑v:Int),int IntKind.i64 c1],[]))):=by kernel_rfl
theorem S7 {n k v:Nat} {z:Nat→Nat}:bY T [] [] 30 oc (behind (au oc) [1,1,0,1]) ⟨aB [0,3,4] [.aj 1 n (ay z),.int .u64 v,.int .i64 ((k:Int)-1)],[],0⟩=
  some (aa.leaf ak.ret [int IntKind.u64 (↑v:Int)]):=by kernel_rfl
theorem Jn {z:Nat→Nat} {n k v:Nat} (h:v*2^(32*(k+1))+val (k+1) z=val n z):(v*4294967296+z k)*2^(32*k)+val k z=val n z:=by
 rw[←h,val,gr,Nat.add_mul]
 rw[Nat.mul_assoc]
 omega
theorem afD {n:Nat} {z:Nat→Nat} (hz:∀i,i<n→z i<2^32) (hn:n≤2) (K:Nat) (pre:aC):aA P vE K [.aj 1 n (ay z)] pre (aG (.int .u64 (val n z:Nat)) []):=by
 refine ja hT R8 rfl (of_decide_eq_true (by kernel_rfl)) rfl (fun _ c h0=>?_) K pre
 refine aq.hole [1,1,0,1] (by kernel_rfl) (aD.bk hT bp hm 30 [0,3,4] Tt (by kernel_rfl) ?_)
 intro s' hv
 have hv64:val n z<2^64:=by
  have h1:=ff hz
  have h2:2^(32*n)≤2^(32*2):=Nat.pow_le_pow_right (by omega) (by omega)
  omega
 refine aq.gQ (i:=0) (y:=part (au oc) [1,1,0,1,0,0]) (by kernel_rfl)
  (fun p:Nat×Nat=>⟨aB [0,3,4] [.aj 1 n (ay z),.int .u64 (p.2:Nat),.int .i64 ((p.1:Nat)-1:Int)],[],0⟩)
  (fun p=>p.1≤n∧p.2*2^(32*p.1)+val p.1 z=val n z) (fun p=>p.1) (n,0)
  (cW [] hv h0 rfl ⟨⟨rfl,aK rfl⟩,⟨rfl,aK rfl⟩,⟨rfl,fC (wrap_i64 (by omega) (by omega))⟩,trivial⟩ trivial) ⟨by simp,by simp⟩ ?_
 rintro⟨k,v⟩ ⟨hk,hval⟩
 simp only at hk hval
 refine aq.bk hT bp hm 30 [0,3,4] Ss (by kernel_rfl) ?_
 simp only[aa.all,ax,decide_eq_true_eq,decide_eq_false_iff_not]
 refine⟨fun hb=>?_,fun hb s' hv=>?_⟩
 ·obtain⟨j,rfl⟩:∃j,k=j+1:=⟨k-1,by omega⟩
  have e:(((j+1:Nat):Int)-1).toNat=j:=by omega
  have hzj:=hz j (by omega)
  have hv32:v<2^32:=by
   rcases Nat.lt_or_ge v (2^32)with h|h
   ·exact h
   ·have h1:2^32*2^(32*(j+1))≤v*2^(32*(j+1)):=Nat.mul_le_mul_right _ h
    have h2:2^32≤2^(32*(j+1)):=Nat.pow_le_pow_right (by omega) (by omega)
    have h3:2^32*2^32≤2^32*2^(32*(j+1)):=Nat.mul_le_mul_left _ h2
    omega
  rw[e]
  have hor:IntKind.u64.wrap ((BitVec.ofInt IntKind.u64.bits (IntKind.u64.wrap ((v:Int)*2^min (Int.toNat 32) IntKind.u64.bits))|||BitVec.ofInt IntKind.u64.bits (IntKind.u64.wrap (z j:Int))).toNat:Int)=
    ((v*4294967296+z j:Nat):Int):=by
   rw[yO,bO (x:=(z j:Int)) (by omega) (by omega),bO (x:=(v:Int)*4294967296) (by omega) (by omega)]
   rw[show(v:Int)*4294967296=((v*2^32:Nat):Int) by omega,sk (by omega) (by omega),qm hzj]
  refine⟨⟨by omega,by omega,by omega⟩,fun s' hv=>⟨(j,v*4294967296+z j),cW [] hv h0 rfl ⟨⟨rfl,aK rfl⟩,⟨rfl,fC hor⟩,⟨rfl,fC (by rw[wrap_i64 (by omega) (by omega)];simp only;omega)⟩,trivial⟩ trivial,
   ⟨by simp only;omega,Jn hval⟩,by simp⟩⟩
 ·have hk0:k=0:=by omega
  subst hk0
  have hval:v=val n z:=by simpa [val]using hval
  subst hval
  exact aD.weak (by kernel_rfl) (cW (vs:=[.aj 1 n (ay z),.int .u64 (val n z:Nat),.int .i64 (((0:Nat):Int)-1)]) (ps:=[]) (nx:=0) [] hv h0 rfl ⟨⟨rfl,aK rfl⟩,⟨rfl,aK rfl⟩,⟨rfl,aK rfl⟩,trivial⟩ trivial)
   (aD.fin hT bp hm 30 S7 (by kernel_rfl) (bw.refl _))
theorem agd {n m:Nat} {z y:Nat→Nat}:aJ T G1 [14,19] 30 [0,1,5,4] (before (au pH) [1,1,1,0,1]) ⟨aN 0 [.aj 1 n (ay z),.aj 1 m (ay y)],[],0⟩=
  let c2 : Nat := val m fun i ↦ numOf (ay y i); let c1 : Nat := val n fun i ↦ numOf (ay z i); let c4 : Int := (↑(nl c2) : Int); let c3 : Int := (↑(nl c1) : Int); some (aa.ag [dz n (ay z), n < 2 ^ 62, dz m (ay y), m < 2 ^ 62] (aa.fork (c3 != c4) (aa.fork (decide (c3 < c4)) (aa.leaf ak.ret ([mag c1, mag c2, tuple [], int IntKind.i64 (-1 : Int)], [])) (aa.leaf ak.ret ([mag c1, mag c2, tuple [], int IntKind.i64 (1 : Int)], []))) (aa.leaf ak.normal ([mag c1, mag c2, int IntKind.i64 (IntKind.i64.wrap (c3 - (1 : Int))), int IntKind.i64 (0 : Int)], [])))) := by kernel_rfl
theorem aej {A B k:Nat}:aJ T [] [24,35,44] 30 [0,1,5,4] [part (au pH) [1,1,1,0,1,0,0]] ⟨aB [0,1,5,4] [.mag A,.mag B,.int .i64 ((k:Int)-1),.int .i64 0],[],0⟩=
  let c6 : AV := int IntKind.i64 (0 : Int); let c1 : Int := (↑k : Int) - (1 : Int); let c5 : AV := int IntKind.i64 c1; let c4 : Int := (↑(az A c1.toNat) : Int); let c3 : Int := (↑(az B c1.toNat) : Int); let c2 : List Prop := [(0 : Int) ≤ c1 ∧ c1.toNat < nl A, (0 : Int) ≤ c1 ∧ c1.toNat < nl B]; some (aa.fork (decide (c1 ≥ (0 : Int))) (aa.ag c2 (aa.fork (c4 != c3) (aa.ag c2 (aa.fork (decide (c4 < c3)) (aa.leaf ak.ret ([mag A, mag B, c5, int IntKind.i64 (-1 : Int)], [])) (aa.leaf ak.ret ([mag A, mag B, c5, int IntKind.i64 (1 : Int)], [])))) (aa.leaf ak.normal ([mag A, mag B, int IntKind.i64 (IntKind.i64.wrap (c1 - (1 : Int))), c6], [])))) (aa.leaf (ak.exit 0) ([mag A, mag B, c5, c6], []))) := by kernel_rfl
theorem W7 {A B k:Nat}:bY T [] [] 30 pH (behind (au pH) [1,1,1,0,1]) ⟨aB [0,1,5,4] [.mag A,.mag B,.int .i64 ((k:Int)-1),.int .i64 0],[],0⟩=
  some (aa.leaf ak.ret [int IntKind.i64 (0:Int)]):=by kernel_rfl
theorem aeb {n m:Nat} {z y:Nat→Nat} (hz:∀i,i<n→z i<2^32) (hy:∀i,i<m→y i<2^32) (hn:n<2^40) (hm':m<2^40) (K:Nat) (pre:aC):
  aA P qX K [.aj 1 n (ay z),.aj 1 m (ay y)] pre (aG (.int .i64 (cH (val n z) (val m y))) []):=by
 refine ja hT Rr rfl (of_decide_eq_true (by kernel_rfl)) rfl (fun _ c h0=>?_) K pre
 refine aq.hole [1,1,1,0,1] (by kernel_rfl) (aD.bk hT fN hm 30 [0,1,5,4] agd (by kernel_rfl) ?_)
 have hnl:nl (val n z)≤n:=cT.2 (ff hz)
 generalize hA:val n z=A at*
 generalize hB:val m y=B at*
 simp only[aa.all,ax,decide_eq_true_eq,decide_eq_false_iff_not,Gl,hA,hB,bne_iff_ne,ne_eq,Int.natCast_inj,bne_eq_false_iff_eq]
 refine⟨⟨fG hz,by omega,fG hy,by omega⟩,fun hb=>⟨fun hb2 s' hv=>?_,fun hb2 s' hv=>?_⟩,fun hb s' hv=>?_⟩
 ·have h1:A<B:=B1 (by omega)
  exact fJ (us:=[.int .i64 (-1)]) (.inr rfl) hv (by kernel_rfl) (bt (by simp[cH,h1]))
 ·have h1:B<A:=B1 (by omega)
  exact fJ (us:=[.int .i64 1]) (.inr rfl) hv (by kernel_rfl) (bt (by simp[cH,h1];omega))
 refine aq.gQ (i:=0) (y:=part (au pH) [1,1,1,0,1,0,0]) (by kernel_rfl)
  (fun k:Nat=>⟨aB [0,1,5,4] [.mag A,.mag B,.int .i64 ((k:Int)-1),.int .i64 0],[],0⟩)
  (fun k=>k≤nl A∧∀j,k≤j→j<nl A→az A j=az B j) id (nl A)
  (cW [] hv h0 rfl ⟨⟨rfl,aK rfl⟩,⟨rfl,aK rfl⟩,⟨rfl,fC (wrap_i64 (by omega) (by omega))⟩,⟨rfl,aK rfl⟩,trivial⟩ trivial) ⟨by simp,fun j h1 h2=>by omega⟩ ?_
 rintro k ⟨hk,hlim⟩
 refine aq.bk hT bp hm 30 [0,1,5,4] aej (by kernel_rfl) ?_
 simp only[aa.all,ax,decide_eq_true_eq,decide_eq_false_iff_not,bne_iff_ne,ne_eq,Int.natCast_inj,bne_eq_false_iff_eq]
 refine⟨fun hb2=>?_,fun hb2 s' hv=>?_⟩
 ·obtain⟨j,rfl⟩:∃j,k=j+1:=⟨k-1,by omega⟩
  have e:(((j+1:Nat):Int)-1).toNat=j:=by omega
  rw[e]
  refine⟨⟨by omega,by omega⟩,fun hne=>⟨⟨by omega,by omega⟩,fun hlt s' hv=>?_,fun hlt s' hv=>?_⟩,fun heq s' hv=>?_⟩
  ·have h1:A<B:=Dc hb (k:=j) (by omega) (fun i h1 h2=>hlim i (by omega) h2) (by omega)
   exact fJ (us:=[.int .i64 (-1)]) (.inr rfl) hv (by kernel_rfl) (bt (by simp[cH,h1]))
  ·have h1:B<A:=Dc hb.symm (k:=j) (by omega) (fun i h1 h2=>(hlim i (by omega) (by omega)).symm) (by omega)
   exact fJ (us:=[.int .i64 1]) (.inr rfl) hv (by kernel_rfl) (bt (by simp[cH,h1];omega))
  ·refine⟨j,cW [] hv h0 rfl ⟨⟨rfl,aK rfl⟩,⟨rfl,aK rfl⟩,⟨rfl,fC (by rw[wrap_i64 (by omega) (by omega)];omega)⟩,⟨rfl,aK rfl⟩,trivial⟩ trivial,⟨by omega,fun i h1 h2=>?_⟩,by simp⟩
   by_cases hi:i=j
   ·subst hi;exact heq
   ·exact hlim i (by omega) h2
 ·have hk0:k=0:=by omega
  subst hk0
  have hAB:A=B:=IA hb fun i hi=>hlim i (by omega) hi
  exact aD.weak (by kernel_rfl) (cW (vs:=[.mag A,.mag B,.int .i64 (((0:Nat):Int)-1),.int .i64 0]) (ps:=[]) (nx:=0) [] hv h0 rfl ⟨⟨rfl,aK rfl⟩,⟨rfl,aK rfl⟩,⟨rfl,aK rfl⟩,⟨rfl,aK rfl⟩,trivial⟩ trivial)
   (aD.fin hT bp hm 30 W7 (by kernel_rfl) (bt (by simp[cH,hAB])))
def IM:Spec:=bE fun l=>match l with
 |[.int .u64 x]=>some (aG (.mag x.toNat) [0≤x∧x<2^64])
 |_=>none
theorem Lp:∀K args pre r,IM K args pre=some r→aA P uk K args pre r:=by
 refine bX fun K args r hk hs _=>?_
 split at hs
 ·rename_i x
  simp only[Option.some.injEq]at hs
  subst hs
  intro need
  obtain⟨h1,h2⟩:0≤x∧x<2^64:=need
  obtain⟨y,rfl⟩:=Int.eq_ofNat_of_zero_le h1
  exact aiS (x:=y) (by omega) K [] trivial
 ·simp at hs
def Cf (N n:Nat):cU:=aG (.int .u64 (N:Nat)) [n≤2]
theorem abh:∀K args pre r,bE (kQ Cf) K args pre=some r→aA P vE K args pre r:=
 bX (tA fun _ _ K hz need=>afD hz need K [])
def C8 (A n B m:Nat):cU:=aG (.int .i64 (cH A B)) [n<2^40,m<2^40]
theorem Fg:∀K args pre r,bE (gD C8) K args pre=some r→aA P qX K args pre r:=
 bX (tE fun _ _ _ _ K hz hy need=>aeb hz hy need.1 need.2 K [])
end Go.Am.B
