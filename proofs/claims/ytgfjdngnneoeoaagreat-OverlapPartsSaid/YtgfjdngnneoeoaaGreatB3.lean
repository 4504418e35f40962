/- natural.Of, natural.word, natural.Cmp. -/
import Derived.Test.YtgfjdngnneoeoaaGreatB2
set_option linter.unusedVariables false
namespace Go.Am.B
open Go Go.Am.N AV Proofs.Tryz IntKind
theorem S3:aX 135 f135:=aM func135
theorem SE:aX 171 f171:=aM func171
theorem agc:aX 129 f129:=aM func129
theorem val_two {z:Nat->Nat}:val 2 z=z 0+z 1*4294967296:=by simp[val]
theorem RD {x:Nat}:bF T G1 [] 30 f135 (aF f135) ⟨aS 0 [.int .u64 x],[],0⟩=
  let c2:AV:=int .u32 (0:Int);let c1:List AV:=[int .u32 (u32.wrap (↑x:Int)),int .u32 (u32.wrap ((↑x:Int).fdiv ((2:Int)^min (Int.toNat (32:Int)) u64.bits)))];some (ag.aj [(0:Int)<=32,(2:Nat)*1<=2^24,eo 2 fun i=>nth c1 c2 (i+0),(2:Nat)<2^62] (ag.leaf aq.ret [mag (val 2 fun i=>numOf (nth c1 c2 (i+0)))])):=ah
theorem O3 {x:Nat} (hx:x<2^64) (K:Nat) (pre:aD):aN P 135 K [.int .u64 x] pre (aH (.mag x) []):=by
 refine bM hT gX hm S3 rfl aW rfl 30 RD (fun _=>?_) K pre
 simp only[ag.all,au,lW]
 refine⟨⟨aa,aa,fun i hi=>?_,aa⟩,dX (congrArg AV.mag ?_)⟩
 ·match i,hi with
  |0,_=>exact⟨x%2^32,aa,by simp[nth,jP]⟩
  |1,_=>exact⟨x/4294967296,aa,by simp[nth,lC];omega⟩
 ·rw[val_two]
  simp[nth,numOf,lC]
  omega
theorem UF {n:Nat} {z:Nat->Nat}:aL T [] [] 30 [0,3,4] (before (aF f171) [1,1,0,1]) ⟨aS 0 [.ak 1 n (aA z)],[],0⟩=
  some (ag.leaf aq.normal ([ak 1 n fun a=>int .u32 (↑(z a):Int),int .u64 (0:Int),int .i64 (i64.wrap ((↑n:Int)-1))],[])):=ah
theorem ah3 {n k v:Nat} {z:Nat->Nat}:aL T [] [9] 30 [0,3,4] [part (aF f171) [1,1,0,1,0,0]] ⟨aG [0,3,4] [.ak 1 n (aA z),.int .u64 v,.int .i64 ((k:Int)-1)],[],0⟩=
  let c2:AV:=ak 1 n fun a=>int .u32 (↑(z a):Int);let c1:Int:=(↑k:Int)-1;some (ag.fork (decide (c1>=0)) (ag.aj [(0:Int)<=32,(0:Int)<=c1/\c1.toNat<n] (ag.leaf aq.normal ([c2,int .u64 (u64.wrap (↑(BitVec.ofInt u64.bits (u64.wrap ((↑v:Int)*2^min (Int.toNat (32:Int)) u64.bits))|||BitVec.ofInt u64.bits (u64.wrap (↑(z c1.toNat):Int))).toNat:Int)),int .i64 (i64.wrap (c1-1))],[]))) (ag.leaf (aq.exit 0) ([c2,int .u64 (↑v:Int),int .i64 c1],[]))):=ah
theorem agE {n k v:Nat} {z:Nat->Nat}:cP T [] [] 30 f171 (behind (aF f171) [1,1,0,1]) ⟨aG [0,3,4] [.ak 1 n (aA z),.int .u64 v,.int .i64 ((k:Int)-1)],[],0⟩=
  some (ag.leaf aq.ret [int .u64 (↑v:Int)]):=ah
theorem Lf {z:Nat->Nat} {n k v:Nat} (h:v*2^(32*(k+1))+val (k+1) z=val n z):(v*4294967296+z k)*2^(32*k)+val k z=val n z:=by
 rw[<-h,val,iB,Nat.add_mul]
 rw[Nat.mul_assoc]
 omega
theorem YW {n:Nat} {z:Nat->Nat} (hz:∀i,i<n->z i<2^32) (hn:n<=2) (K:Nat) (pre:aD):aN P 171 K [.ak 1 n (aA z)] pre (aH (.int .u64 (val n z:Nat)) []):=by
 refine jN hT SE rfl aW rfl (fun _ c h0=>?_) K pre
 refine ay.hole [1,1,0,1] ah (aI.bH hT bD hm 30 [0,3,4] UF ah ?_)
 intro s' hv
 have hv64:val n z<2^64:=by
  have h1:=ga hz
  have h2:2^(32*n)<=2^(32*2):=Nat.pow_le_pow_right aa aa
  omega
 refine ay.ji (i:=0) (y:=part (aF f171) [1,1,0,1,0,0]) ah
  (fun p:Nat×Nat=>⟨aG [0,3,4] [.ak 1 n (aA z),.int .u64 (p.2:Nat),.int .i64 ((p.1:Nat)-1:Int)],[],0⟩)
  (fun p=>p.1<=n/\p.2*2^(32*p.1)+val p.1 z=val n z) (fun p=>p.1) (n,0)
  (dI [] hv h0 rfl ⟨aP,aP,⟨rfl,gF (wrap_i64 aa aa)⟩,trivial⟩ trivial) ⟨by simp,by simp⟩ ?_
 rintro⟨k,v⟩ ⟨hk,hval⟩
 simp only at hk hval
 refine ay.bH hT bD hm 30 [0,3,4] ah3 ah ?_
 simp only[ag.all,au,bz,bG]
 refine⟨fun hb=>?_,fun hb s' hv=>?_⟩
 ·obtain⟨j,rfl⟩:∃j,k=j+1:=⟨k-1,aa⟩
  have e:(((j+1:Nat):Int)-1).toNat=j:=aa
  have hzj:=hz j aa
  have hv32:v<2^32:=by
   rcases Nat.lt_or_ge v (2^32)with h|h
   ·exact h
   ·have h1:2^32*2^(32*(j+1))<=v*2^(32*(j+1)):=Nat.mul_le_mul_right _ h
    have h2:2^32<=2^(32*(j+1)):=Nat.pow_le_pow_right aa aa
    have h3:2^32*2^32<=2^32*2^(32*(j+1)):=Nat.mul_le_mul_left _ h2
    omega
  rw[e]
  have hor:u64.wrap ((BitVec.ofInt u64.bits (u64.wrap ((v:Int)*2^min (Int.toNat 32) u64.bits))|||BitVec.ofInt u64.bits (u64.wrap (z j:Int))).toNat:Int)=
    ((v*4294967296+z j:Nat):Int):=by
   rw[wo,cw (x:=(z j:Int)) aa aa,cw (x:=(v:Int)*4294967296) aa aa]
   rw[show(v:Int)*4294967296=((v*2^32:Nat):Int) by omega,s8 aa aa,qO hzj]
  refine⟨⟨aa,aa,aa⟩,fun s' hv=>⟨(j,v*4294967296+z j),dI [] hv h0 rfl ⟨aP,⟨rfl,gF hor⟩,⟨rfl,gF (by rw[wrap_i64 aa aa];simp only;omega)⟩,trivial⟩ trivial,
   ⟨by simp only;omega,Lf hval⟩,by simp⟩⟩
 ·have hk0:k=0:=aa
  subst hk0
  have hval:v=val n z:=by simpa [val]using hval
  subst hval
  exact aI.weak ah (dI (vs:=[.ak 1 n (aA z),.int .u64 (val n z:Nat),.int .i64 (((0:Nat):Int)-1)]) (ps:=[]) (nx:=0) [] hv h0 rfl ⟨aP,aP,aP,trivial⟩ trivial)
   (aI.fin hT bD hm 30 agE ah (bp.refl _))
theorem ahY {n m:Nat} {z y:Nat->Nat}:aL T G1 [14,19] 30 [0,1,5,4] (before (aF f129) [1,1,1,0,1]) ⟨aS 0 [.ak 1 n (aA z),.ak 1 m (aA y)],[],0⟩=
  let c2:Nat:=val m fun i=>numOf (aA y i);let c1:Nat:=val n fun i=>numOf (aA z i);let c4:Int:=(↑(nl c2):Int);let c3:Int:=(↑(nl c1):Int);some (ag.aj [eo n (aA z),n<2^62,eo m (aA y),m<2^62] (ag.fork (c3 !=c4) (ag.fork (decide (c3<c4)) (ag.leaf aq.ret ([mag c1,mag c2,tuple [],int .i64 (-1:Int)],[])) (ag.leaf aq.ret ([mag c1,mag c2,tuple [],int .i64 (1:Int)],[]))) (ag.leaf aq.normal ([mag c1,mag c2,int .i64 (i64.wrap (c3-1)),int .i64 (0:Int)],[])))):=ah
theorem afB {A B k:Nat}:aL T [] [24,35,44] 30 [0,1,5,4] [part (aF f129) [1,1,1,0,1,0,0]] ⟨aG [0,1,5,4] [.mag A,.mag B,.int .i64 ((k:Int)-1),.int .i64 0],[],0⟩=
  let c6:AV:=int .i64 (0:Int);let c1:Int:=(↑k:Int)-1;let c5:AV:=int .i64 c1;let c4:Int:=(↑(aB A c1.toNat):Int);let c3:Int:=(↑(aB B c1.toNat):Int);let c2:List Prop:=[(0:Int)<=c1/\c1.toNat<nl A,(0:Int)<=c1/\c1.toNat<nl B];some (ag.fork (decide (c1>=0)) (ag.aj c2 (ag.fork (c4 !=c3) (ag.aj c2 (ag.fork (decide (c4<c3)) (ag.leaf aq.ret ([mag A,mag B,c5,int .i64 (-1:Int)],[])) (ag.leaf aq.ret ([mag A,mag B,c5,int .i64 (1:Int)],[])))) (ag.leaf aq.normal ([mag A,mag B,int .i64 (i64.wrap (c1-1)),c6],[])))) (ag.leaf (aq.exit 0) ([mag A,mag B,c5,c6],[]))):=ah
theorem Rr {A B k:Nat}:cP T [] [] 30 f129 (behind (aF f129) [1,1,1,0,1]) ⟨aG [0,1,5,4] [.mag A,.mag B,.int .i64 ((k:Int)-1),.int .i64 0],[],0⟩=
  some (ag.leaf aq.ret [int .i64 (0:Int)]):=ah
theorem agG {n m:Nat} {z y:Nat->Nat} (hz:∀i,i<n->z i<2^32) (hy:∀i,i<m->y i<2^32) (hn:n<2^40) (hm':m<2^40) (K:Nat) (pre:aD):
  aN P 129 K [.ak 1 n (aA z),.ak 1 m (aA y)] pre (aH (.int .i64 (cY (val n z) (val m y))) []):=by
 refine jN hT agc rfl aW rfl (fun _ c h0=>?_) K pre
 refine ay.hole [1,1,1,0,1] ah (aI.bH hT gX hm 30 [0,1,5,4] ahY ah ?_)
 have hnl:nl (val n z)<=n:=dL.2 (ga hz)
 generalize hA:val n z=A at*
 generalize hB:val m y=B at*
 simp only[ag.all,au,bz,bG,Bw,hA,hB,bne_iff_ne,ne_eq,Int.natCast_inj,bne_eq_false_iff_eq]
 refine⟨⟨gD hz,aa,gD hy,aa⟩,fun hb=>⟨fun hb2 s' hv=>?_,fun hb2 s' hv=>?_⟩,fun hb s' hv=>?_⟩
 ·have h1:A<B:=yH aa
  exact gU (us:=[.int .i64 (-1)]) (.inr rfl) hv ah (bW (by simp[cY,h1]))
 ·have h1:B<A:=yH aa
  exact gU (us:=[.int .i64 1]) (.inr rfl) hv ah (bW (by simp[cY,h1];omega))
 refine ay.ji (i:=0) (y:=part (aF f129) [1,1,1,0,1,0,0]) ah
  (fun k:Nat=>⟨aG [0,1,5,4] [.mag A,.mag B,.int .i64 ((k:Int)-1),.int .i64 0],[],0⟩)
  (fun k=>k<=nl A/\∀j,k<=j->j<nl A->aB A j=aB B j) id (nl A)
  (dI [] hv h0 rfl ⟨aP,aP,⟨rfl,gF (wrap_i64 aa aa)⟩,aP,trivial⟩ trivial) ⟨by simp,fun j h1 h2=>aa⟩ ?_
 rintro k ⟨hk,hlim⟩
 refine ay.bH hT bD hm 30 [0,1,5,4] afB ah ?_
 simp only[ag.all,au,bz,bG,bne_iff_ne,ne_eq,Int.natCast_inj,bne_eq_false_iff_eq]
 refine⟨fun hb2=>?_,fun hb2 s' hv=>?_⟩
 ·obtain⟨j,rfl⟩:∃j,k=j+1:=⟨k-1,aa⟩
  have e:(((j+1:Nat):Int)-1).toNat=j:=aa
  rw[e]
  refine⟨⟨aa,aa⟩,fun hne=>⟨⟨aa,aa⟩,fun hlt s' hv=>?_,fun hlt s' hv=>?_⟩,fun heq s' hv=>?_⟩
  ·have h1:A<B:=AU hb (k:=j) aa (fun i h1 h2=>hlim i aa h2) aa
   exact gU (us:=[.int .i64 (-1)]) (.inr rfl) hv ah (bW (by simp[cY,h1]))
  ·have h1:B<A:=AU hb.symm (k:=j) aa (fun i h1 h2=>(hlim i aa aa).symm) aa
   exact gU (us:=[.int .i64 1]) (.inr rfl) hv ah (bW (by simp[cY,h1];omega))
  ·refine⟨j,dI [] hv h0 rfl ⟨aP,aP,⟨rfl,gF (by rw[wrap_i64 aa aa];omega)⟩,aP,trivial⟩ trivial,⟨aa,fun i h1 h2=>?_⟩,by simp⟩
   by_cases hi:i=j
   ·subst hi;exact heq
   ·exact hlim i aa h2
 ·have hk0:k=0:=aa
  subst hk0
  have hAB:A=B:=De hb fun i hi=>hlim i aa hi
  exact aI.weak ah (dI (vs:=[.mag A,.mag B,.int .i64 (((0:Nat):Int)-1),.int .i64 0]) (ps:=[]) (nx:=0) [] hv h0 rfl ⟨aP,aP,aP,aP,trivial⟩ trivial)
   (aI.fin hT bD hm 30 Rr ah (bW (by simp[cY,hAB])))
def BV:Spec:=bX fun l=>match l with
 |[.int .u64 x]=>some (aH (.mag x.toNat) [0<=x/\x<2^64])
 |_=>none
theorem NX:bf P BV 135:=by
 refine cM fun K args r hk hs _=>?_
 split at hs
 ·rename_i x
  simp only[ax]at hs
  subst hs
  intro need
  obtain⟨h1,h2⟩:0<=x/\x<2^64:=need
  obtain⟨y,rfl⟩:=Int.eq_ofNat_of_zero_le h1
  exact O3 (x:=y) aa K [] trivial
 ·simp at hs
def z6 (N n:Nat):dw:=aH (.int .u64 (N:Nat)) [n<=2]
theorem Sr:bf P (bX (mh z6)) 171:=
 cM (tV fun _ _ K hz need=>YW hz need K [])
def yX (A n B m:Nat):dw:=aH (.int .i64 (cY A B)) [n<2^40,m<2^40]
theorem DT:bf P (bX (iY yX)) 129:=
 cM (sC fun _ _ _ _ K hz hy need=>agG hz hy need.1 need.2 K [])
end Go.Am.B
