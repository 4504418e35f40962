/- natural.Of, natural.word, natural.Cmp. -/
import Derived.Test.YtolopdkjjlfgjaaGreatB2
set_option linter.unusedVariables false
namespace Go.Am.B
open Go Go.Am.N AV Proofs.Tryz IntKind
theorem T6:aX 170 f170:=aZ func170
theorem ZN:aX 182 f182:=aZ func182
theorem P3:aX 118 f118:=aZ func118
theorem val_two {z:Nat->Nat}:val 2 z=z 0+z 1*4294967296:=by simp[val]
theorem M6 {x:Nat}:bR T G1 [] 30 f170 (aH f170) ⟨aT 0 [.int .u64 x],[],0⟩=
  let c2:AV:=int .u32 (0:Int);let c1:List AV:=[int .u32 (u32.wrap (↑x:Int)),int .u32 (u32.wrap ((↑x:Int).fdiv ((2:Int)^min (Int.toNat (32:Int)) u64.bits)))];some (af.aj [(0:Int)<=32,(2:Nat)*1<=2^24,ej 2 fun i=>nth c1 c2 (i+0),(2:Nat)<2^62] (af.leaf aq.ret [mag (val 2 fun i=>numOf (nth c1 c2 (i+0)))])):=ah
theorem aeB {x:Nat} (hx:x<2^64) (K:Nat) (pre:aE):aP P 170 K [.int .u64 x] pre (aK (.mag x) []):=by
 refine bZ hT gL hm T6 rfl aW rfl 30 M6 (fun _=>?_) K pre
 simp only[af.all,aA,kU]
 refine⟨⟨aa,aa,fun i hi=>?_,aa⟩,ef (congrArg AV.mag ?_)⟩
 ·match i,hi with
  |0,_=>exact⟨x%2^32,aa,by simp[nth,jw]⟩
  |1,_=>exact⟨x/4294967296,aa,by simp[nth,kX];omega⟩
 ·rw[val_two]
  simp[nth,numOf,kX]
  omega
theorem Qz {n:Nat} {z:Nat->Nat}:aG T [] [] 30 [0,3,4] (before (aH f182) [1,1,0,1]) ⟨aT 0 [.ak 1 n (aB z)],[],0⟩=
  some (af.leaf aq.normal ([ak 1 n fun a=>int .u32 (↑(z a):Int),int .u64 (0:Int),int .i64 (i64.wrap ((↑n:Int)-1))],[])):=ah
theorem VG {n k v:Nat} {z:Nat->Nat}:aG T [] [9] 30 [0,3,4] [part (aH f182) [1,1,0,1,0,0]] ⟨aC [0,3,4] [.ak 1 n (aB z),.int .u64 v,.int .i64 ((k:Int)-1)],[],0⟩=
  let c2:AV:=ak 1 n fun a=>int .u32 (↑(z a):Int);let c1:Int:=(↑k:Int)-1;some (af.fork (decide (c1>=0)) (af.aj [(0:Int)<=32,(0:Int)<=c1/\c1.toNat<n] (af.leaf aq.normal ([c2,int .u64 (u64.wrap (↑(BitVec.ofInt u64.bits (u64.wrap ((↑v:Int)*2^min (Int.toNat (32:Int)) u64.bits))|||BitVec.ofInt u64.bits (u64.wrap (↑(z c1.toNat):Int))).toNat:Int)),int .i64 (i64.wrap (c1-1))],[]))) (af.leaf (aq.exit 0) ([c2,int .u64 (↑v:Int),int .i64 c1],[]))):=ah
theorem adC {n k v:Nat} {z:Nat->Nat}:cA T [] [] 30 f182 (behind (aH f182) [1,1,0,1]) ⟨aC [0,3,4] [.ak 1 n (aB z),.int .u64 v,.int .i64 ((k:Int)-1)],[],0⟩=
  some (af.leaf aq.ret [int .u64 (↑v:Int)]):=ah
theorem MF {z:Nat->Nat} {n k v:Nat} (h:v*2^(32*(k+1))+val (k+1) z=val n z):(v*4294967296+z k)*2^(32*k)+val k z=val n z:=by
 rw[<-h,val,gX,Nat.add_mul]
 rw[Nat.mul_assoc]
 omega
theorem abW {n:Nat} {z:Nat->Nat} (hz:∀i,i<n->z i<2^32) (hn:n<=2) (K:Nat) (pre:aE):aP P 182 K [.ak 1 n (aB z)] pre (aK (.int .u64 (val n z:Nat)) []):=by
 refine jC hT ZN rfl aW rfl (fun _ c h0=>?_) K pre
 refine au.hole [1,1,0,1] ah (aF.bD hT b9 hm 30 [0,3,4] Qz ah ?_)
 intro s' hv
 have hv64:val n z<2^64:=by
  have h1:=fV hz
  have h2:2^(32*n)<=2^(32*2):=Nat.pow_le_pow_right aa aa
  omega
 refine au.g7 (i:=0) (y:=part (aH f182) [1,1,0,1,0,0]) ah
  (fun p:Nat×Nat=>⟨aC [0,3,4] [.ak 1 n (aB z),.int .u64 (p.2:Nat),.int .i64 ((p.1:Nat)-1:Int)],[],0⟩)
  (fun p=>p.1<=n/\p.2*2^(32*p.1)+val p.1 z=val n z) (fun p=>p.1) (n,0)
  (dI [] hv h0 rfl ⟨aO,aO,⟨rfl,gA (wrap_i64 aa aa)⟩,trivial⟩ trivial) ⟨by simp,by simp⟩ ?_
 rintro⟨k,v⟩ ⟨hk,hval⟩
 simp only at hk hval
 refine au.bD hT b9 hm 30 [0,3,4] VG ah ?_
 simp only[af.all,aA,bw,bB]
 refine⟨fun hb=>?_,fun hb s' hv=>?_⟩
 ·obtain⟨j,rfl⟩:∃j,k=j+1:=⟨k-1,aa⟩
  have e:(((j+1:Nat):Int)-1).toNat=j:=aa
  have hzj:=hz j aa
  have hv32:v<2^32:=by
   rcases Nat.lt_or_ge v (2^32)with h|h
   ·exact h
   ·have h1:2^32*2^(32*(j+1))<=v*2^(32*(j+1)):=Nat.mul_le_mul_right _ h
    have h2:2^32<=2^(32*(j+1)):=Nat.pow_le_pow_right aa aa
    have h3:2^32*2^32<=2^32*2^(32*(j+1)):=Nat.mul_le_mul_left _ h2
    omega
  rw[e]
  have eR:u64.wrap ((BitVec.ofInt u64.bits (u64.wrap ((v:Int)*2^min (Int.toNat 32) u64.bits))|||BitVec.ofInt u64.bits (u64.wrap (z j:Int))).toNat:Int)=
    ((v*4294967296+z j:Nat):Int):=by
   rw[xb,ck (x:=(z j:Int)) aa aa,ck (x:=(v:Int)*4294967296) aa aa]
   rw[show(v:Int)*4294967296=((v*2^32:Nat):Int) by omega,sZ aa aa,qY hzj]
  refine⟨⟨aa,aa,aa⟩,fun s' hv=>⟨(j,v*4294967296+z j),dI [] hv h0 rfl ⟨aO,⟨rfl,gA eR⟩,⟨rfl,gA (by rw[wrap_i64 aa aa];simp only;omega)⟩,trivial⟩ trivial,
   ⟨by simp only;omega,MF hval⟩,by simp⟩⟩
 ·have hk0:k=0:=aa
  subst hk0
  have hval:v=val n z:=by simpa [val]using hval
  subst hval
  exact aF.weak ah (dI (vs:=[.ak 1 n (aB z),.int .u64 (val n z:Nat),.int .i64 (((0:Nat):Int)-1)]) (ps:=[]) (nx:=0) [] hv h0 rfl ⟨aO,aO,aO,trivial⟩ trivial)
   (aF.fin hT b9 hm 30 adC ah (bA.refl _))
theorem RC {n m:Nat} {z y:Nat->Nat}:aG T G1 [14,19] 30 [0,1,5,4] (before (aH f118) [1,1,1,0,1]) ⟨aT 0 [.ak 1 n (aB z),.ak 1 m (aB y)],[],0⟩=
  let c2:Nat:=val m fun i=>numOf (aB y i);let c1:Nat:=val n fun i=>numOf (aB z i);let c4:Int:=(↑(nl c2):Int);let c3:Int:=(↑(nl c1):Int);some (af.aj [ej n (aB z),n<2^62,ej m (aB y),m<2^62] (af.fork (c3 !=c4) (af.fork (decide (c3<c4)) (af.leaf aq.ret ([mag c1,mag c2,tuple [],int .i64 (-1:Int)],[])) (af.leaf aq.ret ([mag c1,mag c2,tuple [],int .i64 (1:Int)],[]))) (af.leaf aq.normal ([mag c1,mag c2,int .i64 (i64.wrap (c3-1)),int .i64 (0:Int)],[])))):=ah
theorem acR {A B k:Nat}:aG T [] [24,35,44] 30 [0,1,5,4] [part (aH f118) [1,1,1,0,1,0,0]] ⟨aC [0,1,5,4] [.mag A,.mag B,.int .i64 ((k:Int)-1),.int .i64 0],[],0⟩=
  let c6:AV:=int .i64 (0:Int);let c1:Int:=(↑k:Int)-1;let c5:AV:=int .i64 c1;let c4:Int:=(↑(aD A c1.toNat):Int);let c3:Int:=(↑(aD B c1.toNat):Int);let c2:List Prop:=[(0:Int)<=c1/\c1.toNat<nl A,(0:Int)<=c1/\c1.toNat<nl B];some (af.fork (decide (c1>=0)) (af.aj c2 (af.fork (c4 !=c3) (af.aj c2 (af.fork (decide (c4<c3)) (af.leaf aq.ret ([mag A,mag B,c5,int .i64 (-1:Int)],[])) (af.leaf aq.ret ([mag A,mag B,c5,int .i64 (1:Int)],[])))) (af.leaf aq.normal ([mag A,mag B,int .i64 (i64.wrap (c1-1)),c6],[])))) (af.leaf (aq.exit 0) ([mag A,mag B,c5,c6],[]))):=ah
theorem aaJ {A B k:Nat}:cA T [] [] 30 f118 (behind (aH f118) [1,1,1,0,1]) ⟨aC [0,1,5,4] [.mag A,.mag B,.int .i64 ((k:Int)-1),.int .i64 0],[],0⟩=
  some (af.leaf aq.ret [int .i64 (0:Int)]):=ah
theorem Up {n m:Nat} {z y:Nat->Nat} (hz:∀i,i<n->z i<2^32) (hy:∀i,i<m->y i<2^32) (hn:n<2^40) (hm':m<2^40) (K:Nat) (pre:aE):
  aP P 118 K [.ak 1 n (aB z),.ak 1 m (aB y)] pre (aK (.int .i64 (de (val n z) (val m y))) []):=by
 refine jC hT P3 rfl aW rfl (fun _ c h0=>?_) K pre
 refine au.hole [1,1,1,0,1] ah (aF.bD hT gL hm 30 [0,1,5,4] RC ah ?_)
 have hnl:nl (val n z)<=n:=dJ.2 (fV hz)
 generalize hA:val n z=A at*
 generalize hB:val m y=B at*
 simp only[af.all,aA,bw,bB,EI,hA,hB,bne_iff_ne,ne_eq,Int.natCast_inj,bne_eq_false_iff_eq]
 refine⟨⟨gy hz,aa,gy hy,aa⟩,fun hb=>⟨fun hb2 s' hv=>?_,fun hb2 s' hv=>?_⟩,fun hb s' hv=>?_⟩
 ·have h1:A<B:=AY aa
  exact gF (us:=[.int .i64 (-1)]) (.inr rfl) hv ah (bN (by simp[de,h1]))
 ·have h1:B<A:=AY aa
  exact gF (us:=[.int .i64 1]) (.inr rfl) hv ah (bN (by simp[de,h1];omega))
 refine au.g7 (i:=0) (y:=part (aH f118) [1,1,1,0,1,0,0]) ah
  (fun k:Nat=>⟨aC [0,1,5,4] [.mag A,.mag B,.int .i64 ((k:Int)-1),.int .i64 0],[],0⟩)
  (fun k=>k<=nl A/\∀j,k<=j->j<nl A->aD A j=aD B j) id (nl A)
  (dI [] hv h0 rfl ⟨aO,aO,⟨rfl,gA (wrap_i64 aa aa)⟩,aO,trivial⟩ trivial) ⟨by simp,fun j h1 h2=>aa⟩ ?_
 rintro k ⟨hk,hlim⟩
 refine au.bD hT b9 hm 30 [0,1,5,4] acR ah ?_
 simp only[af.all,aA,bw,bB,bne_iff_ne,ne_eq,Int.natCast_inj,bne_eq_false_iff_eq]
 refine⟨fun hb2=>?_,fun hb2 s' hv=>?_⟩
 ·obtain⟨j,rfl⟩:∃j,k=j+1:=⟨k-1,aa⟩
  have e:(((j+1:Nat):Int)-1).toNat=j:=aa
  rw[e]
  refine⟨⟨aa,aa⟩,fun hne=>⟨⟨aa,aa⟩,fun hlt s' hv=>?_,fun hlt s' hv=>?_⟩,fun heq s' hv=>?_⟩
  ·have h1:A<B:=yF hb (k:=j) aa (fun i h1 h2=>hlim i aa h2) aa
   exact gF (us:=[.int .i64 (-1)]) (.inr rfl) hv ah (bN (by simp[de,h1]))
  ·have h1:B<A:=yF hb.symm (k:=j) aa (fun i h1 h2=>(hlim i aa aa).symm) aa
   exact gF (us:=[.int .i64 1]) (.inr rfl) hv ah (bN (by simp[de,h1];omega))
  ·refine⟨j,dI [] hv h0 rfl ⟨aO,aO,⟨rfl,gA (by rw[wrap_i64 aa aa];omega)⟩,aO,trivial⟩ trivial,⟨aa,fun i h1 h2=>?_⟩,by simp⟩
   by_cases hi:i=j
   ·subst hi;exact heq
   ·exact hlim i aa h2
 ·have hk0:k=0:=aa
  subst hk0
  have hAB:A=B:=Di hb fun i hi=>hlim i aa hi
  exact aF.weak ah (dI (vs:=[.mag A,.mag B,.int .i64 (((0:Nat):Int)-1),.int .i64 0]) (ps:=[]) (nx:=0) [] hv h0 rfl ⟨aO,aO,aO,aO,trivial⟩ trivial)
   (aF.fin hT b9 hm 30 aaJ ah (bN (by simp[de,hAB])))
def EZ:Spec:=bU fun l=>match l with
 |[.int .u64 x]=>some (aK (.mag x.toNat) [0<=x/\x<2^64])
 |_=>none
theorem HG:bf P EZ 170:=by
 refine cJ fun K args r hk hs _=>?_
 split at hs
 ·rename_i x
  simp only[ay]at hs
  subst hs
  intro need
  obtain⟨h1,h2⟩:0<=x/\x<2^64:=need
  obtain⟨y,rfl⟩:=Int.eq_ofNat_of_zero_le h1
  exact aeB (x:=y) aa K [] trivial
 ·simp at hs
def yz (N n:Nat):dD:=aK (.int .u64 (N:Nat)) [n<=2]
theorem Rn:bf P (bU (lN yz)) 182:=
 cJ (sr fun _ _ K hz need=>abW hz need K [])
def Ak (A n B m:Nat):dD:=aK (.int .i64 (de A B)) [n<2^40,m<2^40]
theorem BG:bf P (bU (iJ Ak)) 118:=
 cJ (sn fun _ _ _ _ K hz hy need=>Up hz hy need.1 need.2 K [])
end Go.Am.B
