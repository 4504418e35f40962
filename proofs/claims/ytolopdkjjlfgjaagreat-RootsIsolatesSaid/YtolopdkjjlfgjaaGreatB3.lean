/- natural.Of, natural.word, natural.Cmp. -/
import Derived.Test.YtolopdkjjlfgjaaGreatB2
set_option linter.unusedVariables false
namespace Go.Am.B
open Go Go.Am.N AV Proofs.Tryz IntKind
theorem ahg:br 170 f170:=bu func170
theorem af1:br 182 f182:=bu func182
theorem Rz:br 118 f118:=bu func118
theorem val_two {z:Nat->Nat}:val 2 z=z 0+z 1*4294967296:=by simp[val]
theorem RN {x:Nat}:cB T G1 [] 30 f170 (aI f170) ⟨aU 0 [.int .u64 x],[],0⟩=
  let c2:AV:=int .u32 (0:Int);let c1:List AV:=[int .u32 (u32.wrap (↑x:Int)),int .u32 (u32.wrap ((↑x:Int).fdiv ((2:Int)^min (Int.toNat (32:Int)) u64.bits)))];some (af.aj [(0:Int)<=32,(2:Nat)*1<=2^24,fe 2 fun i=>nth c1 c2 (i+0),(2:Nat)<2^62] (af.leaf aq.ret [mag (val 2 fun i=>numOf (nth c1 c2 (i+0)))])):=ah
theorem Zz {x:Nat} (hx:x<2^64) (K:Nat) (pre:aE):aS P 170 K [.int .u64 x] pre (aM (.mag x) []):=by
 refine cF hT iM hm ahg rfl aZ rfl 30 RN (fun _=>?_) K pre
 simp only[af.all,az,mO]
 refine⟨⟨aa,aa,fun i hi=>?_,aa⟩,eU (congrArg AV.mag ?_)⟩
 ·match i,hi with
  |0,_=>exact⟨x%2^32,aa,by simp[nth,kz]⟩
  |1,_=>exact⟨x/4294967296,aa,by simp[nth,mE];omega⟩
 ·rw[val_two]
  simp[nth,numOf,mE]
  omega
theorem aaN {n:Nat} {z:Nat->Nat}:aH T [] [] 30 [0,3,4] (before (aI f182) [1,1,0,1]) ⟨aU 0 [.ak 1 n (aA z)],[],0⟩=
  some (af.leaf aq.normal ([ak 1 n fun a=>int .u32 (↑(z a):Int),int .u64 (0:Int),int .i64 (i64.wrap ((↑n:Int)-1))],[])):=ah
theorem aaV {n k v:Nat} {z:Nat->Nat}:aH T [] [9] 30 [0,3,4] [part (aI f182) [1,1,0,1,0,0]] ⟨aB [0,3,4] [.ak 1 n (aA z),.int .u64 v,.int .i64 ((k:Int)-1)],[],0⟩=
  let c2:AV:=ak 1 n fun a=>int .u32 (↑(z a):Int);let c1:Int:=(↑k:Int)-1;some (af.fork (decide (c1>=0)) (af.aj [(0:Int)<=32,(0:Int)<=c1/\c1.toNat<n] (af.leaf aq.normal ([c2,int .u64 (u64.wrap (↑(BitVec.ofInt u64.bits (u64.wrap ((↑v:Int)*2^min (Int.toNat (32:Int)) u64.bits))|||BitVec.ofInt u64.bits (u64.wrap (↑(z c1.toNat):Int))).toNat:Int)),int .i64 (i64.wrap (c1-1))],[]))) (af.leaf (aq.exit 0) ([c2,int .u64 (↑v:Int),int .i64 c1],[]))):=ah
theorem Vn {n k v:Nat} {z:Nat->Nat}:cR T [] [] 30 f182 (behind (aI f182) [1,1,0,1]) ⟨aB [0,3,4] [.ak 1 n (aA z),.int .u64 v,.int .i64 ((k:Int)-1)],[],0⟩=
  some (af.leaf aq.ret [int .u64 (↑v:Int)]):=ah
theorem L5 {z:Nat->Nat} {n k v:Nat} (h:v*2^(32*(k+1))+val (k+1) z=val n z):(v*4294967296+z k)*2^(32*k)+val k z=val n z:=by
 rw[<-h,val,je,Nat.add_mul]
 rw[Nat.mul_assoc]
 omega
theorem aaO {n:Nat} {z:Nat->Nat} (hz:∀i,i<n->z i<2^32) (hn:n<=2) (K:Nat) (pre:aE):aS P 182 K [.ak 1 n (aA z)] pre (aM (.int .u64 (val n z:Nat)) []):=by
 refine kI hT af1 rfl aZ rfl (fun _ c h0=>?_) K pre
 refine au.hole [1,1,0,1] ah (aF.bL hT cG hm 30 [0,3,4] aaN ah ?_)
 intro s' hv
 have hv64:val n z<2^64:=by
  have h1:=gV hz
  have h2:2^(32*n)<=2^(32*2):=Nat.pow_le_pow_right aa aa
  omega
 refine au.iX (i:=0) (y:=part (aI f182) [1,1,0,1,0,0]) ah
  (fun p:Nat×Nat=>⟨aB [0,3,4] [.ak 1 n (aA z),.int .u64 (p.2:Nat),.int .i64 ((p.1:Nat)-1:Int)],[],0⟩)
  (fun p=>p.1<=n/\p.2*2^(32*p.1)+val p.1 z=val n z) (fun p=>p.1) (n,0)
  (eA [] hv h0 rfl ⟨aP,aP,⟨rfl,iA (wrap_i64 aa aa)⟩,trivial⟩ trivial) ⟨by simp,by simp⟩ ?_
 rintro⟨k,v⟩ ⟨hk,hval⟩
 simp only at hk hval
 refine au.bL hT cG hm 30 [0,3,4] aaV ah ?_
 simp only[af.all,az,bD,bI]
 refine⟨fun hb=>?_,fun hb s' hv=>?_⟩
 ·obtain⟨j,rfl⟩:∃j,k=j+1:=⟨k-1,aa⟩
  have e:(((j+1:Nat):Int)-1).toNat=j:=aa
  have hzj:=hz j aa
  have hv32:v<2^32:=by
   rcases Nat.lt_or_ge v (2^32)with h|h
   ·exact h
   ·have h1:2^32*2^(32*(j+1))<=v*2^(32*(j+1)):=Nat.mul_le_mul_right _ h
    have h2:2^32<=2^(32*(j+1)):=Nat.pow_le_pow_right aa aa
    have h3:2^32*2^32<=2^32*2^(32*(j+1)):=Nat.mul_le_mul_left _ h2
    omega
  rw[e]
  have fH:u64.wrap ((BitVec.ofInt u64.bits (u64.wrap ((v:Int)*2^min (Int.toNat 32) u64.bits))|||BitVec.ofInt u64.bits (u64.wrap (z j:Int))).toNat:Int)=
    ((v*4294967296+z j:Nat):Int):=by
   rw[yN,cJ (x:=(z j:Int)) aa aa,cJ (x:=(v:Int)*4294967296) aa aa]
   rw[show(v:Int)*4294967296=((v*2^32:Nat):Int) by omega,vZ aa aa,rP hzj]
  refine⟨⟨aa,aa,aa⟩,fun s' hv=>⟨(j,v*4294967296+z j),eA [] hv h0 rfl ⟨aP,⟨rfl,iA fH⟩,⟨rfl,iA (by rw[wrap_i64 aa aa];simp only;omega)⟩,trivial⟩ trivial,
   ⟨by simp only;omega,L5 hval⟩,by simp⟩⟩
 ·have hk0:k=0:=aa
  subst hk0
  have hval:v=val n z:=by simpa [val]using hval
  subst hval
  exact aF.weak ah (eA (vs:=[.ak 1 n (aA z),.int .u64 (val n z:Nat),.int .i64 (((0:Nat):Int)-1)]) (ps:=[]) (nx:=0) [] hv h0 rfl ⟨aP,aP,aP,trivial⟩ trivial)
   (aF.fin hT cG hm 30 Vn ah (bg.refl _))
theorem Ux {n m:Nat} {z y:Nat->Nat}:aH T G1 [14,19] 30 [0,1,5,4] (before (aI f118) [1,1,1,0,1]) ⟨aU 0 [.ak 1 n (aA z),.ak 1 m (aA y)],[],0⟩=
  let c2:Nat:=val m fun i=>numOf (aA y i);let c1:Nat:=val n fun i=>numOf (aA z i);let c4:Int:=(↑(nl c2):Int);let c3:Int:=(↑(nl c1):Int);some (af.aj [fe n (aA z),n<2^62,fe m (aA y),m<2^62] (af.fork (c3 !=c4) (af.fork (decide (c3<c4)) (af.leaf aq.ret ([mag c1,mag c2,tuple [],int .i64 (-1:Int)],[])) (af.leaf aq.ret ([mag c1,mag c2,tuple [],int .i64 (1:Int)],[]))) (af.leaf aq.normal ([mag c1,mag c2,int .i64 (i64.wrap (c3-1)),int .i64 (0:Int)],[])))):=ah
theorem agZ {A B k:Nat}:aH T [] [24,35,44] 30 [0,1,5,4] [part (aI f118) [1,1,1,0,1,0,0]] ⟨aB [0,1,5,4] [.mag A,.mag B,.int .i64 ((k:Int)-1),.int .i64 0],[],0⟩=
  let c6:AV:=int .i64 (0:Int);let c1:Int:=(↑k:Int)-1;let c5:AV:=int .i64 c1;let c4:Int:=(↑(aD A c1.toNat):Int);let c3:Int:=(↑(aD B c1.toNat):Int);let c2:List Prop:=[(0:Int)<=c1/\c1.toNat<nl A,(0:Int)<=c1/\c1.toNat<nl B];some (af.fork (decide (c1>=0)) (af.aj c2 (af.fork (c4 !=c3) (af.aj c2 (af.fork (decide (c4<c3)) (af.leaf aq.ret ([mag A,mag B,c5,int .i64 (-1:Int)],[])) (af.leaf aq.ret ([mag A,mag B,c5,int .i64 (1:Int)],[])))) (af.leaf aq.normal ([mag A,mag B,int .i64 (i64.wrap (c1-1)),c6],[])))) (af.leaf (aq.exit 0) ([mag A,mag B,c5,c6],[]))):=ah
theorem acj {A B k:Nat}:cR T [] [] 30 f118 (behind (aI f118) [1,1,1,0,1]) ⟨aB [0,1,5,4] [.mag A,.mag B,.int .i64 ((k:Int)-1),.int .i64 0],[],0⟩=
  some (af.leaf aq.ret [int .i64 (0:Int)]):=ah
theorem abH {n m:Nat} {z y:Nat->Nat} (hz:∀i,i<n->z i<2^32) (hy:∀i,i<m->y i<2^32) (hn:n<2^40) (hm':m<2^40) (K:Nat) (pre:aE):
  aS P 118 K [.ak 1 n (aA z),.ak 1 m (aA y)] pre (aM (.int .i64 (dJ (val n z) (val m y))) []):=by
 refine kI hT Rz rfl aZ rfl (fun _ c h0=>?_) K pre
 refine au.hole [1,1,1,0,1] ah (aF.bL hT iM hm 30 [0,1,5,4] Ux ah ?_)
 have hnl:nl (val n z)<=n:=eo.2 (gV hz)
 generalize hA:val n z=A at*
 generalize hB:val m y=B at*
 simp only[af.all,az,bD,bI,Ge,hA,hB,bne_iff_ne,ne_eq,Int.natCast_inj,bne_eq_false_iff_eq]
 refine⟨⟨iu hz,aa,iu hy,aa⟩,fun hb=>⟨fun hb2 s' hv=>?_,fun hb2 s' hv=>?_⟩,fun hb s' hv=>?_⟩
 ·have h1:A<B:=CU aa
  exact iG (us:=[.int .i64 (-1)]) (.inr rfl) hv ah (cq (by simp[dJ,h1]))
 ·have h1:B<A:=CU aa
  exact iG (us:=[.int .i64 1]) (.inr rfl) hv ah (cq (by simp[dJ,h1];omega))
 refine au.iX (i:=0) (y:=part (aI f118) [1,1,1,0,1,0,0]) ah
  (fun k:Nat=>⟨aB [0,1,5,4] [.mag A,.mag B,.int .i64 ((k:Int)-1),.int .i64 0],[],0⟩)
  (fun k=>k<=nl A/\∀j,k<=j->j<nl A->aD A j=aD B j) id (nl A)
  (eA [] hv h0 rfl ⟨aP,aP,⟨rfl,iA (wrap_i64 aa aa)⟩,aP,trivial⟩ trivial) ⟨by simp,fun j h1 h2=>aa⟩ ?_
 rintro k ⟨hk,hlim⟩
 refine au.bL hT cG hm 30 [0,1,5,4] agZ ah ?_
 simp only[af.all,az,bD,bI,bne_iff_ne,ne_eq,Int.natCast_inj,bne_eq_false_iff_eq]
 refine⟨fun hb2=>?_,fun hb2 s' hv=>?_⟩
 ·obtain⟨j,rfl⟩:∃j,k=j+1:=⟨k-1,aa⟩
  have e:(((j+1:Nat):Int)-1).toNat=j:=aa
  rw[e]
  refine⟨⟨aa,aa⟩,fun hne=>⟨⟨aa,aa⟩,fun hlt s' hv=>?_,fun hlt s' hv=>?_⟩,fun heq s' hv=>?_⟩
  ·have h1:A<B:=C1 hb (k:=j) aa (fun i h1 h2=>hlim i aa h2) aa
   exact iG (us:=[.int .i64 (-1)]) (.inr rfl) hv ah (cq (by simp[dJ,h1]))
  ·have h1:B<A:=C1 hb.symm (k:=j) aa (fun i h1 h2=>(hlim i aa aa).symm) aa
   exact iG (us:=[.int .i64 1]) (.inr rfl) hv ah (cq (by simp[dJ,h1];omega))
  ·refine⟨j,eA [] hv h0 rfl ⟨aP,aP,⟨rfl,iA (by rw[wrap_i64 aa aa];omega)⟩,aP,trivial⟩ trivial,⟨aa,fun i h1 h2=>?_⟩,by simp⟩
   by_cases hi:i=j
   ·subst hi;exact heq
   ·exact hlim i aa h2
 ·have hk0:k=0:=aa
  subst hk0
  have hAB:A=B:=Gt hb fun i hi=>hlim i aa hi
  exact aF.weak ah (eA (vs:=[.mag A,.mag B,.int .i64 (((0:Nat):Int)-1),.int .i64 0]) (ps:=[]) (nx:=0) [] hv h0 rfl ⟨aP,aP,aP,aP,trivial⟩ trivial)
   (aF.fin hT cG hm 30 acj ah (cq (by simp[dJ,hAB])))
def ED:Spec:=cw fun l=>match l with
 |[.int .u64 x]=>some (aM (.mag x.toNat) [0<=x/\x<2^64])
 |_=>none
theorem Ou:bf P ED 170:=by
 refine dc fun K args r hk hs _=>?_
 split at hs
 ·rename_i x
  simp only[ay]at hs
  subst hs
  intro need
  obtain⟨h1,h2⟩:0<=x/\x<2^64:=need
  obtain⟨y,rfl⟩:=Int.eq_ofNat_of_zero_le h1
  exact Zz (x:=y) aa K [] trivial
 ·simp at hs
def AE (N n:Nat):dZ:=aM (.int .u64 (N:Nat)) [n<=2]
theorem ZK:bf P (cw (nj AE)) 182:=
 dc (v7 fun _ _ K hz need=>aaO hz need K [])
def C2 (A n B m:Nat):dZ:=aM (.int .i64 (dJ A B)) [n<2^40,m<2^40]
theorem HE:bf P (cw (jy C2)) 118:=
 dc (wg fun _ _ _ _ K hz hy need=>abH hz hy need.1 need.2 K [])
end Go.Am.B
