/- natural.Of, natural.word, natural.Cmp. -/
import Derived.Test.YtolopdkjjlfgjaaGreatB2
set_option linter.unusedVariables false
namespace Go.Am.B
open Go Go.Am.N AV Proofs.Tryz IntKind
theorem SK:aX 170 f170:=aY func170
theorem acS:aX 182 f182:=aY func182
theorem WB:aX 118 f118:=aY func118
theorem val_two {z:Nat->Nat}:val 2 z=z 0+z 1*4294967296:=by simp[val]
theorem acz {x:Nat}:bT T G1 [] 30 f170 (aG f170) ⟨aS 0 [.int .u64 x],[],0⟩=
  let c2:AV:=int .u32 (0:Int);let c1:List AV:=[int .u32 (u32.wrap (↑x:Int)),int .u32 (u32.wrap ((↑x:Int).fdiv ((2:Int)^min (Int.toNat (32:Int)) u64.bits)))];some (af.aj [(0:Int)<=32,(2:Nat)*1<=2^24,ew 2 fun i=>nth c1 c2 (i+0),(2:Nat)<2^62] (af.leaf aq.ret [mag (val 2 fun i=>numOf (nth c1 c2 (i+0)))])):=ag
theorem VS {x:Nat} (hx:x<2^64) (K:Nat) (pre:aE):aO P 170 K [.int .u64 x] pre (aJ (.mag x) []):=by
 refine bW hT gR hm SK rfl aW rfl 30 acz (fun _=>?_) K pre
 simp only[af.all,az,lP]
 refine⟨⟨aa,aa,fun i hi=>?_,aa⟩,en (congrArg AV.mag ?_)⟩
 ·match i,hi with
  |0,_=>exact⟨x%2^32,aa,by simp[nth,jX]⟩
  |1,_=>exact⟨x/4294967296,aa,by simp[nth,lO];omega⟩
 ·rw[val_two]
  simp[nth,numOf,lO]
  omega
theorem ab2 {n:Nat} {z:Nat->Nat}:aH T [] [] 30 [0,3,4] (before (aG f182) [1,1,0,1]) ⟨aS 0 [.ak 1 n (aA z)],[],0⟩=
  some (af.leaf aq.normal ([ak 1 n fun a=>int .u32 (↑(z a):Int),int .u64 (0:Int),int .i64 (i64.wrap ((↑n:Int)-1))],[])):=ag
theorem abf {n k v:Nat} {z:Nat->Nat}:aH T [] [9] 30 [0,3,4] [part (aG f182) [1,1,0,1,0,0]] ⟨aD [0,3,4] [.ak 1 n (aA z),.int .u64 v,.int .i64 ((k:Int)-1)],[],0⟩=
  let c2:AV:=ak 1 n fun a=>int .u32 (↑(z a):Int);let c1:Int:=(↑k:Int)-1;some (af.fork (decide (c1>=0)) (af.aj [(0:Int)<=32,(0:Int)<=c1/\c1.toNat<n] (af.leaf aq.normal ([c2,int .u64 (u64.wrap (↑(BitVec.ofInt u64.bits (u64.wrap ((↑v:Int)*2^min (Int.toNat (32:Int)) u64.bits))|||BitVec.ofInt u64.bits (u64.wrap (↑(z c1.toNat):Int))).toNat:Int)),int .i64 (i64.wrap (c1-1))],[]))) (af.leaf (aq.exit 0) ([c2,int .u64 (↑v:Int),int .i64 c1],[]))):=ag
theorem adV {n k v:Nat} {z:Nat->Nat}:cN T [] [] 30 f182 (behind (aG f182) [1,1,0,1]) ⟨aD [0,3,4] [.ak 1 n (aA z),.int .u64 v,.int .i64 ((k:Int)-1)],[],0⟩=
  some (af.leaf aq.ret [int .u64 (↑v:Int)]):=ag
theorem FD {z:Nat->Nat} {n k v:Nat} (h:v*2^(32*(k+1))+val (k+1) z=val n z):(v*4294967296+z k)*2^(32*k)+val k z=val n z:=by
 rw[<-h,val,iC,Nat.add_mul]
 rw[Nat.mul_assoc]
 omega
theorem PW {n:Nat} {z:Nat->Nat} (hz:∀i,i<n->z i<2^32) (hn:n<=2) (K:Nat) (pre:aE):aO P 182 K [.ak 1 n (aA z)] pre (aJ (.int .u64 (val n z:Nat)) []):=by
 refine jU hT acS rfl aW rfl (fun _ c h0=>?_) K pre
 refine au.hole [1,1,0,1] ag (aF.bF hT bU hm 30 [0,3,4] ab2 ag ?_)
 intro s' hv
 have hv64:val n z<2^64:=by
  have h1:=fY hz
  have h2:2^(32*n)<=2^(32*2):=Nat.pow_le_pow_right aa aa
  omega
 refine au.iF (i:=0) (y:=part (aG f182) [1,1,0,1,0,0]) ag
  (fun p:Nat×Nat=>⟨aD [0,3,4] [.ak 1 n (aA z),.int .u64 (p.2:Nat),.int .i64 ((p.1:Nat)-1:Int)],[],0⟩)
  (fun p=>p.1<=n/\p.2*2^(32*p.1)+val p.1 z=val n z) (fun p=>p.1) (n,0)
  (dD [] hv h0 rfl ⟨aN,aN,⟨rfl,gH (wrap_i64 aa aa)⟩,trivial⟩ trivial) ⟨by simp,by simp⟩ ?_
 rintro⟨k,v⟩ ⟨hk,hval⟩
 simp only at hk hval
 refine au.bF hT bU hm 30 [0,3,4] abf ag ?_
 simp only[af.all,az,bz,bE]
 refine⟨fun hb=>?_,fun hb s' hv=>?_⟩
 ·obtain⟨j,rfl⟩:∃j,k=j+1:=⟨k-1,aa⟩
  have e:(((j+1:Nat):Int)-1).toNat=j:=aa
  have hzj:=hz j aa
  have hv32:v<2^32:=by
   rcases Nat.lt_or_ge v (2^32)with h|h
   ·exact h
   ·have h1:2^32*2^(32*(j+1))<=v*2^(32*(j+1)):=Nat.mul_le_mul_right _ h
    have h2:2^32<=2^(32*(j+1)):=Nat.pow_le_pow_right aa aa
    have h3:2^32*2^32<=2^32*2^(32*(j+1)):=Nat.mul_le_mul_left _ h2
    omega
  rw[e]
  have fu:u64.wrap ((BitVec.ofInt u64.bits (u64.wrap ((v:Int)*2^min (Int.toNat 32) u64.bits))|||BitVec.ofInt u64.bits (u64.wrap (z j:Int))).toNat:Int)=
    ((v*4294967296+z j:Nat):Int):=by
   rw[xo,cj (x:=(z j:Int)) aa aa,cj (x:=(v:Int)*4294967296) aa aa]
   rw[show(v:Int)*4294967296=((v*2^32:Nat):Int) by omega,tM aa aa,qU hzj]
  refine⟨⟨aa,aa,aa⟩,fun s' hv=>⟨(j,v*4294967296+z j),dD [] hv h0 rfl ⟨aN,⟨rfl,gH fu⟩,⟨rfl,gH (by rw[wrap_i64 aa aa];simp only;omega)⟩,trivial⟩ trivial,
   ⟨by simp only;omega,FD hval⟩,by simp⟩⟩
 ·have hk0:k=0:=aa
  subst hk0
  have hval:v=val n z:=by simpa [val]using hval
  subst hval
  exact aF.weak ag (dD (vs:=[.ak 1 n (aA z),.int .u64 (val n z:Nat),.int .i64 (((0:Nat):Int)-1)]) (ps:=[]) (nx:=0) [] hv h0 rfl ⟨aN,aN,aN,trivial⟩ trivial)
   (aF.fin hT bU hm 30 adV ag (bB.refl _))
theorem TC {n m:Nat} {z y:Nat->Nat}:aH T G1 [14,19] 30 [0,1,5,4] (before (aG f118) [1,1,1,0,1]) ⟨aS 0 [.ak 1 n (aA z),.ak 1 m (aA y)],[],0⟩=
  let c2:Nat:=val m fun i=>numOf (aA y i);let c1:Nat:=val n fun i=>numOf (aA z i);let c4:Int:=(↑(nl c2):Int);let c3:Int:=(↑(nl c1):Int);some (af.aj [ew n (aA z),n<2^62,ew m (aA y),m<2^62] (af.fork (c3 !=c4) (af.fork (decide (c3<c4)) (af.leaf aq.ret ([mag c1,mag c2,tuple [],int .i64 (-1:Int)],[])) (af.leaf aq.ret ([mag c1,mag c2,tuple [],int .i64 (1:Int)],[]))) (af.leaf aq.normal ([mag c1,mag c2,int .i64 (i64.wrap (c3-1)),int .i64 (0:Int)],[])))):=ag
theorem PD {A B k:Nat}:aH T [] [24,35,44] 30 [0,1,5,4] [part (aG f118) [1,1,1,0,1,0,0]] ⟨aD [0,1,5,4] [.mag A,.mag B,.int .i64 ((k:Int)-1),.int .i64 0],[],0⟩=
  let c6:AV:=int .i64 (0:Int);let c1:Int:=(↑k:Int)-1;let c5:AV:=int .i64 c1;let c4:Int:=(↑(aB A c1.toNat):Int);let c3:Int:=(↑(aB B c1.toNat):Int);let c2:List Prop:=[(0:Int)<=c1/\c1.toNat<nl A,(0:Int)<=c1/\c1.toNat<nl B];some (af.fork (decide (c1>=0)) (af.aj c2 (af.fork (c4 !=c3) (af.aj c2 (af.fork (decide (c4<c3)) (af.leaf aq.ret ([mag A,mag B,c5,int .i64 (-1:Int)],[])) (af.leaf aq.ret ([mag A,mag B,c5,int .i64 (1:Int)],[])))) (af.leaf aq.normal ([mag A,mag B,int .i64 (i64.wrap (c1-1)),c6],[])))) (af.leaf (aq.exit 0) ([mag A,mag B,c5,c6],[]))):=ag
theorem Ti {A B k:Nat}:cN T [] [] 30 f118 (behind (aG f118) [1,1,1,0,1]) ⟨aD [0,1,5,4] [.mag A,.mag B,.int .i64 ((k:Int)-1),.int .i64 0],[],0⟩=
  some (af.leaf aq.ret [int .i64 (0:Int)]):=ag
theorem adI {n m:Nat} {z y:Nat->Nat} (hz:∀i,i<n->z i<2^32) (hy:∀i,i<m->y i<2^32) (hn:n<2^40) (hm':m<2^40) (K:Nat) (pre:aE):
  aO P 118 K [.ak 1 n (aA z),.ak 1 m (aA y)] pre (aJ (.int .i64 (cV (val n z) (val m y))) []):=by
 refine jU hT WB rfl aW rfl (fun _ c h0=>?_) K pre
 refine au.hole [1,1,1,0,1] ag (aF.bF hT gR hm 30 [0,1,5,4] TC ag ?_)
 have hnl:nl (val n z)<=n:=dB.2 (fY hz)
 generalize hA:val n z=A at*
 generalize hB:val m y=B at*
 simp only[af.all,az,bz,bE,Cv,hA,hB,bne_iff_ne,ne_eq,Int.natCast_inj,bne_eq_false_iff_eq]
 refine⟨⟨gv hz,aa,gv hy,aa⟩,fun hb=>⟨fun hb2 s' hv=>?_,fun hb2 s' hv=>?_⟩,fun hb s' hv=>?_⟩
 ·have h1:A<B:=yy aa
  exact gN (us:=[.int .i64 (-1)]) (.inr rfl) hv ag (bQ (by simp[cV,h1]))
 ·have h1:B<A:=yy aa
  exact gN (us:=[.int .i64 1]) (.inr rfl) hv ag (bQ (by simp[cV,h1];omega))
 refine au.iF (i:=0) (y:=part (aG f118) [1,1,1,0,1,0,0]) ag
  (fun k:Nat=>⟨aD [0,1,5,4] [.mag A,.mag B,.int .i64 ((k:Int)-1),.int .i64 0],[],0⟩)
  (fun k=>k<=nl A/\∀j,k<=j->j<nl A->aB A j=aB B j) id (nl A)
  (dD [] hv h0 rfl ⟨aN,aN,⟨rfl,gH (wrap_i64 aa aa)⟩,aN,trivial⟩ trivial) ⟨by simp,fun j h1 h2=>aa⟩ ?_
 rintro k ⟨hk,hlim⟩
 refine au.bF hT bU hm 30 [0,1,5,4] PD ag ?_
 simp only[af.all,az,bz,bE,bne_iff_ne,ne_eq,Int.natCast_inj,bne_eq_false_iff_eq]
 refine⟨fun hb2=>?_,fun hb2 s' hv=>?_⟩
 ·obtain⟨j,rfl⟩:∃j,k=j+1:=⟨k-1,aa⟩
  have e:(((j+1:Nat):Int)-1).toNat=j:=aa
  rw[e]
  refine⟨⟨aa,aa⟩,fun hne=>⟨⟨aa,aa⟩,fun hlt s' hv=>?_,fun hlt s' hv=>?_⟩,fun heq s' hv=>?_⟩
  ·have h1:A<B:=zy hb (k:=j) aa (fun i h1 h2=>hlim i aa h2) aa
   exact gN (us:=[.int .i64 (-1)]) (.inr rfl) hv ag (bQ (by simp[cV,h1]))
  ·have h1:B<A:=zy hb.symm (k:=j) aa (fun i h1 h2=>(hlim i aa aa).symm) aa
   exact gN (us:=[.int .i64 1]) (.inr rfl) hv ag (bQ (by simp[cV,h1];omega))
  ·refine⟨j,dD [] hv h0 rfl ⟨aN,aN,⟨rfl,gH (by rw[wrap_i64 aa aa];omega)⟩,aN,trivial⟩ trivial,⟨aa,fun i h1 h2=>?_⟩,by simp⟩
   by_cases hi:i=j
   ·subst hi;exact heq
   ·exact hlim i aa h2
 ·have hk0:k=0:=aa
  subst hk0
  have hAB:A=B:=Cm hb fun i hi=>hlim i aa hi
  exact aF.weak ag (dD (vs:=[.mag A,.mag B,.int .i64 (((0:Nat):Int)-1),.int .i64 0]) (ps:=[]) (nx:=0) [] hv h0 rfl ⟨aN,aN,aN,aN,trivial⟩ trivial)
   (aF.fin hT bU hm 30 Ti ag (bQ (by simp[cV,hAB])))
def Bv:Spec:=bR fun l=>match l with
 |[.int .u64 x]=>some (aJ (.mag x.toNat) [0<=x/\x<2^64])
 |_=>none
theorem FK:bf P Bv 170:=by
 refine cE fun K args r hk hs _=>?_
 split at hs
 ·rename_i x
  simp only[ax]at hs
  subst hs
  intro need
  obtain⟨h1,h2⟩:0<=x/\x<2^64:=need
  obtain⟨y,rfl⟩:=Int.eq_ofNat_of_zero_le h1
  exact VS (x:=y) aa K [] trivial
 ·simp at hs
def AG (N n:Nat):dr:=aJ (.int .u64 (N:Nat)) [n<=2]
theorem Z6:bf P (bR (mo AG)) 182:=
 cE (sM fun _ _ K hz need=>PW hz need K [])
def AQ (A n B m:Nat):dr:=aJ (.int .i64 (cV A B)) [n<2^40,m<2^40]
theorem ET:bf P (bR (jc AQ)) 118:=
 cE (rP fun _ _ _ _ K hz hy need=>adI hz hy need.1 need.2 K [])
end Go.Am.B
