/- natural.Of, natural.word, natural.Cmp. -/
import Derived.Test.YtolopdkjjlfgjaaGreatB2
set_option linter.unusedVariables false
namespace Go.Am.B
open Go Go.Am.N AV Proofs.Tryz IntKind
theorem aiB:bf 170 f170:=bg func170
theorem ajP:bf 182 f182:=bg func182
theorem aam:bf 118 f118:=bg func118
theorem val_two {z:Nat->Nat}:val 2 z=z 0+z 1*4294967296:=by simp[val]
theorem ZZ {x:Nat}:b9 T G1 [] 30 f170 (aH f170) ⟨aU 0 [.int .u64 x],[],0⟩=
  let c2:AV:=int .u32 (0:Int);let c1:List AV:=[int .u32 (u32.wrap (↑x:Int)),int .u32 (u32.wrap ((↑x:Int).fdiv ((2:Int)^min (Int.toNat (32:Int)) u64.bits)))];some (ag.aj [(0:Int)<=32,(2:Nat)*1<=2^24,fm 2 fun i=>nth c1 c2 (i+0),(2:Nat)<2^62] (ag.leaf aq.ret [mag (val 2 fun i=>numOf (nth c1 c2 (i+0)))])):=ah
theorem ajd {x:Nat} (hx:x<2^64) (K:Nat) (pre:aE):aQ P 170 K [.int .u64 x] pre (aL (.mag x) []):=by
 refine ck hT iT hm aiB rfl aX rfl 30 ZZ (fun _=>?_) K pre
 simp only[ag.all,az,mR]
 refine⟨⟨aa,aa,fun i hi=>?_,aa⟩,fk (congrArg AV.mag ?_)⟩
 ·match i,hi with
  |0,_=>exact⟨x%2^32,aa,by simp[nth,kX]⟩
  |1,_=>exact⟨x/4294967296,aa,by simp[nth,mT];omega⟩
 ·rw[val_two]
  simp[nth,numOf,mT]
  omega
theorem aj4 {n:Nat} {z:Nat->Nat}:aI T [] [] 30 [0,3,4] (before (aH f182) [1,1,0,1]) ⟨aU 0 [.ak 1 n (aB z)],[],0⟩=
  some (ag.leaf aq.normal ([ak 1 n fun a=>int .u32 (↑(z a):Int),int .u64 (0:Int),int .i64 (i64.wrap ((↑n:Int)-1))],[])):=ah
theorem Xe {n k v:Nat} {z:Nat->Nat}:aI T [] [9] 30 [0,3,4] [part (aH f182) [1,1,0,1,0,0]] ⟨aC [0,3,4] [.ak 1 n (aB z),.int .u64 v,.int .i64 ((k:Int)-1)],[],0⟩=
  let c2:AV:=ak 1 n fun a=>int .u32 (↑(z a):Int);let c1:Int:=(↑k:Int)-1;some (ag.fork (decide (c1>=0)) (ag.aj [(0:Int)<=32,(0:Int)<=c1/\c1.toNat<n] (ag.leaf aq.normal ([c2,int .u64 (u64.wrap (↑(BitVec.ofInt u64.bits (u64.wrap ((↑v:Int)*2^min (Int.toNat (32:Int)) u64.bits))|||BitVec.ofInt u64.bits (u64.wrap (↑(z c1.toNat):Int))).toNat:Int)),int .i64 (i64.wrap (c1-1))],[]))) (ag.leaf (aq.exit 0) ([c2,int .u64 (↑v:Int),int .i64 c1],[]))):=ah
theorem ae5 {n k v:Nat} {z:Nat->Nat}:cQ T [] [] 30 f182 (behind (aH f182) [1,1,0,1]) ⟨aC [0,3,4] [.ak 1 n (aB z),.int .u64 v,.int .i64 ((k:Int)-1)],[],0⟩=
  some (ag.leaf aq.ret [int .u64 (↑v:Int)]):=ah
theorem Kx {z:Nat->Nat} {n k v:Nat} (h:v*2^(32*(k+1))+val (k+1) z=val n z):(v*4294967296+z k)*2^(32*k)+val k z=val n z:=by
 rw[<-h,val,jf,Nat.add_mul]
 rw[Nat.mul_assoc]
 omega
theorem abx {n:Nat} {z:Nat->Nat} (hz:∀i,i<n->z i<2^32) (hn:n<=2) (K:Nat) (pre:aE):aQ P 182 K [.ak 1 n (aB z)] pre (aL (.int .u64 (val n z:Nat)) []):=by
 refine kO hT ajP rfl aX rfl (fun _ c h0=>?_) K pre
 refine ax.hole [1,1,0,1] ah (aG.bO hT cz hm 30 [0,3,4] aj4 ah ?_)
 intro s' hv
 have hv64:val n z<2^64:=by
  have h1:=g7 hz
  have h2:2^(32*n)<=2^(32*2):=Nat.pow_le_pow_right aa aa
  omega
 refine ax.jj (i:=0) (y:=part (aH f182) [1,1,0,1,0,0]) ah
  (fun p:Nat×Nat=>⟨aC [0,3,4] [.ak 1 n (aB z),.int .u64 (p.2:Nat),.int .i64 ((p.1:Nat)-1:Int)],[],0⟩)
  (fun p=>p.1<=n/\p.2*2^(32*p.1)+val p.1 z=val n z) (fun p=>p.1) (n,0)
  (eG [] hv h0 rfl ⟨aS,aS,⟨rfl,iK (wrap_i64 aa aa)⟩,trivial⟩ trivial) ⟨by simp,by simp⟩ ?_
 rintro⟨k,v⟩ ⟨hk,hval⟩
 simp only at hk hval
 refine ax.bO hT cz hm 30 [0,3,4] Xe ah ?_
 simp only[ag.all,az,bB,bD]
 refine⟨fun hb=>?_,fun hb s' hv=>?_⟩
 ·obtain⟨j,rfl⟩:∃j,k=j+1:=⟨k-1,aa⟩
  have e:(((j+1:Nat):Int)-1).toNat=j:=aa
  have hzj:=hz j aa
  have hv32:v<2^32:=by
   rcases Nat.lt_or_ge v (2^32)with h|h
   ·exact h
   ·have h1:2^32*2^(32*(j+1))<=v*2^(32*(j+1)):=Nat.mul_le_mul_right _ h
    have h2:2^32<=2^(32*(j+1)):=Nat.pow_le_pow_right aa aa
    have h3:2^32*2^32<=2^32*2^(32*(j+1)):=Nat.mul_le_mul_left _ h2
    omega
  rw[e]
  have fP:u64.wrap ((BitVec.ofInt u64.bits (u64.wrap ((v:Int)*2^min (Int.toNat 32) u64.bits))|||BitVec.ofInt u64.bits (u64.wrap (z j:Int))).toNat:Int)=
    ((v*4294967296+z j:Nat):Int):=by
   rw[xu,cK (x:=(z j:Int)) aa aa,cK (x:=(v:Int)*4294967296) aa aa]
   rw[show(v:Int)*4294967296=((v*2^32:Nat):Int) by omega,vj aa aa,r6 hzj]
  refine⟨⟨aa,aa,aa⟩,fun s' hv=>⟨(j,v*4294967296+z j),eG [] hv h0 rfl ⟨aS,⟨rfl,iK fP⟩,⟨rfl,iK (by rw[wrap_i64 aa aa];simp only;omega)⟩,trivial⟩ trivial,
   ⟨by simp only;omega,Kx hval⟩,by simp⟩⟩
 ·have hk0:k=0:=aa
  subst hk0
  have hval:v=val n z:=by simpa [val]using hval
  subst hval
  exact aG.weak ah (eG (vs:=[.ak 1 n (aB z),.int .u64 (val n z:Nat),.int .i64 (((0:Nat):Int)-1)]) (ps:=[]) (nx:=0) [] hv h0 rfl ⟨aS,aS,aS,trivial⟩ trivial)
   (aG.fin hT cz hm 30 ae5 ah (aW.refl _))
theorem YR {n m:Nat} {z y:Nat->Nat}:aI T G1 [14,19] 30 [0,1,5,4] (before (aH f118) [1,1,1,0,1]) ⟨aU 0 [.ak 1 n (aB z),.ak 1 m (aB y)],[],0⟩=
  let c2:Nat:=val m fun i=>numOf (aB y i);let c1:Nat:=val n fun i=>numOf (aB z i);let c4:Int:=(↑(nl c2):Int);let c3:Int:=(↑(nl c1):Int);some (ag.aj [fm n (aB z),n<2^62,fm m (aB y),m<2^62] (ag.fork (c3 !=c4) (ag.fork (decide (c3<c4)) (ag.leaf aq.ret ([mag c1,mag c2,tuple [],int .i64 (-1:Int)],[])) (ag.leaf aq.ret ([mag c1,mag c2,tuple [],int .i64 (1:Int)],[]))) (ag.leaf aq.normal ([mag c1,mag c2,int .i64 (i64.wrap (c3-1)),int .i64 (0:Int)],[])))):=ah
theorem acg {A B k:Nat}:aI T [] [24,35,44] 30 [0,1,5,4] [part (aH f118) [1,1,1,0,1,0,0]] ⟨aC [0,1,5,4] [.mag A,.mag B,.int .i64 ((k:Int)-1),.int .i64 0],[],0⟩=
  let c6:AV:=int .i64 (0:Int);let c1:Int:=(↑k:Int)-1;let c5:AV:=int .i64 c1;let c4:Int:=(↑(aD A c1.toNat):Int);let c3:Int:=(↑(aD B c1.toNat):Int);let c2:List Prop:=[(0:Int)<=c1/\c1.toNat<nl A,(0:Int)<=c1/\c1.toNat<nl B];some (ag.fork (decide (c1>=0)) (ag.aj c2 (ag.fork (c4 !=c3) (ag.aj c2 (ag.fork (decide (c4<c3)) (ag.leaf aq.ret ([mag A,mag B,c5,int .i64 (-1:Int)],[])) (ag.leaf aq.ret ([mag A,mag B,c5,int .i64 (1:Int)],[])))) (ag.leaf aq.normal ([mag A,mag B,int .i64 (i64.wrap (c1-1)),c6],[])))) (ag.leaf (aq.exit 0) ([mag A,mag B,c5,c6],[]))):=ah
theorem aax {A B k:Nat}:cQ T [] [] 30 f118 (behind (aH f118) [1,1,1,0,1]) ⟨aC [0,1,5,4] [.mag A,.mag B,.int .i64 ((k:Int)-1),.int .i64 0],[],0⟩=
  some (ag.leaf aq.ret [int .i64 (0:Int)]):=ah
theorem abQ {n m:Nat} {z y:Nat->Nat} (hz:∀i,i<n->z i<2^32) (hy:∀i,i<m->y i<2^32) (hn:n<2^40) (hm':m<2^40) (K:Nat) (pre:aE):
  aQ P 118 K [.ak 1 n (aB z),.ak 1 m (aB y)] pre (aL (.int .i64 (dO (val n z) (val m y))) []):=by
 refine kO hT aam rfl aX rfl (fun _ c h0=>?_) K pre
 refine ax.hole [1,1,1,0,1] ah (aG.bO hT iT hm 30 [0,1,5,4] YR ah ?_)
 have hnl:nl (val n z)<=n:=eA.2 (g7 hz)
 generalize hA:val n z=A at*
 generalize hB:val m y=B at*
 simp only[ag.all,az,bB,bD,Hg,hA,hB,bne_iff_ne,ne_eq,Int.natCast_inj,bne_eq_false_iff_eq]
 refine⟨⟨iE hz,aa,iE hy,aa⟩,fun hb=>⟨fun hb2 s' hv=>?_,fun hb2 s' hv=>?_⟩,fun hb s' hv=>?_⟩
 ·have h1:A<B:=DB aa
  exact iP (us:=[.int .i64 (-1)]) (.inr rfl) hv ah (cw (by simp[dO,h1]))
 ·have h1:B<A:=DB aa
  exact iP (us:=[.int .i64 1]) (.inr rfl) hv ah (cw (by simp[dO,h1];omega))
 refine ax.jj (i:=0) (y:=part (aH f118) [1,1,1,0,1,0,0]) ah
  (fun k:Nat=>⟨aC [0,1,5,4] [.mag A,.mag B,.int .i64 ((k:Int)-1),.int .i64 0],[],0⟩)
  (fun k=>k<=nl A/\∀j,k<=j->j<nl A->aD A j=aD B j) id (nl A)
  (eG [] hv h0 rfl ⟨aS,aS,⟨rfl,iK (wrap_i64 aa aa)⟩,aS,trivial⟩ trivial) ⟨by simp,fun j h1 h2=>aa⟩ ?_
 rintro k ⟨hk,hlim⟩
 refine ax.bO hT cz hm 30 [0,1,5,4] acg ah ?_
 simp only[ag.all,az,bB,bD,bne_iff_ne,ne_eq,Int.natCast_inj,bne_eq_false_iff_eq]
 refine⟨fun hb2=>?_,fun hb2 s' hv=>?_⟩
 ·obtain⟨j,rfl⟩:∃j,k=j+1:=⟨k-1,aa⟩
  have e:(((j+1:Nat):Int)-1).toNat=j:=aa
  rw[e]
  refine⟨⟨aa,aa⟩,fun hne=>⟨⟨aa,aa⟩,fun hlt s' hv=>?_,fun hlt s' hv=>?_⟩,fun heq s' hv=>?_⟩
  ·have h1:A<B:=BU hb (k:=j) aa (fun i h1 h2=>hlim i aa h2) aa
   exact iP (us:=[.int .i64 (-1)]) (.inr rfl) hv ah (cw (by simp[dO,h1]))
  ·have h1:B<A:=BU hb.symm (k:=j) aa (fun i h1 h2=>(hlim i aa aa).symm) aa
   exact iP (us:=[.int .i64 1]) (.inr rfl) hv ah (cw (by simp[dO,h1];omega))
  ·refine⟨j,eG [] hv h0 rfl ⟨aS,aS,⟨rfl,iK (by rw[wrap_i64 aa aa];omega)⟩,aS,trivial⟩ trivial,⟨aa,fun i h1 h2=>?_⟩,by simp⟩
   by_cases hi:i=j
   ·subst hi;exact heq
   ·exact hlim i aa h2
 ·have hk0:k=0:=aa
  subst hk0
  have hAB:A=B:=Io hb fun i hi=>hlim i aa hi
  exact aG.weak ah (eG (vs:=[.mag A,.mag B,.int .i64 (((0:Nat):Int)-1),.int .i64 0]) (ps:=[]) (nx:=0) [] hv h0 rfl ⟨aS,aS,aS,aS,trivial⟩ trivial)
   (aG.fin hT cz hm 30 aax ah (cw (by simp[dO,hAB])))
def Fb:Spec:=cu fun l=>match l with
 |[.int .u64 x]=>some (aL (.mag x.toNat) [0<=x/\x<2^64])
 |_=>none
theorem NN:aY P Fb 170:=by
 refine cW fun K args r hk hs _=>?_
 split at hs
 ·rename_i x
  simp only[ay]at hs
  subst hs
  intro need
  obtain⟨h1,h2⟩:0<=x/\x<2^64:=need
  obtain⟨y,rfl⟩:=Int.eq_ofNat_of_zero_le h1
  exact ajd (x:=y) aa K [] trivial
 ·simp at hs
def BC (N n:Nat):ep:=aL (.int .u64 (N:Nat)) [n<=2]
theorem Yd:aY P (cu (mZ BC)) 182:=
 cW (u9 fun _ _ K hz need=>abx hz need K [])
def Bq (A n B m:Nat):ep:=aL (.int .i64 (dO A B)) [n<2^40,m<2^40]
theorem Gh:aY P (cu (jw Bq)) 118:=
 cW (uT fun _ _ _ _ K hz hy need=>abQ hz hy need.1 need.2 K [])
end Go.Am.B
