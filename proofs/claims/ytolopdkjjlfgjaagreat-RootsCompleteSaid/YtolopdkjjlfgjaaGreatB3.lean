/- natural.Of, natural.word, natural.Cmp. -/
import Derived.Test.YtolopdkjjlfgjaaGreatB2
set_option linter.unusedVariables false
namespace Go.Am.B
open Go Go.Am.N AV Proofs.Tryz IntKind
theorem Re:bu 170 f170:=bz func170
theorem Rx:bu 182 f182:=bz func182
theorem PG:bu 118 f118:=bz func118
theorem val_two {z:Nat->Nat}:val 2 z=z 0+z 1*4294967296:=by simp[val]
theorem TF {x:Nat}:cq T G1 [] 30 f170 (aG f170) ⟨aV 0 [.int .u64 x],[],0⟩=
  let c2:AV:=int .u32 (0:Int);let c1:List AV:=[int .u32 (u32.wrap (↑x:Int)),int .u32 (u32.wrap ((↑x:Int).fdiv ((2:Int)^min (Int.toNat (32:Int)) u64.bits)))];some (af.aj [(0:Int)<=32,(2:Nat)*1<=2^24,eP 2 fun i=>nth c1 c2 (i+0),(2:Nat)<2^62] (af.leaf ak.ret [mag (val 2 fun i=>numOf (nth c1 c2 (i+0)))])):=ag
theorem aeL {x:Nat} (hx:x<2^64) (K:Nat) (pre:aD):aQ P 170 K [.int .u64 x] pre (aM (.mag x) []):=by
 refine cA hT iA hm Re rfl bp rfl 30 TF (fun _=>?_) K pre
 simp only[af.all,aA,me]
 refine⟨⟨aa,aa,fun i hi=>?_,aa⟩,eO (congrArg AV.mag ?_)⟩
 ·match i,hi with
  |0,_=>exact⟨x%2^32,aa,by simp[nth,ki]⟩
  |1,_=>exact⟨x/4294967296,aa,by simp[nth,mo];omega⟩
 ·rw[val_two]
  simp[nth,numOf,mo]
  omega
theorem aes {n:Nat} {z:Nat->Nat}:aH T [] [] 30 [0,3,4] (before (aG f182) [1,1,0,1]) ⟨aV 0 [.aq 1 n (az z)],[],0⟩=
  some (af.leaf ak.normal ([aq 1 n fun a=>int .u32 (↑(z a):Int),int .u64 (0:Int),int .i64 (i64.wrap ((↑n:Int)-1))],[])):=ag
theorem Yz {n k v:Nat} {z:Nat->Nat}:aH T [] [9] 30 [0,3,4] [part (aG f182) [1,1,0,1,0,0]] ⟨aE [0,3,4] [.aq 1 n (az z),.int .u64 v,.int .i64 ((k:Int)-1)],[],0⟩=
  let c2:AV:=aq 1 n fun a=>int .u32 (↑(z a):Int);let c1:Int:=(↑k:Int)-1;some (af.fork (decide (c1>=0)) (af.aj [(0:Int)<=32,(0:Int)<=c1/\c1.toNat<n] (af.leaf ak.normal ([c2,int .u64 (u64.wrap (↑(BitVec.ofInt u64.bits (u64.wrap ((↑v:Int)*2^min (Int.toNat (32:Int)) u64.bits))|||BitVec.ofInt u64.bits (u64.wrap (↑(z c1.toNat):Int))).toNat:Int)),int .i64 (i64.wrap (c1-1))],[]))) (af.leaf (ak.exit 0) ([c2,int .u64 (↑v:Int),int .i64 c1],[]))):=ag
theorem acp {n k v:Nat} {z:Nat->Nat}:dA T [] [] 30 f182 (behind (aG f182) [1,1,0,1]) ⟨aE [0,3,4] [.aq 1 n (az z),.int .u64 v,.int .i64 ((k:Int)-1)],[],0⟩=
  some (af.leaf ak.ret [int .u64 (↑v:Int)]):=ag
theorem HT {z:Nat->Nat} {n k v:Nat} (h:v*2^(32*(k+1))+val (k+1) z=val n z):(v*4294967296+z k)*2^(32*k)+val k z=val n z:=by
 rw[<-h,val,iX,Nat.add_mul]
 rw[Nat.mul_assoc]
 omega
theorem TH {n:Nat} {z:Nat->Nat} (hz:∀i,i<n->z i<2^32) (hn:n<=2) (K:Nat) (pre:aD):aQ P 182 K [.aq 1 n (az z)] pre (aM (.int .u64 (val n z:Nat)) []):=by
 refine kr hT Rx rfl bp rfl (fun _ c h0=>?_) K pre
 refine au.hole [1,1,0,1] ag (aF.bJ hT ct hm 30 [0,3,4] aes ag ?_)
 intro s' hv
 have hv64:val n z<2^64:=by
  have h1:=gH hz
  have h2:2^(32*n)<=2^(32*2):=Nat.pow_le_pow_right aa aa
  omega
 refine au.jh (i:=0) (y:=part (aG f182) [1,1,0,1,0,0]) ag
  (fun p:Nat×Nat=>⟨aE [0,3,4] [.aq 1 n (az z),.int .u64 (p.2:Nat),.int .i64 ((p.1:Nat)-1:Int)],[],0⟩)
  (fun p=>p.1<=n/\p.2*2^(32*p.1)+val p.1 z=val n z) (fun p=>p.1) (n,0)
  (dZ [] hv h0 rfl ⟨aO,aO,⟨rfl,gW (wrap_i64 aa aa)⟩,trivial⟩ trivial) ⟨by simp,by simp⟩ ?_
 rintro⟨k,v⟩ ⟨hk,hval⟩
 simp only at hk hval
 refine au.bJ hT ct hm 30 [0,3,4] Yz ag ?_
 simp only[af.all,aA,bK,bO]
 refine⟨fun hb=>?_,fun hb s' hv=>?_⟩
 ·obtain⟨j,rfl⟩:∃j,k=j+1:=⟨k-1,aa⟩
  have e:(((j+1:Nat):Int)-1).toNat=j:=aa
  have hzj:=hz j aa
  have hv32:v<2^32:=by
   rcases Nat.lt_or_ge v (2^32)with h|h
   ·exact h
   ·have h1:2^32*2^(32*(j+1))<=v*2^(32*(j+1)):=Nat.mul_le_mul_right _ h
    have h2:2^32<=2^(32*(j+1)):=Nat.pow_le_pow_right aa aa
    have h3:2^32*2^32<=2^32*2^(32*(j+1)):=Nat.mul_le_mul_left _ h2
    omega
  rw[e]
  have fC:u64.wrap ((BitVec.ofInt u64.bits (u64.wrap ((v:Int)*2^min (Int.toNat 32) u64.bits))|||BitVec.ofInt u64.bits (u64.wrap (z j:Int))).toNat:Int)=
    ((v*4294967296+z j:Nat):Int):=by
   rw[wQ,cy (x:=(z j:Int)) aa aa,cy (x:=(v:Int)*4294967296) aa aa]
   rw[show(v:Int)*4294967296=((v*2^32:Nat):Int) by omega,vc aa aa,sP hzj]
  refine⟨⟨aa,aa,aa⟩,fun s' hv=>⟨(j,v*4294967296+z j),dZ [] hv h0 rfl ⟨aO,⟨rfl,gW fC⟩,⟨rfl,gW (by rw[wrap_i64 aa aa];simp only;omega)⟩,trivial⟩ trivial,
   ⟨by simp only;omega,HT hval⟩,by simp⟩⟩
 ·have hk0:k=0:=aa
  subst hk0
  have hval:v=val n z:=by simpa [val]using hval
  subst hval
  exact aF.weak ag (dZ (vs:=[.aq 1 n (az z),.int .u64 (val n z:Nat),.int .i64 (((0:Nat):Int)-1)]) (ps:=[]) (nx:=0) [] hv h0 rfl ⟨aO,aO,aO,trivial⟩ trivial)
   (aF.fin hT ct hm 30 acp ag (bG.refl _))
theorem Xl {n m:Nat} {z y:Nat->Nat}:aH T G1 [14,19] 30 [0,1,5,4] (before (aG f118) [1,1,1,0,1]) ⟨aV 0 [.aq 1 n (az z),.aq 1 m (az y)],[],0⟩=
  let c2:Nat:=val m fun i=>numOf (az y i);let c1:Nat:=val n fun i=>numOf (az z i);let c4:Int:=(↑(nl c2):Int);let c3:Int:=(↑(nl c1):Int);some (af.aj [eP n (az z),n<2^62,eP m (az y),m<2^62] (af.fork (c3 !=c4) (af.fork (decide (c3<c4)) (af.leaf ak.ret ([mag c1,mag c2,tuple [],int .i64 (-1:Int)],[])) (af.leaf ak.ret ([mag c1,mag c2,tuple [],int .i64 (1:Int)],[]))) (af.leaf ak.normal ([mag c1,mag c2,int .i64 (i64.wrap (c3-1)),int .i64 (0:Int)],[])))):=ag
theorem OM {A B k:Nat}:aH T [] [24,35,44] 30 [0,1,5,4] [part (aG f118) [1,1,1,0,1,0,0]] ⟨aE [0,1,5,4] [.mag A,.mag B,.int .i64 ((k:Int)-1),.int .i64 0],[],0⟩=
  let c6:AV:=int .i64 (0:Int);let c1:Int:=(↑k:Int)-1;let c5:AV:=int .i64 c1;let c4:Int:=(↑(aB A c1.toNat):Int);let c3:Int:=(↑(aB B c1.toNat):Int);let c2:List Prop:=[(0:Int)<=c1/\c1.toNat<nl A,(0:Int)<=c1/\c1.toNat<nl B];some (af.fork (decide (c1>=0)) (af.aj c2 (af.fork (c4 !=c3) (af.aj c2 (af.fork (decide (c4<c3)) (af.leaf ak.ret ([mag A,mag B,c5,int .i64 (-1:Int)],[])) (af.leaf ak.ret ([mag A,mag B,c5,int .i64 (1:Int)],[])))) (af.leaf ak.normal ([mag A,mag B,int .i64 (i64.wrap (c1-1)),c6],[])))) (af.leaf (ak.exit 0) ([mag A,mag B,c5,c6],[]))):=ag
theorem ad8 {A B k:Nat}:dA T [] [] 30 f118 (behind (aG f118) [1,1,1,0,1]) ⟨aE [0,1,5,4] [.mag A,.mag B,.int .i64 ((k:Int)-1),.int .i64 0],[],0⟩=
  some (af.leaf ak.ret [int .i64 (0:Int)]):=ag
theorem ab4 {n m:Nat} {z y:Nat->Nat} (hz:∀i,i<n->z i<2^32) (hy:∀i,i<m->y i<2^32) (hn:n<2^40) (hm':m<2^40) (K:Nat) (pre:aD):
  aQ P 118 K [.aq 1 n (az z),.aq 1 m (az y)] pre (aM (.int .i64 (dr (val n z) (val m y))) []):=by
 refine kr hT PG rfl bp rfl (fun _ c h0=>?_) K pre
 refine au.hole [1,1,1,0,1] ag (aF.bJ hT iA hm 30 [0,1,5,4] Xl ag ?_)
 have hnl:nl (val n z)<=n:=ec.2 (gH hz)
 generalize hA:val n z=A at*
 generalize hB:val m y=B at*
 simp only[af.all,aA,bK,bO,Cw,hA,hB,bne_iff_ne,ne_eq,Int.natCast_inj,bne_eq_false_iff_eq]
 refine⟨⟨g9 hz,aa,g9 hy,aa⟩,fun hb=>⟨fun hb2 s' hv=>?_,fun hb2 s' hv=>?_⟩,fun hb s' hv=>?_⟩
 ·have h1:A<B:=yW aa
  exact iq (us:=[.int .i64 (-1)]) (.inr rfl) hv ag (bV (by simp[dr,h1]))
 ·have h1:B<A:=yW aa
  exact iq (us:=[.int .i64 1]) (.inr rfl) hv ag (bV (by simp[dr,h1];omega))
 refine au.jh (i:=0) (y:=part (aG f118) [1,1,1,0,1,0,0]) ag
  (fun k:Nat=>⟨aE [0,1,5,4] [.mag A,.mag B,.int .i64 ((k:Int)-1),.int .i64 0],[],0⟩)
  (fun k=>k<=nl A/\∀j,k<=j->j<nl A->aB A j=aB B j) id (nl A)
  (dZ [] hv h0 rfl ⟨aO,aO,⟨rfl,gW (wrap_i64 aa aa)⟩,aO,trivial⟩ trivial) ⟨by simp,fun j h1 h2=>aa⟩ ?_
 rintro k ⟨hk,hlim⟩
 refine au.bJ hT ct hm 30 [0,1,5,4] OM ag ?_
 simp only[af.all,aA,bK,bO,bne_iff_ne,ne_eq,Int.natCast_inj,bne_eq_false_iff_eq]
 refine⟨fun hb2=>?_,fun hb2 s' hv=>?_⟩
 ·obtain⟨j,rfl⟩:∃j,k=j+1:=⟨k-1,aa⟩
  have e:(((j+1:Nat):Int)-1).toNat=j:=aa
  rw[e]
  refine⟨⟨aa,aa⟩,fun hne=>⟨⟨aa,aa⟩,fun hlt s' hv=>?_,fun hlt s' hv=>?_⟩,fun heq s' hv=>?_⟩
  ·have h1:A<B:=zF hb (k:=j) aa (fun i h1 h2=>hlim i aa h2) aa
   exact iq (us:=[.int .i64 (-1)]) (.inr rfl) hv ag (bV (by simp[dr,h1]))
  ·have h1:B<A:=zF hb.symm (k:=j) aa (fun i h1 h2=>(hlim i aa aa).symm) aa
   exact iq (us:=[.int .i64 1]) (.inr rfl) hv ag (bV (by simp[dr,h1];omega))
  ·refine⟨j,dZ [] hv h0 rfl ⟨aO,aO,⟨rfl,gW (by rw[wrap_i64 aa aa];omega)⟩,aO,trivial⟩ trivial,⟨aa,fun i h1 h2=>?_⟩,by simp⟩
   by_cases hi:i=j
   ·subst hi;exact heq
   ·exact hlim i aa h2
 ·have hk0:k=0:=aa
  subst hk0
  have hAB:A=B:=B5 hb fun i hi=>hlim i aa hi
  exact aF.weak ag (dZ (vs:=[.mag A,.mag B,.int .i64 (((0:Nat):Int)-1),.int .i64 0]) (ps:=[]) (nx:=0) [] hv h0 rfl ⟨aO,aO,aO,aO,trivial⟩ trivial)
   (aF.fin hT ct hm 30 ad8 ag (bV (by simp[dr,hAB])))
def Fw:Spec:=b7 fun l=>match l with
 |[.int .u64 x]=>some (aM (.mag x.toNat) [0<=x/\x<2^64])
 |_=>none
theorem NT:bA P Fw 170:=by
 refine cP fun K args r hk hs _=>?_
 split at hs
 ·rename_i x
  simp only[ax]at hs
  subst hs
  intro need
  obtain⟨h1,h2⟩:0<=x/\x<2^64:=need
  obtain⟨y,rfl⟩:=Int.eq_ofNat_of_zero_le h1
  exact aeL (x:=y) aa K [] trivial
 ·simp at hs
def Bg (N n:Nat):dP:=aM (.int .u64 (N:Nat)) [n<=2]
theorem Ss:bA P (b7 (mT Bg)) 182:=
 cP (tf fun _ _ K hz need=>TH hz need K [])
def A6 (A n B m:Nat):dP:=aM (.int .i64 (dr A B)) [n<2^40,m<2^40]
theorem Di:bA P (b7 (jq A6)) 118:=
 cP (vk fun _ _ _ _ K hz hy need=>ab4 hz hy need.1 need.2 K [])
end Go.Am.B
