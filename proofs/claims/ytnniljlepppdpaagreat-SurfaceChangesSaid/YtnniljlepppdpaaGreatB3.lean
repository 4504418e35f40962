/- natural.Of, natural.word, natural.Cmp. -/
import Derived.Test.YtnniljlepppdpaaGreatB2
set_option linter.unusedVariables false
namespace Go.Am.B
open Go Go.Am.N AV
theorem abV:aT P yo FA (ay FA):=aU Proofs.Tryz.func258 ag ag ag
theorem ajZ:aT P EV rY (ay rY):=aU Proofs.Tryz.func257 ag ag ag
theorem ZP:aT P vE uj (ay uj):=aU Proofs.Tryz.func217 ag ag ag
theorem val_two {z:Nat->Nat}:val 2 z=z 0+z 1*4294967296:=by simp[val]
theorem Xy {x:Nat}:bU T G1 [] 30 FA (ay FA) ⟨aP 0 [.int .u64 x],[],0⟩=
  let c2:AV:=int .u32 (0:Int);let c1:List AV:=[int .u32 (IntKind.u32.wrap (↑x:Int)),int .u32 (IntKind.u32.wrap ((↑x:Int).fdiv ((2:Int)^min (Int.toNat (32:Int)) IntKind.u64.bits)))];some (ah.aj [(0:Int)<=32,(2:Nat)*1<=2^24,ek 2 fun i=>nth c1 c2 (i+0),(2:Nat)<2^62] (ah.leaf ax.ret [mag (val 2 fun i=>numOf (nth c1 c2 (i+0)))])):=ag
theorem abm {x:Nat} (hx:x<2^64) (K:Nat) (pre:aE):aQ P yo K [.int .u64 x] pre (aJ (.mag x) []):=by
 refine bZ hT gR hm abV rfl aX rfl 30 Xy (fun _=>?_) K pre
 simp only[ah.all,aA,mM]
 refine⟨⟨aa,aa,fun i hi=>?_,aa⟩,dO (congrArg AV.mag ?_)⟩
 ·match i,hi with
  |0,_=>exact⟨x%2^32,aa,by simp[nth,j3]⟩
  |1,_=>exact⟨x/4294967296,aa,by simp[nth,mw];omega⟩
 ·rw[val_two]
  simp[nth,numOf,mw]
  omega
theorem XI {n:Nat} {z:Nat->Nat}:aG T [] [] 30 [0,3,4] (before (ay rY) [1,1,0,1]) ⟨aP 0 [.aq 1 n (aD z)],[],0⟩=
  some (ah.leaf ax.normal ([aq 1 n fun a=>int .u32 (↑(z a):Int),int .u64 (0:Int),int .i64 (IntKind.i64.wrap ((↑n:Int)-1))],[])):=ag
theorem aeM {n k v:Nat} {z:Nat->Nat}:aG T [] [9] 30 [0,3,4] [part (ay rY) [1,1,0,1,0,0]] ⟨aB [0,3,4] [.aq 1 n (aD z),.int .u64 v,.int .i64 ((k:Int)-1)],[],0⟩=
  let c2:AV:=aq 1 n fun a=>int .u32 (↑(z a):Int);let c1:Int:=(↑k:Int)-1;some (ah.fork (decide (c1>=0)) (ah.aj [(0:Int)<=32,(0:Int)<=c1/\c1.toNat<n] (ah.leaf ax.normal ([c2,int .u64 (IntKind.u64.wrap (↑(BitVec.ofInt IntKind.u64.bits (IntKind.u64.wrap ((↑v:Int)*2^min (Int.toNat (32:Int)) IntKind.u64.bits))|||BitVec.ofInt IntKind.u64.bits (IntKind.u64.wrap (↑(z c1.toNat):Int))).toNat:Int)),int .i64 (IntKind.i64.wrap (c1-1))],[]))) (ah.leaf (ax.exit 0) ([c2,int .u64 (↑v:Int),int .i64 c1],[]))):=ag
theorem afd {n k v:Nat} {z:Nat->Nat}:cj T [] [] 30 rY (behind (ay rY) [1,1,0,1]) ⟨aB [0,3,4] [.aq 1 n (aD z),.int .u64 v,.int .i64 ((k:Int)-1)],[],0⟩=
  some (ah.leaf ax.ret [int .u64 (↑v:Int)]):=ag
theorem MZ {z:Nat->Nat} {n k v:Nat} (h:v*2^(32*(k+1))+val (k+1) z=val n z):(v*4294967296+z k)*2^(32*k)+val k z=val n z:=by
 rw[<-h,val,iG,Nat.add_mul]
 rw[Nat.mul_assoc]
 omega
theorem anq {n:Nat} {z:Nat->Nat} (hz:∀i,i<n->z i<2^32) (hn:n<=2) (K:Nat) (pre:aE):aQ P EV K [.aq 1 n (aD z)] pre (aJ (.int .u64 (val n z:Nat)) []):=by
 refine j9 hT ajZ rfl aX rfl (fun _ c h0=>?_) K pre
 refine au.hole [1,1,0,1] ag (aH.bC hT bz hm 30 [0,3,4] XI ag ?_)
 intro s' hv
 have hv64:val n z<2^64:=by
  have h1:=gp hz
  have h2:2^(32*n)<=2^(32*2):=Nat.pow_le_pow_right aa aa
  omega
 refine au.iZ (i:=0) (y:=part (ay rY) [1,1,0,1,0,0]) ag
  (fun p:Nat×Nat=>⟨aB [0,3,4] [.aq 1 n (aD z),.int .u64 (p.2:Nat),.int .i64 ((p.1:Nat)-1:Int)],[],0⟩)
  (fun p=>p.1<=n/\p.2*2^(32*p.1)+val p.1 z=val n z) (fun p=>p.1) (n,0)
  (dH [] hv h0 rfl ⟨aM,aM,⟨rfl,gI (wrap_i64 aa aa)⟩,trivial⟩ trivial) ⟨by simp,by simp⟩ ?_
 rintro⟨k,v⟩ ⟨hk,hval⟩
 simp only at hk hval
 refine au.bC hT bz hm 30 [0,3,4] aeM ag ?_
 simp only[ah.all,aA,bq,bw]
 refine⟨fun hb=>?_,fun hb s' hv=>?_⟩
 ·obtain⟨j,rfl⟩:∃j,k=j+1:=⟨k-1,aa⟩
  have e:(((j+1:Nat):Int)-1).toNat=j:=aa
  have hzj:=hz j aa
  have hv32:v<2^32:=by
   rcases Nat.lt_or_ge v (2^32)with h|h
   ·exact h
   ·have h1:2^32*2^(32*(j+1))<=v*2^(32*(j+1)):=Nat.mul_le_mul_right _ h
    have h2:2^32<=2^(32*(j+1)):=Nat.pow_le_pow_right aa aa
    have h3:2^32*2^32<=2^32*2^(32*(j+1)):=Nat.mul_le_mul_left _ h2
    omega
  rw[e]
  have hor:IntKind.u64.wrap ((BitVec.ofInt IntKind.u64.bits (IntKind.u64.wrap ((v:Int)*2^min (Int.toNat 32) IntKind.u64.bits))|||BitVec.ofInt IntKind.u64.bits (IntKind.u64.wrap (z j:Int))).toNat:Int)=
    ((v*4294967296+z j:Nat):Int):=by
   rw[Bx,cu (x:=(z j:Int)) aa aa,cu (x:=(v:Int)*4294967296) aa aa]
   rw[show(v:Int)*4294967296=((v*2^32:Nat):Int) by omega,vW aa aa,sn hzj]
  refine⟨⟨aa,aa,aa⟩,fun s' hv=>⟨(j,v*4294967296+z j),dH [] hv h0 rfl ⟨aM,⟨rfl,gI hor⟩,⟨rfl,gI (by rw[wrap_i64 aa aa];simp only;omega)⟩,trivial⟩ trivial,
   ⟨by simp only;omega,MZ hval⟩,by simp⟩⟩
 ·have hk0:k=0:=aa
  subst hk0
  have hval:v=val n z:=by simpa [val]using hval
  subst hval
  exact aH.weak ag (dH (vs:=[.aq 1 n (aD z),.int .u64 (val n z:Nat),.int .i64 (((0:Nat):Int)-1)]) (ps:=[]) (nx:=0) [] hv h0 rfl ⟨aM,aM,aM,trivial⟩ trivial)
   (aH.fin hT bz hm 30 afd ag (bN.refl _))
theorem am9 {n m:Nat} {z y:Nat->Nat}:aG T G1 [14,19] 30 [0,1,5,4] (before (ay uj) [1,1,1,0,1]) ⟨aP 0 [.aq 1 n (aD z),.aq 1 m (aD y)],[],0⟩=
  let c2:Nat:=val m fun i=>numOf (aD y i);let c1:Nat:=val n fun i=>numOf (aD z i);let c4:Int:=(↑(nl c2):Int);let c3:Int:=(↑(nl c1):Int);some (ah.aj [ek n (aD z),n<2^62,ek m (aD y),m<2^62] (ah.fork (c3 !=c4) (ah.fork (decide (c3<c4)) (ah.leaf ax.ret ([mag c1,mag c2,tuple [],int .i64 (-1:Int)],[])) (ah.leaf ax.ret ([mag c1,mag c2,tuple [],int .i64 (1:Int)],[]))) (ah.leaf ax.normal ([mag c1,mag c2,int .i64 (IntKind.i64.wrap (c3-1)),int .i64 (0:Int)],[])))):=ag
theorem afm {A B k:Nat}:aG T [] [24,35,44] 30 [0,1,5,4] [part (ay uj) [1,1,1,0,1,0,0]] ⟨aB [0,1,5,4] [.mag A,.mag B,.int .i64 ((k:Int)-1),.int .i64 0],[],0⟩=
  let c6:AV:=int .i64 (0:Int);let c1:Int:=(↑k:Int)-1;let c5:AV:=int .i64 c1;let c4:Int:=(↑(aF A c1.toNat):Int);let c3:Int:=(↑(aF B c1.toNat):Int);let c2:List Prop:=[(0:Int)<=c1/\c1.toNat<nl A,(0:Int)<=c1/\c1.toNat<nl B];some (ah.fork (decide (c1>=0)) (ah.aj c2 (ah.fork (c4 !=c3) (ah.aj c2 (ah.fork (decide (c4<c3)) (ah.leaf ax.ret ([mag A,mag B,c5,int .i64 (-1:Int)],[])) (ah.leaf ax.ret ([mag A,mag B,c5,int .i64 (1:Int)],[])))) (ah.leaf ax.normal ([mag A,mag B,int .i64 (IntKind.i64.wrap (c1-1)),c6],[])))) (ah.leaf (ax.exit 0) ([mag A,mag B,c5,c6],[]))):=ag
theorem aeX {A B k:Nat}:cj T [] [] 30 uj (behind (ay uj) [1,1,1,0,1]) ⟨aB [0,1,5,4] [.mag A,.mag B,.int .i64 ((k:Int)-1),.int .i64 0],[],0⟩=
  some (ah.leaf ax.ret [int .i64 (0:Int)]):=ag
theorem ai6 {n m:Nat} {z y:Nat->Nat} (hz:∀i,i<n->z i<2^32) (hy:∀i,i<m->y i<2^32) (hn:n<2^40) (hm':m<2^40) (K:Nat) (pre:aE):
  aQ P vE K [.aq 1 n (aD z),.aq 1 m (aD y)] pre (aJ (.int .i64 (dh (val n z) (val m y))) []):=by
 refine j9 hT ZP rfl aX rfl (fun _ c h0=>?_) K pre
 refine au.hole [1,1,1,0,1] ag (aH.bC hT gR hm 30 [0,1,5,4] am9 ag ?_)
 have hnl:nl (val n z)<=n:=dF.2 (gp hz)
 generalize hA:val n z=A at*
 generalize hB:val m y=B at*
 simp only[ah.all,aA,bq,bw,JI,hA,hB,bne_iff_ne,ne_eq,Int.natCast_inj,bne_eq_false_iff_eq]
 refine⟨⟨gF hz,aa,gF hy,aa⟩,fun hb=>⟨fun hb2 s' hv=>?_,fun hb2 s' hv=>?_⟩,fun hb s' hv=>?_⟩
 ·have h1:A<B:=BV aa
  exact gQ (us:=[.int .i64 (-1)]) (.inr rfl) hv ag (bK (by simp[dh,h1]))
 ·have h1:B<A:=BV aa
  exact gQ (us:=[.int .i64 1]) (.inr rfl) hv ag (bK (by simp[dh,h1];omega))
 refine au.iZ (i:=0) (y:=part (ay uj) [1,1,1,0,1,0,0]) ag
  (fun k:Nat=>⟨aB [0,1,5,4] [.mag A,.mag B,.int .i64 ((k:Int)-1),.int .i64 0],[],0⟩)
  (fun k=>k<=nl A/\∀j,k<=j->j<nl A->aF A j=aF B j) id (nl A)
  (dH [] hv h0 rfl ⟨aM,aM,⟨rfl,gI (wrap_i64 aa aa)⟩,aM,trivial⟩ trivial) ⟨by simp,fun j h1 h2=>aa⟩ ?_
 rintro k ⟨hk,hlim⟩
 refine au.bC hT bz hm 30 [0,1,5,4] afm ag ?_
 simp only[ah.all,aA,bq,bw,bne_iff_ne,ne_eq,Int.natCast_inj,bne_eq_false_iff_eq]
 refine⟨fun hb2=>?_,fun hb2 s' hv=>?_⟩
 ·obtain⟨j,rfl⟩:∃j,k=j+1:=⟨k-1,aa⟩
  have e:(((j+1:Nat):Int)-1).toNat=j:=aa
  rw[e]
  refine⟨⟨aa,aa⟩,fun hne=>⟨⟨aa,aa⟩,fun hlt s' hv=>?_,fun hlt s' hv=>?_⟩,fun heq s' hv=>?_⟩
  ·have h1:A<B:=FW hb (k:=j) aa (fun i h1 h2=>hlim i aa h2) aa
   exact gQ (us:=[.int .i64 (-1)]) (.inr rfl) hv ag (bK (by simp[dh,h1]))
  ·have h1:B<A:=FW hb.symm (k:=j) aa (fun i h1 h2=>(hlim i aa aa).symm) aa
   exact gQ (us:=[.int .i64 1]) (.inr rfl) hv ag (bK (by simp[dh,h1];omega))
  ·refine⟨j,dH [] hv h0 rfl ⟨aM,aM,⟨rfl,gI (by rw[wrap_i64 aa aa];omega)⟩,aM,trivial⟩ trivial,⟨aa,fun i h1 h2=>?_⟩,by simp⟩
   by_cases hi:i=j
   ·subst hi;exact heq
   ·exact hlim i aa h2
 ·have hk0:k=0:=aa
  subst hk0
  have hAB:A=B:=JM hb fun i hi=>hlim i aa hi
  exact aH.weak ag (dH (vs:=[.mag A,.mag B,.int .i64 (((0:Nat):Int)-1),.int .i64 0]) (ps:=[]) (nx:=0) [] hv h0 rfl ⟨aM,aM,aM,aM,trivial⟩ trivial)
   (aH.fin hT bz hm 30 aeX ag (bK (by simp[dh,hAB])))
def K8:Spec:=bY fun l=>match l with
 |[.int .u64 x]=>some (aJ (.mag x.toNat) [0<=x/\x<2^64])
 |_=>none
theorem UU:aW P K8 yo:=by
 refine cJ fun K args r hk hs _=>?_
 split at hs
 ·rename_i x
  simp only[az]at hs
  subst hs
  intro need
  obtain⟨h1,h2⟩:0<=x/\x<2^64:=need
  obtain⟨y,rfl⟩:=Int.eq_ofNat_of_zero_le h1
  exact abm (x:=y) aa K [] trivial
 ·simp at hs
def Du (N n:Nat):dz:=aJ (.int .u64 (N:Nat)) [n<=2]
theorem anc:aW P (bY (mQ Du)) EV:=
 cJ (uL fun _ _ K hz need=>anq hz need K [])
def F7 (A n B m:Nat):dz:=aJ (.int .i64 (dh A B)) [n<2^40,m<2^40]
theorem Mb:aW P (bY (iN F7)) vE:=
 cJ (uJ fun _ _ _ _ K hz hy need=>ai6 hz hy need.1 need.2 K [])
end Go.Am.B
