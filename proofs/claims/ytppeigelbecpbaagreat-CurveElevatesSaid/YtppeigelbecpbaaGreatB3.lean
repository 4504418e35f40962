/- natural. -/
import Derived.Test.YtppeigelbecpbaaGreatB2
set_option linter.unusedVariables false
namespace Go.Am.B
open Go Go.Am.N AV
theorem aeS:aT P AS Ct (aA Ct):=aY Proofs.Tryz.func224 ag ag ag
theorem ac6:aT P Ee uv (aA uv):=aY Proofs.Tryz.func223 ag ag ag
theorem Ym:aT P vc rN (aA rN):=aY Proofs.Tryz.func215 ag ag ag
theorem val_two {z:Nat->Nat}:val 2 z=z 0+z 1*4294967296:=by simp[val]
theorem ab4 {x:Nat}:bW T G1 [] 30 Ct (aA Ct) ⟨aQ 0 [.int .u64 x],[],0⟩=
  let c2:AV:=int IntKind.u32 (0:Int);let c1:List AV:=[int IntKind.u32 (IntKind.u32.wrap (↑x:Int)),int IntKind.u32 (IntKind.u32.wrap ((↑x:Int).fdiv ((2:Int)^min (Int.toNat (32:Int)) IntKind.u64.bits)))];some (ah.aj [(0:Int)<=(32:Int),(2:Nat)*1<=2^24,dQ 2 fun i=>nth c1 c2 (i+0),(2:Nat)<2^62] (ah.leaf au.ret [mag (val 2 fun i=>numOf (nth c1 c2 (i+0)))])):=ag
theorem akl {x:Nat} (hx:x<2^64) (K:Nat) (pre:aF):aE P AS K [.int .u64 x] pre (aK (.mag x) []):=by
 refine cj hT gA hm aeS rfl aX rfl 30 ab4 (fun _=>?_) K pre
 simp only[ah.all,az,lM]
 refine⟨⟨aa,aa,fun i hi=>?_,aa⟩,dF (congrArg AV.mag ?_)⟩
 ·match i,hi with
  |0,_=>exact⟨x%2^32,aa,by simp[nth,jN]⟩
  |1,_=>exact⟨x/4294967296,aa,by simp[nth,l5];omega⟩
 ·rw[val_two]
  simp[nth,numOf,l5]
  omega
theorem alB {n:Nat} {z:Nat->Nat}:aH T [] [] 30 [0,3,4] (before (aA uv) [1,1,0,1]) ⟨aQ 0 [.aq 1 n (aD z)],[],0⟩=
  some (ah.leaf au.normal ([aq 1 n fun a=>int IntKind.u32 (↑(z a):Int),int IntKind.u64 (0:Int),int IntKind.i64 (IntKind.i64.wrap ((↑n:Int)-(1:Int)))],[])):=ag
theorem Xb {n k v:Nat} {z:Nat->Nat}:aH T [] [9] 30 [0,3,4] [part (aA uv) [1,1,0,1,0,0]] ⟨aC [0,3,4] [.aq 1 n (aD z),.int .u64 v,.int .i64 ((k:Int)-1)],[],0⟩=
  let c2:AV:=aq 1 n fun a=>int IntKind.u32 (↑(z a):Int);let c1:Int:=(↑k:Int)-(1:Int);some (ah.fork (decide (c1>=(0:Int))) (ah.aj [(0:Int)<=(32:Int),(0:Int)<=c1/\c1.toNat<n] (ah.leaf au.normal ([c2,int IntKind.u64 (IntKind.u64.wrap (↑(BitVec.ofInt IntKind.u64.bits (IntKind.u64.wrap ((↑v:Int)*(2:Int)^min (Int.toNat (32:Int)) IntKind.u64.bits))|||BitVec.ofInt IntKind.u64.bits (IntKind.u64.wrap (↑(z c1.toNat):Int))).toNat:Int)),int IntKind.i64 (IntKind.i64.wrap (c1-(1:Int)))],[]))) (ah.leaf (au.exit 0) ([c2,int IntKind.u64 (↑v:Int),int IntKind.i64 c1],[]))):=ag
theorem UX {n k v:Nat} {z:Nat->Nat}:cw T [] [] 30 uv (behind (aA uv) [1,1,0,1]) ⟨aC [0,3,4] [.aq 1 n (aD z),.int .u64 v,.int .i64 ((k:Int)-1)],[],0⟩=
  some (ah.leaf au.ret [int IntKind.u64 (↑v:Int)]):=ag
theorem Sb {z:Nat->Nat} {n k v:Nat} (h:v*2^(32*(k+1))+val (k+1) z=val n z):(v*4294967296+z k)*2^(32*k)+val k z=val n z:=by
 rw[<-h,val,gY,Nat.add_mul]
 rw[Nat.mul_assoc]
 omega
theorem ZK {n:Nat} {z:Nat->Nat} (hz:∀i,i<n->z i<2^32) (hn:n<=2) (K:Nat) (pre:aF):aE P Ee K [.aq 1 n (aD z)] pre (aK (.int .u64 (val n z:Nat)) []):=by
 refine jM hT ac6 rfl aX rfl (fun _ c h0=>?_) K pre
 refine ax.hole [1,1,0,1] ag (aI.bA hT bO hm 30 [0,3,4] alB ag ?_)
 intro s' hv
 have hv64:val n z<2^64:=by
  have h1:=fO hz
  have h2:2^(32*n)<=2^(32*2):=Nat.pow_le_pow_right aa aa
  omega
 refine ax.iw (i:=0) (y:=part (aA uv) [1,1,0,1,0,0]) ag
  (fun p:Nat×Nat=>⟨aC [0,3,4] [.aq 1 n (aD z),.int .u64 (p.2:Nat),.int .i64 ((p.1:Nat)-1:Int)],[],0⟩)
  (fun p=>p.1<=n/\p.2*2^(32*p.1)+val p.1 z=val n z) (fun p=>p.1) (n,0)
  (dB [] hv h0 rfl ⟨⟨rfl,aN rfl⟩,⟨rfl,aN rfl⟩,⟨rfl,gh (wrap_i64 aa aa)⟩,trivial⟩ trivial) ⟨by simp,by simp⟩ ?_
 rintro⟨k,v⟩ ⟨hk,hval⟩
 simp only at hk hval
 refine ax.bA hT bO hm 30 [0,3,4] Xb ag ?_
 simp only[ah.all,az,aZ,bk]
 refine⟨fun hb=>?_,fun hb s' hv=>?_⟩
 ·obtain⟨j,rfl⟩:∃j,k=j+1:=⟨k-1,aa⟩
  have e:(((j+1:Nat):Int)-1).toNat=j:=aa
  have hzj:=hz j aa
  have hv32:v<2^32:=by
   rcases Nat.lt_or_ge v (2^32)with h|h
   ·exact h
   ·have h1:2^32*2^(32*(j+1))<=v*2^(32*(j+1)):=Nat.mul_le_mul_right _ h
    have h2:2^32<=2^(32*(j+1)):=Nat.pow_le_pow_right aa aa
    have h3:2^32*2^32<=2^32*2^(32*(j+1)):=Nat.mul_le_mul_left _ h2
    omega
  rw[e]
  have hor:IntKind.u64.wrap ((BitVec.ofInt IntKind.u64.bits (IntKind.u64.wrap ((v:Int)*2^min (Int.toNat 32) IntKind.u64.bits))|||BitVec.ofInt IntKind.u64.bits (IntKind.u64.wrap (z j:Int))).toNat:Int)=
    ((v*4294967296+z j:Nat):Int):=by
   rw[Ab,cu (x:=(z j:Int)) aa aa,cu (x:=(v:Int)*4294967296) aa aa]
   rw[show(v:Int)*4294967296=((v*2^32:Nat):Int) by omega,uC aa aa,ue hzj]
  refine⟨⟨aa,aa,aa⟩,fun s' hv=>⟨(j,v*4294967296+z j),dB [] hv h0 rfl ⟨⟨rfl,aN rfl⟩,⟨rfl,gh hor⟩,⟨rfl,gh (by rw[wrap_i64 aa aa];simp only;omega)⟩,trivial⟩ trivial,
   ⟨by simp only;omega,Sb hval⟩,by simp⟩⟩
 ·have hk0:k=0:=aa
  subst hk0
  have hval:v=val n z:=by simpa [val]using hval
  subst hval
  exact aI.weak ag (dB (vs:=[.aq 1 n (aD z),.int .u64 (val n z:Nat),.int .i64 (((0:Nat):Int)-1)]) (ps:=[]) (nx:=0) [] hv h0 rfl ⟨⟨rfl,aN rfl⟩,⟨rfl,aN rfl⟩,⟨rfl,aN rfl⟩,trivial⟩ trivial)
   (aI.fin hT bO hm 30 UX ag (bG.refl _))
theorem Vf {n m:Nat} {z y:Nat->Nat}:aH T G1 [14,19] 30 [0,1,5,4] (before (aA rN) [1,1,1,0,1]) ⟨aQ 0 [.aq 1 n (aD z),.aq 1 m (aD y)],[],0⟩=
  let c2 : Nat := val m fun i => numOf (aD y i); let c1 : Nat := val n fun i => numOf (aD z i); let c4 : Int := (↑(nl c2) : Int); let c3 : Int := (↑(nl c1) : Int); some (ah.aj [dQ n (aD z), n < 2 ^ 62, dQ m (aD y), m < 2 ^ 62] (ah.fork (c3 != c4) (ah.fork (decide (c3 < c4)) (ah.leaf au.ret ([mag c1, mag c2, tuple [], int IntKind.i64 (-1 : Int)], [])) (ah.leaf au.ret ([mag c1, mag c2, tuple [], int IntKind.i64 (1 : Int)], []))) (ah.leaf au.normal ([mag c1, mag c2, int IntKind.i64 (IntKind.i64.wrap (c3 - (1 : Int))), int IntKind.i64 (0 : Int)], [])))) := ag
theorem aiQ {A B k:Nat}:aH T [] [24,35,44] 30 [0,1,5,4] [part (aA rN) [1,1,1,0,1,0,0]] ⟨aC [0,1,5,4] [.mag A,.mag B,.int .i64 ((k:Int)-1),.int .i64 0],[],0⟩=
  let c6 : AV := int IntKind.i64 (0 : Int); let c1 : Int := (↑k : Int) - (1 : Int); let c5 : AV := int IntKind.i64 c1; let c4 : Int := (↑(aG A c1.toNat) : Int); let c3 : Int := (↑(aG B c1.toNat) : Int); let c2 : List Prop := [(0 : Int) <= c1 /\ c1.toNat < nl A, (0 : Int) <= c1 /\ c1.toNat < nl B]; some (ah.fork (decide (c1 >= (0 : Int))) (ah.aj c2 (ah.fork (c4 != c3) (ah.aj c2 (ah.fork (decide (c4 < c3)) (ah.leaf au.ret ([mag A, mag B, c5, int IntKind.i64 (-1 : Int)], [])) (ah.leaf au.ret ([mag A, mag B, c5, int IntKind.i64 (1 : Int)], [])))) (ah.leaf au.normal ([mag A, mag B, int IntKind.i64 (IntKind.i64.wrap (c1 - (1 : Int))), c6], [])))) (ah.leaf (au.exit 0) ([mag A, mag B, c5, c6], []))) := ag
theorem Wk {A B k:Nat}:cw T [] [] 30 rN (behind (aA rN) [1,1,1,0,1]) ⟨aC [0,1,5,4] [.mag A,.mag B,.int .i64 ((k:Int)-1),.int .i64 0],[],0⟩=
  some (ah.leaf au.ret [int IntKind.i64 (0:Int)]):=ag
theorem akR {n m:Nat} {z y:Nat->Nat} (hz:∀i,i<n->z i<2^32) (hy:∀i,i<m->y i<2^32) (hn:n<2^40) (hm':m<2^40) (K:Nat) (pre:aF):
  aE P vc K [.aq 1 n (aD z),.aq 1 m (aD y)] pre (aK (.int .i64 (cX (val n z) (val m y))) []):=by
 refine jM hT Ym rfl aX rfl (fun _ c h0=>?_) K pre
 refine ax.hole [1,1,1,0,1] ag (aI.bA hT gA hm 30 [0,1,5,4] Vf ag ?_)
 have hnl:nl (val n z)<=n:=dz.2 (fO hz)
 generalize hA:val n z=A at*
 generalize hB:val m y=B at*
 simp only[ah.all,az,aZ,bk,Hz,hA,hB,bne_iff_ne,ne_eq,Int.natCast_inj,bne_eq_false_iff_eq]
 refine⟨⟨gd hz,aa,gd hy,aa⟩,fun hb=>⟨fun hb2 s' hv=>?_,fun hb2 s' hv=>?_⟩,fun hb s' hv=>?_⟩
 ·have h1:A<B:=Fq aa
  exact gy (us:=[.int .i64 (-1)]) (.inr rfl) hv ag (bQ (by simp[cX,h1]))
 ·have h1:B<A:=Fq aa
  exact gy (us:=[.int .i64 1]) (.inr rfl) hv ag (bQ (by simp[cX,h1];omega))
 refine ax.iw (i:=0) (y:=part (aA rN) [1,1,1,0,1,0,0]) ag
  (fun k:Nat=>⟨aC [0,1,5,4] [.mag A,.mag B,.int .i64 ((k:Int)-1),.int .i64 0],[],0⟩)
  (fun k=>k<=nl A/\∀j,k<=j->j<nl A->aG A j=aG B j) id (nl A)
  (dB [] hv h0 rfl ⟨⟨rfl,aN rfl⟩,⟨rfl,aN rfl⟩,⟨rfl,gh (wrap_i64 aa aa)⟩,⟨rfl,aN rfl⟩,trivial⟩ trivial) ⟨by simp,fun j h1 h2=>aa⟩ ?_
 rintro k ⟨hk,hlim⟩
 refine ax.bA hT bO hm 30 [0,1,5,4] aiQ ag ?_
 simp only[ah.all,az,aZ,bk,bne_iff_ne,ne_eq,Int.natCast_inj,bne_eq_false_iff_eq]
 refine⟨fun hb2=>?_,fun hb2 s' hv=>?_⟩
 ·obtain⟨j,rfl⟩:∃j,k=j+1:=⟨k-1,aa⟩
  have e:(((j+1:Nat):Int)-1).toNat=j:=aa
  rw[e]
  refine⟨⟨aa,aa⟩,fun hne=>⟨⟨aa,aa⟩,fun hlt s' hv=>?_,fun hlt s' hv=>?_⟩,fun heq s' hv=>?_⟩
  ·have h1:A<B:=Bk hb (k:=j) aa (fun i h1 h2=>hlim i aa h2) aa
   exact gy (us:=[.int .i64 (-1)]) (.inr rfl) hv ag (bQ (by simp[cX,h1]))
  ·have h1:B<A:=Bk hb.symm (k:=j) aa (fun i h1 h2=>(hlim i aa aa).symm) aa
   exact gy (us:=[.int .i64 1]) (.inr rfl) hv ag (bQ (by simp[cX,h1];omega))
  ·refine⟨j,dB [] hv h0 rfl ⟨⟨rfl,aN rfl⟩,⟨rfl,aN rfl⟩,⟨rfl,gh (by rw[wrap_i64 aa aa];omega)⟩,⟨rfl,aN rfl⟩,trivial⟩ trivial,⟨aa,fun i h1 h2=>?_⟩,by simp⟩
   by_cases hi:i=j
   ·subst hi;exact heq
   ·exact hlim i aa h2
 ·have hk0:k=0:=aa
  subst hk0
  have hAB:A=B:=Lt hb fun i hi=>hlim i aa hi
  exact aI.weak ag (dB (vs:=[.mag A,.mag B,.int .i64 (((0:Nat):Int)-1),.int .i64 0]) (ps:=[]) (nx:=0) [] hv h0 rfl ⟨⟨rfl,aN rfl⟩,⟨rfl,aN rfl⟩,⟨rfl,aN rfl⟩,⟨rfl,aN rfl⟩,trivial⟩ trivial)
   (aI.fin hT bO hm 30 Wk ag (bQ (by simp[cX,hAB])))
def Ln:Spec:=bX fun l=>match l with
 |[.int .u64 x]=>some (aK (.mag x.toNat) [0<=x/\x<2^64])
 |_=>none
theorem Mi:∀K args pre r,Ln K args pre=some r->aE P AS K args pre r:=by
 refine cK fun K args r hk hs _=>?_
 split at hs
 ·rename_i x
  simp only[ay]at hs
  subst hs
  intro need
  obtain⟨h1,h2⟩:0<=x/\x<2^64:=need
  obtain⟨y,rfl⟩:=Int.eq_ofNat_of_zero_le h1
  exact akl (x:=y) aa K [] trivial
 ·simp at hs
def Cl (N n:Nat):dm:=aK (.int .u64 (N:Nat)) [n<=2]
theorem alS:∀K args pre r,bX (mo Cl) K args pre=some r->aE P Ee K args pre r:=
 cK (uR fun _ _ K hz need=>ZK hz need K [])
def CR (A n B m:Nat):dm:=aK (.int .i64 (cX A B)) [n<2^40,m<2^40]
theorem K6:∀K args pre r,bX (iz CR) K args pre=some r->aE P vc K args pre r:=
 cK (vf fun _ _ _ _ K hz hy need=>akR hz hy need.1 need.2 K [])
end Go.Am.B
