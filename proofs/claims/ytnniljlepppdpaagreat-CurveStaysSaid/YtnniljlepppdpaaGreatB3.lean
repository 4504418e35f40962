/- natural.Of, natural.word, natural.Cmp. -/
import Derived.Test.YtnniljlepppdpaaGreatB2
set_option linter.unusedVariables false
namespace Go.Am.B
open Go Go.Am.N AV
theorem abo:aR P zh Bg (az Bg):=aS Proofs.Tryz.func258 ag ag ag
theorem XQ:aR P Eu tv (az tv):=aS Proofs.Tryz.func257 ag ag ag
theorem Yb:aR P wC s6 (az s6):=aS Proofs.Tryz.func217 ag ag ag
theorem val_two {z:Nat->Nat}:val 2 z=z 0+z 1*4294967296:=by simp[val]
theorem ajf {x:Nat}:bS T G1 [] 30 Bg (az Bg) ⟨aP 0 [.int .u64 x],[],0⟩=
  let c2:AV:=int IntKind.u32 (0:Int);let c1:List AV:=[int IntKind.u32 (IntKind.u32.wrap (↑x:Int)),int IntKind.u32 (IntKind.u32.wrap ((↑x:Int).fdiv ((2:Int)^min (Int.toNat (32:Int)) IntKind.u64.bits)))];some (ah.aj [(0:Int)<=(32:Int),(2:Nat)*1<=2^24,dZ 2 fun i=>nth c1 c2 (i+0),(2:Nat)<2^62] (ah.leaf aq.ret [mag (val 2 fun i=>numOf (nth c1 c2 (i+0)))])):=ag
theorem aem {x:Nat} (hx:x<2^64) (K:Nat) (pre:aF):aD P zh K [.int .u64 x] pre (aK (.mag x) []):=by
 refine bY hT gT hm abo rfl aW rfl 30 ajf (fun _=>?_) K pre
 simp only[ah.all,aA,mE]
 refine⟨⟨aa,aa,fun i hi=>?_,aa⟩,dL (congrArg AV.mag ?_)⟩
 ·match i,hi with
  |0,_=>exact⟨x%2^32,aa,by simp[nth,j8]⟩
  |1,_=>exact⟨x/4294967296,aa,by simp[nth,mh];omega⟩
 ·rw[val_two]
  simp[nth,numOf,mh]
  omega
theorem ZK {n:Nat} {z:Nat->Nat}:aI T [] [] 30 [0,3,4] (before (az tv) [1,1,0,1]) ⟨aP 0 [.ak 1 n (aB z)],[],0⟩=
  some (ah.leaf aq.normal ([ak 1 n fun a=>int IntKind.u32 (↑(z a):Int),int IntKind.u64 (0:Int),int IntKind.i64 (IntKind.i64.wrap ((↑n:Int)-(1:Int)))],[])):=ag
theorem Yt {n k v:Nat} {z:Nat->Nat}:aI T [] [9] 30 [0,3,4] [part (az tv) [1,1,0,1,0,0]] ⟨aE [0,3,4] [.ak 1 n (aB z),.int .u64 v,.int .i64 ((k:Int)-1)],[],0⟩=
  let c2:AV:=ak 1 n fun a=>int IntKind.u32 (↑(z a):Int);let c1:Int:=(↑k:Int)-(1:Int);some (ah.fork (decide (c1>=(0:Int))) (ah.aj [(0:Int)<=(32:Int),(0:Int)<=c1/\c1.toNat<n] (ah.leaf aq.normal ([c2,int IntKind.u64 (IntKind.u64.wrap (↑(BitVec.ofInt IntKind.u64.bits (IntKind.u64.wrap ((↑v:Int)*(2:Int)^min (Int.toNat (32:Int)) IntKind.u64.bits))|||BitVec.ofInt IntKind.u64.bits (IntKind.u64.wrap (↑(z c1.toNat):Int))).toNat:Int)),int IntKind.i64 (IntKind.i64.wrap (c1-(1:Int)))],[]))) (ah.leaf (aq.exit 0) ([c2,int IntKind.u64 (↑v:Int),int IntKind.i64 c1],[]))):=ag
theorem VF {n k v:Nat} {z:Nat->Nat}:cJ T [] [] 30 tv (behind (az tv) [1,1,0,1]) ⟨aE [0,3,4] [.ak 1 n (aB z),.int .u64 v,.int .i64 ((k:Int)-1)],[],0⟩=
  some (ah.leaf aq.ret [int IntKind.u64 (↑v:Int)]):=ag
theorem MR {z:Nat->Nat} {n k v:Nat} (h:v*2^(32*(k+1))+val (k+1) z=val n z):(v*4294967296+z k)*2^(32*k)+val k z=val n z:=by
 rw[<-h,val,iy,Nat.add_mul]
 rw[Nat.mul_assoc]
 omega
theorem ake {n:Nat} {z:Nat->Nat} (hz:∀i,i<n->z i<2^32) (hn:n<=2) (K:Nat) (pre:aF):aD P Eu K [.ak 1 n (aB z)] pre (aK (.int .u64 (val n z:Nat)) []):=by
 refine kB hT XQ rfl aW rfl (fun _ c h0=>?_) K pre
 refine ay.hole [1,1,0,1] ag (aG.bB hT bC hm 30 [0,3,4] ZK ag ?_)
 intro s' hv
 have hv64:val n z<2^64:=by
  have h1:=gh hz
  have h2:2^(32*n)<=2^(32*2):=Nat.pow_le_pow_right aa aa
  omega
 refine ay.iS (i:=0) (y:=part (az tv) [1,1,0,1,0,0]) ag
  (fun p:Nat×Nat=>⟨aE [0,3,4] [.ak 1 n (aB z),.int .u64 (p.2:Nat),.int .i64 ((p.1:Nat)-1:Int)],[],0⟩)
  (fun p=>p.1<=n/\p.2*2^(32*p.1)+val p.1 z=val n z) (fun p=>p.1) (n,0)
  (dF [] hv h0 rfl ⟨⟨rfl,aL rfl⟩,⟨rfl,aL rfl⟩,⟨rfl,gB (wrap_i64 aa aa)⟩,trivial⟩ trivial) ⟨by simp,by simp⟩ ?_
 rintro⟨k,v⟩ ⟨hk,hval⟩
 simp only at hk hval
 refine ay.bB hT bC hm 30 [0,3,4] Yt ag ?_
 simp only[ah.all,aA,bh,bz]
 refine⟨fun hb=>?_,fun hb s' hv=>?_⟩
 ·obtain⟨j,rfl⟩:∃j,k=j+1:=⟨k-1,aa⟩
  have e:(((j+1:Nat):Int)-1).toNat=j:=aa
  have hzj:=hz j aa
  have hv32:v<2^32:=by
   rcases Nat.lt_or_ge v (2^32)with h|h
   ·exact h
   ·have h1:2^32*2^(32*(j+1))<=v*2^(32*(j+1)):=Nat.mul_le_mul_right _ h
    have h2:2^32<=2^(32*(j+1)):=Nat.pow_le_pow_right aa aa
    have h3:2^32*2^32<=2^32*2^(32*(j+1)):=Nat.mul_le_mul_left _ h2
    omega
  rw[e]
  have hor:IntKind.u64.wrap ((BitVec.ofInt IntKind.u64.bits (IntKind.u64.wrap ((v:Int)*2^min (Int.toNat 32) IntKind.u64.bits))|||BitVec.ofInt IntKind.u64.bits (IntKind.u64.wrap (z j:Int))).toNat:Int)=
    ((v*4294967296+z j:Nat):Int):=by
   rw[xE,cr (x:=(z j:Int)) aa aa,cr (x:=(v:Int)*4294967296) aa aa]
   rw[show(v:Int)*4294967296=((v*2^32:Nat):Int) by omega,vG aa aa,tA hzj]
  refine⟨⟨aa,aa,aa⟩,fun s' hv=>⟨(j,v*4294967296+z j),dF [] hv h0 rfl ⟨⟨rfl,aL rfl⟩,⟨rfl,gB hor⟩,⟨rfl,gB (by rw[wrap_i64 aa aa];simp only;omega)⟩,trivial⟩ trivial,
   ⟨by simp only;omega,MR hval⟩,by simp⟩⟩
 ·have hk0:k=0:=aa
  subst hk0
  have hval:v=val n z:=by simpa [val]using hval
  subst hval
  exact aG.weak ag (dF (vs:=[.ak 1 n (aB z),.int .u64 (val n z:Nat),.int .i64 (((0:Nat):Int)-1)]) (ps:=[]) (nx:=0) [] hv h0 rfl ⟨⟨rfl,aL rfl⟩,⟨rfl,aL rfl⟩,⟨rfl,aL rfl⟩,trivial⟩ trivial)
   (aG.fin hT bC hm 30 VF ag (bF.refl _))
theorem adM {n m:Nat} {z y:Nat->Nat}:aI T G1 [14,19] 30 [0,1,5,4] (before (az s6) [1,1,1,0,1]) ⟨aP 0 [.ak 1 n (aB z),.ak 1 m (aB y)],[],0⟩=
  let c2 : Nat := val m fun i => numOf (aB y i); let c1 : Nat := val n fun i => numOf (aB z i); let c4 : Int := (↑(nl c2) : Int); let c3 : Int := (↑(nl c1) : Int); some (ah.aj [dZ n (aB z), n < 2 ^ 62, dZ m (aB y), m < 2 ^ 62] (ah.fork (c3 != c4) (ah.fork (decide (c3 < c4)) (ah.leaf aq.ret ([mag c1, mag c2, tuple [], int IntKind.i64 (-1 : Int)], [])) (ah.leaf aq.ret ([mag c1, mag c2, tuple [], int IntKind.i64 (1 : Int)], []))) (ah.leaf aq.normal ([mag c1, mag c2, int IntKind.i64 (IntKind.i64.wrap (c3 - (1 : Int))), int IntKind.i64 (0 : Int)], [])))) := ag
theorem abr {A B k:Nat}:aI T [] [24,35,44] 30 [0,1,5,4] [part (az s6) [1,1,1,0,1,0,0]] ⟨aE [0,1,5,4] [.mag A,.mag B,.int .i64 ((k:Int)-1),.int .i64 0],[],0⟩=
  let c6 : AV := int IntKind.i64 (0 : Int); let c1 : Int := (↑k : Int) - (1 : Int); let c5 : AV := int IntKind.i64 c1; let c4 : Int := (↑(aC A c1.toNat) : Int); let c3 : Int := (↑(aC B c1.toNat) : Int); let c2 : List Prop := [(0 : Int) <= c1 /\ c1.toNat < nl A, (0 : Int) <= c1 /\ c1.toNat < nl B]; some (ah.fork (decide (c1 >= (0 : Int))) (ah.aj c2 (ah.fork (c4 != c3) (ah.aj c2 (ah.fork (decide (c4 < c3)) (ah.leaf aq.ret ([mag A, mag B, c5, int IntKind.i64 (-1 : Int)], [])) (ah.leaf aq.ret ([mag A, mag B, c5, int IntKind.i64 (1 : Int)], [])))) (ah.leaf aq.normal ([mag A, mag B, int IntKind.i64 (IntKind.i64.wrap (c1 - (1 : Int))), c6], [])))) (ah.leaf (aq.exit 0) ([mag A, mag B, c5, c6], []))) := ag
theorem ai7 {A B k:Nat}:cJ T [] [] 30 s6 (behind (az s6) [1,1,1,0,1]) ⟨aE [0,1,5,4] [.mag A,.mag B,.int .i64 ((k:Int)-1),.int .i64 0],[],0⟩=
  some (ah.leaf aq.ret [int IntKind.i64 (0:Int)]):=ag
theorem alv {n m:Nat} {z y:Nat->Nat} (hz:∀i,i<n->z i<2^32) (hy:∀i,i<m->y i<2^32) (hn:n<2^40) (hm':m<2^40) (K:Nat) (pre:aF):
  aD P wC K [.ak 1 n (aB z),.ak 1 m (aB y)] pre (aK (.int .i64 (cZ (val n z) (val m y))) []):=by
 refine kB hT Yb rfl aW rfl (fun _ c h0=>?_) K pre
 refine ay.hole [1,1,1,0,1] ag (aG.bB hT gT hm 30 [0,1,5,4] adM ag ?_)
 have hnl:nl (val n z)<=n:=dB.2 (gh hz)
 generalize hA:val n z=A at*
 generalize hB:val m y=B at*
 simp only[ah.all,aA,bh,bz,K6,hA,hB,bne_iff_ne,ne_eq,Int.natCast_inj,bne_eq_false_iff_eq]
 refine⟨⟨gE hz,aa,gE hy,aa⟩,fun hb=>⟨fun hb2 s' hv=>?_,fun hb2 s' hv=>?_⟩,fun hb s' hv=>?_⟩
 ·have h1:A<B:=FO aa
  exact gM (us:=[.int .i64 (-1)]) (.inr rfl) hv ag (bN (by simp[cZ,h1]))
 ·have h1:B<A:=FO aa
  exact gM (us:=[.int .i64 1]) (.inr rfl) hv ag (bN (by simp[cZ,h1];omega))
 refine ay.iS (i:=0) (y:=part (az s6) [1,1,1,0,1,0,0]) ag
  (fun k:Nat=>⟨aE [0,1,5,4] [.mag A,.mag B,.int .i64 ((k:Int)-1),.int .i64 0],[],0⟩)
  (fun k=>k<=nl A/\∀j,k<=j->j<nl A->aC A j=aC B j) id (nl A)
  (dF [] hv h0 rfl ⟨⟨rfl,aL rfl⟩,⟨rfl,aL rfl⟩,⟨rfl,gB (wrap_i64 aa aa)⟩,⟨rfl,aL rfl⟩,trivial⟩ trivial) ⟨by simp,fun j h1 h2=>aa⟩ ?_
 rintro k ⟨hk,hlim⟩
 refine ay.bB hT bC hm 30 [0,1,5,4] abr ag ?_
 simp only[ah.all,aA,bh,bz,bne_iff_ne,ne_eq,Int.natCast_inj,bne_eq_false_iff_eq]
 refine⟨fun hb2=>?_,fun hb2 s' hv=>?_⟩
 ·obtain⟨j,rfl⟩:∃j,k=j+1:=⟨k-1,aa⟩
  have e:(((j+1:Nat):Int)-1).toNat=j:=aa
  rw[e]
  refine⟨⟨aa,aa⟩,fun hne=>⟨⟨aa,aa⟩,fun hlt s' hv=>?_,fun hlt s' hv=>?_⟩,fun heq s' hv=>?_⟩
  ·have h1:A<B:=FN hb (k:=j) aa (fun i h1 h2=>hlim i aa h2) aa
   exact gM (us:=[.int .i64 (-1)]) (.inr rfl) hv ag (bN (by simp[cZ,h1]))
  ·have h1:B<A:=FN hb.symm (k:=j) aa (fun i h1 h2=>(hlim i aa aa).symm) aa
   exact gM (us:=[.int .i64 1]) (.inr rfl) hv ag (bN (by simp[cZ,h1];omega))
  ·refine⟨j,dF [] hv h0 rfl ⟨⟨rfl,aL rfl⟩,⟨rfl,aL rfl⟩,⟨rfl,gB (by rw[wrap_i64 aa aa];omega)⟩,⟨rfl,aL rfl⟩,trivial⟩ trivial,⟨aa,fun i h1 h2=>?_⟩,by simp⟩
   by_cases hi:i=j
   ·subst hi;exact heq
   ·exact hlim i aa h2
 ·have hk0:k=0:=aa
  subst hk0
  have hAB:A=B:=G6 hb fun i hi=>hlim i aa hi
  exact aG.weak ag (dF (vs:=[.mag A,.mag B,.int .i64 (((0:Nat):Int)-1),.int .i64 0]) (ps:=[]) (nx:=0) [] hv h0 rfl ⟨⟨rfl,aL rfl⟩,⟨rfl,aL rfl⟩,⟨rfl,aL rfl⟩,⟨rfl,aL rfl⟩,trivial⟩ trivial)
   (aG.fin hT bC hm 30 ai7 ag (bN (by simp[cZ,hAB])))
def JV:Spec:=bU fun l=>match l with
 |[.int .u64 x]=>some (aK (.mag x.toNat) [0<=x/\x<2^64])
 |_=>none
theorem RX:∀K args pre r,JV K args pre=some r->aD P zh K args pre r:=by
 refine cB fun K args r hk hs _=>?_
 split at hs
 ·rename_i x
  simp only[ax]at hs
  subst hs
  intro need
  obtain⟨h1,h2⟩:0<=x/\x<2^64:=need
  obtain⟨y,rfl⟩:=Int.eq_ofNat_of_zero_le h1
  exact aem (x:=y) aa K [] trivial
 ·simp at hs
def AR (N n:Nat):dw:=aK (.int .u64 (N:Nat)) [n<=2]
theorem am1:∀K args pre r,bU (mm AR) K args pre=some r->aD P Eu K args pre r:=
 cB (vW fun _ _ K hz need=>ake hz need K [])
def CL (A n B m:Nat):dw:=aK (.int .i64 (cZ A B)) [n<2^40,m<2^40]
theorem JX:∀K args pre r,bU (iL CL) K args pre=some r->aD P wC K args pre r:=
 cB (uJ fun _ _ _ _ K hz hy need=>alv hz hy need.1 need.2 K [])
end Go.Am.B
