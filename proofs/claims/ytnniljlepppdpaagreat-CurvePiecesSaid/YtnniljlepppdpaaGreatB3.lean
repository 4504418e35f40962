/- natural.Of, natural.word, natural.Cmp. -/
import Derived.Test.YtnniljlepppdpaaGreatB2
set_option linter.unusedVariables false
namespace Go.Am.B
open Go Go.Am.N AV
theorem aei:aU P yc A5 (az A5):=aT Proofs.Tryz.func258 ah ah ah
theorem aaT:aU P D0 rq (az rq):=aT Proofs.Tryz.func257 ah ah ah
theorem SP:aU P sU qF (az qF):=aT Proofs.Tryz.func217 ah ah ah
theorem val_two {z:Nat->Nat}:val 2 z=z 0+z 1*4294967296:=by simp[val]
theorem aeb {x:Nat}:bP T G1 [] 30 A5 (az A5) ⟨aQ 0 [.int .u64 x],[],0⟩=
  let c2:AV:=int IntKind.u32 (0:Int);let c1:List AV:=[int IntKind.u32 (IntKind.u32.wrap (↑x:Int)),int IntKind.u32 (IntKind.u32.wrap ((↑x:Int).fdiv ((2:Int)^min (Int.toNat (32:Int)) IntKind.u64.bits)))];some (ag.aj [(0:Int)<=(32:Int),(2:Nat)*1<=2^24,dN 2 fun i=>nth c1 c2 (i+0),(2:Nat)<2^62] (ag.leaf ak.ret [mag (val 2 fun i=>numOf (nth c1 c2 (i+0)))])):=ah
theorem Vn {x:Nat} (hx:x<2^64) (K:Nat) (pre:aE):aD P yc K [.int .u64 x] pre (aL (.mag x) []):=by
 refine bW hT gy hm aei rfl aW rfl 30 aeb (fun _=>?_) K pre
 simp only[ag.all,aA,lG]
 refine⟨⟨aa,aa,fun i hi=>?_,aa⟩,dD (congrArg AV.mag ?_)⟩
 ·match i,hi with
  |0,_=>exact⟨x%2^32,aa,by simp[nth,jy]⟩
  |1,_=>exact⟨x/4294967296,aa,by simp[nth,lV];omega⟩
 ·rw[val_two]
  simp[nth,numOf,lV]
  omega
theorem Td {n:Nat} {z:Nat->Nat}:aJ T [] [] 30 [0,3,4] (before (az rq) [1,1,0,1]) ⟨aQ 0 [.aq 1 n (aB z)],[],0⟩=
  some (ag.leaf ak.normal ([aq 1 n fun a=>int IntKind.u32 (↑(z a):Int),int IntKind.u64 (0:Int),int IntKind.i64 (IntKind.i64.wrap ((↑n:Int)-(1:Int)))],[])):=ah
theorem Yi {n k v:Nat} {z:Nat->Nat}:aJ T [] [9] 30 [0,3,4] [part (az rq) [1,1,0,1,0,0]] ⟨aF [0,3,4] [.aq 1 n (aB z),.int .u64 v,.int .i64 ((k:Int)-1)],[],0⟩=
  let c2:AV:=aq 1 n fun a=>int IntKind.u32 (↑(z a):Int);let c1:Int:=(↑k:Int)-(1:Int);some (ag.fork (decide (c1>=(0:Int))) (ag.aj [(0:Int)<=(32:Int),(0:Int)<=c1/\c1.toNat<n] (ag.leaf ak.normal ([c2,int IntKind.u64 (IntKind.u64.wrap (↑(BitVec.ofInt IntKind.u64.bits (IntKind.u64.wrap ((↑v:Int)*(2:Int)^min (Int.toNat (32:Int)) IntKind.u64.bits))|||BitVec.ofInt IntKind.u64.bits (IntKind.u64.wrap (↑(z c1.toNat):Int))).toNat:Int)),int IntKind.i64 (IntKind.i64.wrap (c1-(1:Int)))],[]))) (ag.leaf (ak.exit 0) ([c2,int IntKind.u64 (↑v:Int),int IntKind.i64 c1],[]))):=ah
theorem XL {n k v:Nat} {z:Nat->Nat}:cJ T [] [] 30 rq (behind (az rq) [1,1,0,1]) ⟨aF [0,3,4] [.aq 1 n (aB z),.int .u64 v,.int .i64 ((k:Int)-1)],[],0⟩=
  some (ag.leaf ak.ret [int IntKind.u64 (↑v:Int)]):=ah
theorem OP {z:Nat->Nat} {n k v:Nat} (h:v*2^(32*(k+1))+val (k+1) z=val n z):(v*4294967296+z k)*2^(32*k)+val k z=val n z:=by
 rw[<-h,val,gL,Nat.add_mul]
 rw[Nat.mul_assoc]
 omega
theorem ad5 {n:Nat} {z:Nat->Nat} (hz:∀i,i<n->z i<2^32) (hn:n<=2) (K:Nat) (pre:aE):aD P D0 K [.aq 1 n (aB z)] pre (aL (.int .u64 (val n z:Nat)) []):=by
 refine jL hT aaT rfl aW rfl (fun _ c h0=>?_) K pre
 refine ay.hole [1,1,0,1] ah (aG.bz hT bE hm 30 [0,3,4] Td ah ?_)
 intro s' hv
 have hv64:val n z<2^64:=by
  have h1:=fD hz
  have h2:2^(32*n)<=2^(32*2):=Nat.pow_le_pow_right aa aa
  omega
 refine ay.iz (i:=0) (y:=part (az rq) [1,1,0,1,0,0]) ah
  (fun p:Nat×Nat=>⟨aF [0,3,4] [.aq 1 n (aB z),.int .u64 (p.2:Nat),.int .i64 ((p.1:Nat)-1:Int)],[],0⟩)
  (fun p=>p.1<=n/\p.2*2^(32*p.1)+val p.1 z=val n z) (fun p=>p.1) (n,0)
  (dr [] hv h0 rfl ⟨⟨rfl,aK rfl⟩,⟨rfl,aK rfl⟩,⟨rfl,ga (wrap_i64 aa aa)⟩,trivial⟩ trivial) ⟨by simp,by simp⟩ ?_
 rintro⟨k,v⟩ ⟨hk,hval⟩
 simp only at hk hval
 refine ay.bz hT bE hm 30 [0,3,4] Yi ah ?_
 simp only[ag.all,aA,bf,bt]
 refine⟨fun hb=>?_,fun hb s' hv=>?_⟩
 ·obtain⟨j,rfl⟩:∃j,k=j+1:=⟨k-1,aa⟩
  have e:(((j+1:Nat):Int)-1).toNat=j:=aa
  have hzj:=hz j aa
  have hv32:v<2^32:=by
   rcases Nat.lt_or_ge v (2^32)with h|h
   ·exact h
   ·have h1:2^32*2^(32*(j+1))<=v*2^(32*(j+1)):=Nat.mul_le_mul_right _ h
    have h2:2^32<=2^(32*(j+1)):=Nat.pow_le_pow_right aa aa
    have h3:2^32*2^32<=2^32*2^(32*(j+1)):=Nat.mul_le_mul_left _ h2
    omega
  rw[e]
  have hor:IntKind.u64.wrap ((BitVec.ofInt IntKind.u64.bits (IntKind.u64.wrap ((v:Int)*2^min (Int.toNat 32) IntKind.u64.bits))|||BitVec.ofInt IntKind.u64.bits (IntKind.u64.wrap (z j:Int))).toNat:Int)=
    ((v*4294967296+z j:Nat):Int):=by
   rw[xM,bZ (x:=(z j:Int)) aa aa,bZ (x:=(v:Int)*4294967296) aa aa]
   rw[show(v:Int)*4294967296=((v*2^32:Nat):Int) by omega,u9 aa aa,sn hzj]
  refine⟨⟨aa,aa,aa⟩,fun s' hv=>⟨(j,v*4294967296+z j),dr [] hv h0 rfl ⟨⟨rfl,aK rfl⟩,⟨rfl,ga hor⟩,⟨rfl,ga (by rw[wrap_i64 aa aa];simp only;omega)⟩,trivial⟩ trivial,
   ⟨by simp only;omega,OP hval⟩,by simp⟩⟩
 ·have hk0:k=0:=aa
  subst hk0
  have hval:v=val n z:=by simpa [val]using hval
  subst hval
  exact aG.weak ah (dr (vs:=[.aq 1 n (aB z),.int .u64 (val n z:Nat),.int .i64 (((0:Nat):Int)-1)]) (ps:=[]) (nx:=0) [] hv h0 rfl ⟨⟨rfl,aK rfl⟩,⟨rfl,aK rfl⟩,⟨rfl,aK rfl⟩,trivial⟩ trivial)
   (aG.fin hT bE hm 30 XL ah (bD.refl _))
theorem Ya {n m:Nat} {z y:Nat->Nat}:aJ T G1 [14,19] 30 [0,1,5,4] (before (az qF) [1,1,1,0,1]) ⟨aQ 0 [.aq 1 n (aB z),.aq 1 m (aB y)],[],0⟩=
  let c2 : Nat := val m fun i => numOf (aB y i); let c1 : Nat := val n fun i => numOf (aB z i); let c4 : Int := (↑(nl c2) : Int); let c3 : Int := (↑(nl c1) : Int); some (ag.aj [dN n (aB z), n < 2 ^ 62, dN m (aB y), m < 2 ^ 62] (ag.fork (c3 != c4) (ag.fork (decide (c3 < c4)) (ag.leaf ak.ret ([mag c1, mag c2, tuple [], int IntKind.i64 (-1 : Int)], [])) (ag.leaf ak.ret ([mag c1, mag c2, tuple [], int IntKind.i64 (1 : Int)], []))) (ag.leaf ak.normal ([mag c1, mag c2, int IntKind.i64 (IntKind.i64.wrap (c3 - (1 : Int))), int IntKind.i64 (0 : Int)], [])))) := ah
theorem S3 {A B k:Nat}:aJ T [] [24,35,44] 30 [0,1,5,4] [part (az qF) [1,1,1,0,1,0,0]] ⟨aF [0,1,5,4] [.mag A,.mag B,.int .i64 ((k:Int)-1),.int .i64 0],[],0⟩=
  let c6 : AV := int IntKind.i64 (0 : Int); let c1 : Int := (↑k : Int) - (1 : Int); let c5 : AV := int IntKind.i64 c1; let c4 : Int := (↑(aC A c1.toNat) : Int); let c3 : Int := (↑(aC B c1.toNat) : Int); let c2 : List Prop := [(0 : Int) <= c1 /\ c1.toNat < nl A, (0 : Int) <= c1 /\ c1.toNat < nl B]; some (ag.fork (decide (c1 >= (0 : Int))) (ag.aj c2 (ag.fork (c4 != c3) (ag.aj c2 (ag.fork (decide (c4 < c3)) (ag.leaf ak.ret ([mag A, mag B, c5, int IntKind.i64 (-1 : Int)], [])) (ag.leaf ak.ret ([mag A, mag B, c5, int IntKind.i64 (1 : Int)], [])))) (ag.leaf ak.normal ([mag A, mag B, int IntKind.i64 (IntKind.i64.wrap (c1 - (1 : Int))), c6], [])))) (ag.leaf (ak.exit 0) ([mag A, mag B, c5, c6], []))) := ah
theorem TA {A B k:Nat}:cJ T [] [] 30 qF (behind (az qF) [1,1,1,0,1]) ⟨aF [0,1,5,4] [.mag A,.mag B,.int .i64 ((k:Int)-1),.int .i64 0],[],0⟩=
  some (ag.leaf ak.ret [int IntKind.i64 (0:Int)]):=ah
theorem afb {n m:Nat} {z y:Nat->Nat} (hz:∀i,i<n->z i<2^32) (hy:∀i,i<m->y i<2^32) (hn:n<2^40) (hm':m<2^40) (K:Nat) (pre:aE):
  aD P sU K [.aq 1 n (aB z),.aq 1 m (aB y)] pre (aL (.int .i64 (cO (val n z) (val m y))) []):=by
 refine jL hT SP rfl aW rfl (fun _ c h0=>?_) K pre
 refine ay.hole [1,1,1,0,1] ah (aG.bz hT gy hm 30 [0,1,5,4] Ya ah ?_)
 have hnl:nl (val n z)<=n:=dm.2 (fD hz)
 generalize hA:val n z=A at*
 generalize hB:val m y=B at*
 simp only[ag.all,aA,bf,bt,FY,hA,hB,bne_iff_ne,ne_eq,Int.natCast_inj,bne_eq_false_iff_eq]
 refine⟨⟨fW hz,aa,fW hy,aa⟩,fun hb=>⟨fun hb2 s' hv=>?_,fun hb2 s' hv=>?_⟩,fun hb s' hv=>?_⟩
 ·have h1:A<B:=Ea aa
  exact gj (us:=[.int .i64 (-1)]) (.inr rfl) hv ah (bJ (by simp[cO,h1]))
 ·have h1:B<A:=Ea aa
  exact gj (us:=[.int .i64 1]) (.inr rfl) hv ah (bJ (by simp[cO,h1];omega))
 refine ay.iz (i:=0) (y:=part (az qF) [1,1,1,0,1,0,0]) ah
  (fun k:Nat=>⟨aF [0,1,5,4] [.mag A,.mag B,.int .i64 ((k:Int)-1),.int .i64 0],[],0⟩)
  (fun k=>k<=nl A/\∀j,k<=j->j<nl A->aC A j=aC B j) id (nl A)
  (dr [] hv h0 rfl ⟨⟨rfl,aK rfl⟩,⟨rfl,aK rfl⟩,⟨rfl,ga (wrap_i64 aa aa)⟩,⟨rfl,aK rfl⟩,trivial⟩ trivial) ⟨by simp,fun j h1 h2=>aa⟩ ?_
 rintro k ⟨hk,hlim⟩
 refine ay.bz hT bE hm 30 [0,1,5,4] S3 ah ?_
 simp only[ag.all,aA,bf,bt,bne_iff_ne,ne_eq,Int.natCast_inj,bne_eq_false_iff_eq]
 refine⟨fun hb2=>?_,fun hb2 s' hv=>?_⟩
 ·obtain⟨j,rfl⟩:∃j,k=j+1:=⟨k-1,aa⟩
  have e:(((j+1:Nat):Int)-1).toNat=j:=aa
  rw[e]
  refine⟨⟨aa,aa⟩,fun hne=>⟨⟨aa,aa⟩,fun hlt s' hv=>?_,fun hlt s' hv=>?_⟩,fun heq s' hv=>?_⟩
  ·have h1:A<B:=Eg hb (k:=j) aa (fun i h1 h2=>hlim i aa h2) aa
   exact gj (us:=[.int .i64 (-1)]) (.inr rfl) hv ah (bJ (by simp[cO,h1]))
  ·have h1:B<A:=Eg hb.symm (k:=j) aa (fun i h1 h2=>(hlim i aa aa).symm) aa
   exact gj (us:=[.int .i64 1]) (.inr rfl) hv ah (bJ (by simp[cO,h1];omega))
  ·refine⟨j,dr [] hv h0 rfl ⟨⟨rfl,aK rfl⟩,⟨rfl,aK rfl⟩,⟨rfl,ga (by rw[wrap_i64 aa aa];omega)⟩,⟨rfl,aK rfl⟩,trivial⟩ trivial,⟨aa,fun i h1 h2=>?_⟩,by simp⟩
   by_cases hi:i=j
   ·subst hi;exact heq
   ·exact hlim i aa h2
 ·have hk0:k=0:=aa
  subst hk0
  have hAB:A=B:=EF hb fun i hi=>hlim i aa hi
  exact aG.weak ah (dr (vs:=[.mag A,.mag B,.int .i64 (((0:Nat):Int)-1),.int .i64 0]) (ps:=[]) (nx:=0) [] hv h0 rfl ⟨⟨rfl,aK rfl⟩,⟨rfl,aK rfl⟩,⟨rfl,aK rfl⟩,⟨rfl,aK rfl⟩,trivial⟩ trivial)
   (aG.fin hT bE hm 30 TA ah (bJ (by simp[cO,hAB])))
def G9:Spec:=bM fun l=>match l with
 |[.int .u64 x]=>some (aL (.mag x.toNat) [0<=x/\x<2^64])
 |_=>none
theorem OX:∀K args pre r,G9 K args pre=some r->aD P yc K args pre r:=by
 refine ct fun K args r hk hs _=>?_
 split at hs
 ·rename_i x
  simp only[au]at hs
  subst hs
  intro need
  obtain⟨h1,h2⟩:0<=x/\x<2^64:=need
  obtain⟨y,rfl⟩:=Int.eq_ofNat_of_zero_le h1
  exact Vn (x:=y) aa K [] trivial
 ·simp at hs
def AX (N n:Nat):cZ:=aL (.int .u64 (N:Nat)) [n<=2]
theorem afr:∀K args pre r,bM (lN AX) K args pre=some r->aD P D0 K args pre r:=
 ct (ve fun _ _ K hz need=>ad5 hz need K [])
def CT (A n B m:Nat):cZ:=aL (.int .i64 (cO A B)) [n<2^40,m<2^40]
theorem EG:∀K args pre r,bM (iu CT) K args pre=some r->aD P sU K args pre r:=
 ct (uX fun _ _ _ _ K hz hy need=>afb hz hy need.1 need.2 K [])
end Go.Am.B
