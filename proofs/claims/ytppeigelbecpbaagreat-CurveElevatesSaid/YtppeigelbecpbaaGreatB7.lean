/- natural. -/
import Derived.Test.YtppeigelbecpbaaGreatB6
import Derived.Test.YtppeigelbecpbaaGreatZ2
set_option linter.unusedVariables false
namespace Go.Am.B
open Go Go.Am.N AV
theorem aah {n s i c:Nat} {z o:Nat->Nat}:aH T G1 [] 30 [4] (behind (aA nc) [1,1,1,0,1]) ⟨aC [0,1,5,6,13,14,15] [.aq 1 n (aD z),.int .i64 s,.own 7 1 0 (n+1),.int .u64 c,.aq 1 n (aD z),.int .i64 n,.int .i64 i],[(7,⟨true,true,1,n+1,aD o⟩)],8⟩=
  let c2:Nat:=n+1;let c1:Nat:=(↑n:Int).toNat+0;some (ah.aj [(0:Int)<=(↑n:Int)/\(↑n:Int).toNat<c2,c1<c2] (ah.leaf au.ret ([own 7 1 0 c2],[(7,ak.mk true true 1 c2 fun j=>if(j==c1)=true then int IntKind.u32 (IntKind.u32.wrap (↑c:Int))else aD o j)]))):=ag
theorem TH {n:Nat} {z:Nat->Nat}:aH T [] [] 30 [0,3] (before (aA iR) [1,1,0]) ⟨aQ 0 [.own 0 1 0 n],[(0,⟨true,true,1,n,aD z⟩)],1⟩=
  some (ah.leaf au.normal ([own 0 1 0 n,int IntKind.i64 (↑n:Int)],[(0,ak.mk true true 1 n fun a=>int IntKind.u32 (↑(z a):Int))])):=ag
theorem adI {n k:Nat} {z:Nat->Nat}:aH T [] [8,15] 30 [0,3] [part (aA iR) [1,1,0,0,0]] ⟨aC [0,3] [.own 0 1 0 n,.int .i64 k],[(0,⟨true,true,1,n,aD z⟩)],1⟩=
  let c4:Int:=(↑k:Int);let c3:AV:=own 0 1 0 n;let c1:Nat×ak:=(0,ak.mk true true 1 n fun a=>int IntKind.u32 (↑(z a):Int));let c6:Bool:=decide (c4>(0:Int));let c5:ah (List AV×aF):=ah.leaf (au.exit 0) ([c3,int IntKind.i64 c4],[c1]);let c2:Int:=IntKind.i64.wrap (c4-(1:Int));let c7:ah (List AV×aF):=ah.leaf au.normal ([c3,int IntKind.i64 c2],[c1]);some (ah.fork c6 (ah.aj [c6=true,(0:Int)<=c2/\c2.toNat<n,c2.toNat+0<n] (ah.fork (bif true then(↑(z (c2.toNat+0)):Int)==(0:Int)else false) c7 c5)) (ah.aj [c6=false] (ah.fork false c7 c5))):=ag
theorem ab6 {n k:Nat} {z:Nat->Nat}:aH T [] [] 30 [2] (behind (aA iR) [1,1,0]) ⟨aC [0,3] [.own 0 1 0 n,.int .i64 k],[(0,⟨true,true,1,n,aD z⟩)],1⟩=
  let c1:Int:=(↑k:Int);some (ah.aj [(0:Int)<=(0:Int)/\(0:Int)<=c1/\c1<=c1/\c1<=(↑n:Int)] (ah.leaf au.ret ([own 0 1 0 (c1.toNat-Int.toNat (0:Int))],[(0,ak.mk true true 1 n fun a=>int IntKind.u32 (↑(z a):Int))]))):=ag
theorem aaa {n s:Nat} {z:Nat->Nat} (hz:∀i,i<n->z i<2^32) (hn:n<2^40) (hs:s<32) (K:Nat):
  aE P Da K [.aq 1 n (aD z),.int .i64 s] [] ⟨.own K 1 0 (n+1),[(K,⟨true,true,1,n+1,aD (aG (val n z*2^s))⟩)],[]⟩:=by
 refine nr hT Vy (args0:=[.aq 1 n (aD z),.int .i64 s]) (pre0:=[]) (nx:=0) [] aX rfl ⟨⟨rfl,aN rfl⟩,⟨rfl,aN rfl⟩,trivial⟩ trivial (fun a k h=>by simp[bh,look]at h) (fun k o h=>?_) (fun _ c h0=>?_)
 ·simp only[look]at h
  split at h
  ·rename_i he
   have:K=k:=by simpa using he
   subst this
   exact .inr ⟨aU,by unfold cT;omega⟩
  ·simp at h
 have hk0:c.k0=bB:=by
  funext k
  cases hk:c.k0 k with
  |none=>rfl
  |some x=>have:=h0 k x hk;simp[bh,look]at this
 refine ajT hz hn hs hk0 fun c' o s' hc ho hval hv=>?_
 have h3:2^s<=2^31:=Nat.pow_le_pow_right aa aa
 refine aI.fh hT gA hm 30 (nx:=8) hv (kA hk0) rfl ⟨⟨aa,fun _ _=>rfl⟩,trivial⟩ [4] aah ag ag ?_
 simp only[ah.all,az,Nat.add_zero,beq_iff_eq,aW,aaL hs hc]
 refine⟨aa,fun s' hv=>⟨by simp,bh [(K,7)],Ic ⟨aU,by unfold cT;omega⟩,.inr (vL (us:=[.own 7 1 0 (n+1)]) (ws:=[.own K 1 0 (n+1)]) (ps:=[(K,⟨true,true,1,n+1,aD (aG (val n z*2^s))⟩)]) hv ag ⟨⟨rfl,cD (by simp[bh,look]) rfl rfl⟩,trivial⟩ rfl rfl ⟨⟨7,_,by simp[bh,look],rfl,fF rfl fun j hj=>?_⟩,trivial⟩)⟩⟩
 have ho':∀j,j<n+1->cH o n c' j<2^32:=ij aa ho
 rw[<-hval,<-th,aD,aD,qN ho' hj]
def S6:Spec:=wj fun K l=>match l with
 |[a,.int .i64 k]=>match sW a with
  |some (N,n,q)=>some ⟨.own K 1 0 (n+1),[(K,⟨true,true,1,n+1,aD (aG (N*2^k.toNat))⟩)],q++[n<2^40,0<=k,k<32]⟩
  |none=>none
 |_=>none
theorem agl:∀K args pre r,S6 K args pre=some r->aE P Da K args pre r:=by
 refine FI fun K args r hk hs=>?_
 split at hs
 ·rename_i a k
  split at hs
  ·rename_i N n q hn
   simp only[ay]at hs
   subst hs
   intro need
   obtain⟨n1,n2⟩:=eL.1 need
   obtain⟨z,hz,rfl,hle⟩:=AT hn n1
   obtain⟨h1,h2,h3⟩:n<2^40/\0<=k/\k<32:=n2
   obtain⟨s,rfl⟩:=Int.eq_ofNat_of_zero_le h2
   exact gD (aaa hz h1 aa K) hk ⟨hle,.refl _,trivial⟩ [] trivial
  ·simp at hs
 ·simp at hs
theorem WZ {n k:Nat} {z:Nat->Nat} (hz:∀i,i<n->z i<2^32) (hn:n<2^62) (K:Nat) {f:Nat->AV} (hf:∀i,i<n->f i=aD z i):
  aE P wM K [.own k 1 0 n] [(k,⟨true,true,1,n,f⟩)] ⟨.own k 1 0 (nl (val n z)),[],[]⟩:=by
 refine nr hT Md (args0:=[.own 0 1 0 n]) (pre0:=[(0,⟨true,true,1,n,aD z⟩)]) (nx:=1) [(0,k)] aX (by simp[iA]) ⟨⟨rfl,cD rfl rfl rfl⟩,trivial⟩ ⟨⟨k,_,rfl,by simp[look],fF rfl hf⟩,trivial⟩
  (fun a x h=>?_) (fun x o h=>by simp[look]at h) (fun _ c h0=>?_)
 ·simp only[bh,look]at h
  split at h
  ·simp only[ay]at h;subst h;exact⟨_,by simp[look];rfl⟩
  ·simp at h
 have hk0:∀k x,c.k0 k=some x->k<1:=fun k x hk=>by
  have:=h0 k x hk
  simp only[bh,look]at this
  split at this
  ·rename_i h;simp at h;omega
  ·simp at this
 refine ax.hole [1,1,0] ag (aI.bA hT bO hm 30 [0,3] TH ag fun s' hv=>?_)
 refine ax.g9 (i:=0) (y:=part (aA iR) [1,1,0,0,0]) ag [0,3] 1 hk0 (fun k:Nat=>[.own 0 1 0 n,.int .i64 k]) (fun _=>[(0,⟨true,true,1,n,aD z⟩)]) (fun _=>rfl) (fun _=>⟨⟨aa,fun _ _=>rfl⟩,trivial⟩)
  (fun k=>k<=n/\∀i,k<=i->i<n->z i=0) id n hv ⟨aU,fun i h1 h2=>aa⟩ ?_
 rintro j ⟨hj,hzj⟩
 refine ax.bA hT bO hm 30 [0,3] adI ag ?_
 have fin:(j=0\/z (j-1)≠0)->∀s',bt [0,3] s'=some ([.own 0 1 0 n,.int .i64 j],[(0,⟨true,true,1,n,aD z⟩)])->aI P c iR.ntmps (behind (aA iR) [1,1,0]) s'
   (fun e s'=>(e=.normal\/e=.ret)/\∃τ,wI [(0,k)] K [(k,⟨true,true,1,n,f⟩)] τ/\(FF T iR τ [(k,⟨true,true,1,n,f⟩)] ⟨.own k 1 0 (nl (val n z)),[],[]⟩ s'\/vr T iR τ [(k,⟨true,true,1,n,f⟩)] ⟨.own k 1 0 (nl (val n z)),[],[]⟩ s')):=by
  intro hj0 s' hv
  refine aI.fh hT bO hm 30 (nx:=1) hv hk0 rfl ⟨⟨aa,fun _ _=>rfl⟩,trivial⟩ [2] ab6 ag ag ?_
  have e:val n z=val j z:=nq hj hzj
  refine⟨⟨aa,aa,aa,aa⟩,fun s' hv=>⟨.inr rfl,bh [(k,0)],ur,.inr (vL (us:=[.own 0 1 0 ((j:Int).toNat-Int.toNat 0)]) (ws:=[.own k 1 0 (nl (val n z))]) (os:=[(0,⟨true,true,1,n,aD z⟩)]) (ps:=[(k,⟨true,true,1,n,f⟩)]) hv ag ⟨⟨rfl,cD (by simp[bh,look]) rfl ?_⟩,trivial⟩ rfl rfl ⟨⟨0,_,by simp[bh,look],rfl,jq rfl fun j hj=>?_⟩,trivial⟩)⟩⟩
  ·rw[e,CW (fun i hi=>hz i aa) hj0];simp
  ·rw[hf j hj];exact aN rfl
 have hw:0<j->IntKind.i64.wrap ((j:Int)-1)=((j-1:Nat):Int):=fun h=>by rw[wrap_i64 aa aa];omega
 refine⟨fun hb=>?_,fun hb=>?_⟩
 ·have h1:0<j:=by simpa using hb
  rw[hw h1]
  have hj1:j-1<n:=aa
  refine⟨⟨hb,⟨aa,by rw[aW];exact hj1⟩,by rw[aW];exact hj1⟩,fun hc s' hv=>?_,fun hc s' hv=>?_⟩
  ·refine⟨j-1,hv,⟨aa,fun i h1 h2=>?_⟩,by simp;omega⟩
   by_cases hi:i=j-1
   ·subst hi;simpa using hc
   ·exact hzj i aa h2
  ·exact fC (fin (.inr (by simpa using hc)) s' hv)
 ·have h1:j=0:=by simpa using hb
  refine⟨hb,fun hc=>by simp at hc,fun hc s' hv=>fC (fin (.inl h1) s' hv)⟩
def JU:Spec:=fun _ args pre=>match args,pre with
 |[.own k es s n],[(k',o)]=>if k==k'&&es==1&&s==0&&o.row&&o.wr&&o.es==1 then some ⟨.own k 1 0 (nl (val n fun i=>numOf (o.f i))),[],[dQ n o.f,o.len=n,n<2^62]⟩else none
 |_,_=>none
theorem UC:∀K args pre r,JU K args pre=some r->aE P wM K args pre r:=by
 intro K args pre r hs
 unfold JU at hs
 split at hs
 ·rename_i k es s n k' o
  split at hs
  ·rename_i hc
   simp only[Bool.and_eq_true,beq_iff_eq]at hc
   obtain⟨⟨⟨⟨⟨rfl,rfl⟩,rfl⟩,h4⟩,h5⟩,h6⟩:=hc
   simp only[ay]at hs
   subst hs
   intro need
   obtain⟨h1,h2,h3⟩:dQ n o.f/\o.len=n/\n<2^62:=need
   obtain⟨row,wr,es,len,f⟩:=o
   simp only at h1 h2 h4 h5 h6
   subst h2 h4 h5 h6
   refine WZ (z:=fun i=>numOf (f i)) (fun i hi=>?_) h3 K (fun i hi=>?_) trivial
   ·obtain⟨z,g1,g2⟩:=h1 i hi
    simp only[g2,numOf];omega
   ·obtain⟨z,g1,g2⟩:=h1 i hi
    simp[g2,numOf,aD]
  ·simp at hs
 ·simp at hs
end Go.Am.B
