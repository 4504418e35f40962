/- natural.trim and natural.raise, where the slice is written to afterwards. -/
import Derived.Test.YtgfjdngnneoeoaaGreatB6
import Derived.Test.YtgfjdngnneoeoaaGreatZ2
set_option linter.unusedVariables false
namespace Go.Am.B
open Go Go.Am.N AV Proofs.Tryz IntKind
theorem acr {n s i c:Nat} {z o:Nat->Nat}:aL T G1 [] 30 [4] (behind (aF f174) [1,1,1,0,1]) ⟨aG [0,1,5,6,13,14,15] [.ak 1 n (aA z),.int .i64 s,.own 7 1 0 (n+1),.int .u64 c,.ak 1 n (aA z),.int .i64 n,.int .i64 i],[(7,⟨true,true,1,n+1,aA o⟩)],8⟩=
  let c2:Nat:=n+1;let c1:Nat:=(↑n:Int).toNat+0;some (ag.aj [(0:Int)<=(↑n:Int)/\(↑n:Int).toNat<c2,c1<c2] (ag.leaf aq.ret ([own 7 1 0 c2],[(7,az.mk true true 1 c2 fun j=>if(j==c1)=true then int .u32 (u32.wrap (↑c:Int))else aA o j)]))):=ah
theorem ac7 {n:Nat} {z:Nat->Nat}:aL T [] [] 30 [0,3] (before (aF f138) [1,1,0]) ⟨aS 0 [.own 0 1 0 n],[(0,⟨true,true,1,n,aA z⟩)],1⟩=
  some (ag.leaf aq.normal ([own 0 1 0 n,int .i64 (↑n:Int)],[(0,az.mk true true 1 n fun a=>int .u32 (↑(z a):Int))])):=ah
theorem Xs {n k:Nat} {z:Nat->Nat}:aL T [] [8,15] 30 [0,3] [part (aF f138) [1,1,0,0,0]] ⟨aG [0,3] [.own 0 1 0 n,.int .i64 k],[(0,⟨true,true,1,n,aA z⟩)],1⟩=
  let c4:Int:=(↑k:Int);let c3:AV:=own 0 1 0 n;let c1:Nat×az:=(0,az.mk true true 1 n fun a=>int .u32 (↑(z a):Int));let c6:Bool:=decide (c4>0);let c5:ag (List AV×aD):=ag.leaf (aq.exit 0) ([c3,int .i64 c4],[c1]);let c2:Int:=i64.wrap (c4-1);let c7:ag (List AV×aD):=ag.leaf aq.normal ([c3,int .i64 c2],[c1]);some (ag.fork c6 (ag.aj [c6=true,(0:Int)<=c2/\c2.toNat<n,c2.toNat+0<n] (ag.fork (bif true then(↑(z (c2.toNat+0)):Int)==0 else false) c7 c5)) (ag.aj [c6=false] (ag.fork false c7 c5))):=ah
theorem aae {n k:Nat} {z:Nat->Nat}:aL T [] [] 30 [2] (behind (aF f138) [1,1,0]) ⟨aG [0,3] [.own 0 1 0 n,.int .i64 k],[(0,⟨true,true,1,n,aA z⟩)],1⟩=
  let c1:Int:=(↑k:Int);some (ag.aj [(0:Int)<=0/\(0:Int)<=c1/\c1<=c1/\c1<=(↑n:Int)] (ag.leaf aq.ret ([own 0 1 0 (c1.toNat-Int.toNat (0:Int))],[(0,az.mk true true 1 n fun a=>int .u32 (↑(z a):Int))]))):=ah
theorem afl {n s:Nat} {z:Nat->Nat} (hz:∀i,i<n->z i<2^32) (hn:n<2^40) (hs:s<32) (K:Nat):
  aN P 174 K [.ak 1 n (aA z),.int .i64 s] [] ⟨.own K 1 0 (n+1),[(K,⟨true,true,1,n+1,aA (aB (val n z*2^s))⟩)],[]⟩:=by
 refine nW hT Uw (args0:=[.ak 1 n (aA z),.int .i64 s]) (pre0:=[]) (nx:=0) [] aW rfl ⟨aP,aP,trivial⟩ trivial (fun a k h=>by simp[bA,look]at h) (fun k o h=>?_) (fun _ c h0=>?_)
 ·simp only[look]at h
  split at h
  ·rename_i he
   have:K=k:=by simpa using he
   subst this
   exact .inr ⟨aR,by unfold cR;omega⟩
  ·simp at h
 have hk0:c.k0=bt:=by
  funext k
  cases hk:c.k0 k with
  |none=>rfl
  |some x=>have:=h0 k x hk;simp[bA,look]at this
 refine Yn hz hn hs hk0 fun c' o s' hc ho hval hv=>?_
 have h3:2^s<=2^31:=Nat.pow_le_pow_right aa aa
 refine aI.fE hT gX hm 30 (nx:=8) hv (jW hk0) rfl ⟨⟨aa,fun _ _=>rfl⟩,trivial⟩ [4] acr ah ah ?_
 simp only[ag.all,au,Nat.add_zero,beq_iff_eq,br,ahp hs hc]
 refine⟨aa,fun s' hv=>⟨by simp,bA [(K,7)],Ax ⟨aR,by unfold cR;omega⟩,.inr (s5 (us:=[.own 7 1 0 (n+1)]) (ws:=[.own K 1 0 (n+1)]) (ps:=[(K,⟨true,true,1,n+1,aA (aB (val n z*2^s))⟩)]) hv ah ⟨⟨rfl,dx (by simp[bA,look]) rfl rfl⟩,trivial⟩ rfl rfl ⟨⟨7,_,by simp[bA,look],rfl,fP rfl fun j hj=>?_⟩,trivial⟩)⟩⟩
 have ho':∀j,j<n+1->cE o n c' j<2^32:=iS aa ho
 rw[<-hval,<-rN,aA,aA,o5 ho' hj]
def LM:Spec:=oF fun K l=>match l with
 |[a,.int .i64 k]=>match qT a with
  |some (N,n,q)=>some ⟨.own K 1 0 (n+1),[(K,⟨true,true,1,n+1,aA (aB (N*2^k.toNat))⟩)],q++[n<2^40,0<=k,k<32]⟩
  |none=>none
 |_=>none
theorem acG:bf P LM 174:=by
 refine qd fun K args r hk hs=>?_
 split at hs
 ·rename_i a k
  split at hs
  ·rename_i N n q hn
   simp only[ax]at hs
   subst hs
   intro need
   obtain⟨n1,n2⟩:=dN.1 need
   obtain⟨z,hz,rfl,hle⟩:=uP hn n1
   obtain⟨h1,h2,h3⟩:n<2^40/\0<=k/\k<32:=n2
   obtain⟨s,rfl⟩:=Int.eq_ofNat_of_zero_le h2
   exact eR (afl hz h1 aa K) hk ⟨hle,.refl _,trivial⟩ [] trivial
  ·simp at hs
 ·simp at hs
theorem YJ {n k:Nat} {z:Nat->Nat} (hz:∀i,i<n->z i<2^32) (hn:n<2^62) (K:Nat) {f:Nat->AV} (hf:∀i,i<n->f i=aA z i):
  aN P 138 K [.own k 1 0 n] [(k,⟨true,true,1,n,f⟩)] ⟨.own k 1 0 (nl (val n z)),[],[]⟩:=by
 refine nW hT KB (args0:=[.own 0 1 0 n]) (pre0:=[(0,⟨true,true,1,n,aA z⟩)]) (nx:=1) [(0,k)] aW (by simp[jn]) ⟨⟨rfl,dx rfl rfl rfl⟩,trivial⟩ ⟨⟨k,_,rfl,by simp[look],fP rfl hf⟩,trivial⟩
  (fun a x h=>?_) (fun x o h=>by simp[look]at h) (fun _ c h0=>?_)
 ·simp only[bA,look]at h
  split at h
  ·simp only[ax]at h;subst h;exact⟨_,by simp[look];rfl⟩
  ·simp at h
 have hk0:∀k x,c.k0 k=some x->k<1:=fun k x hk=>by
  have:=h0 k x hk
  simp only[bA,look]at this
  split at this
  ·rename_i h;simp at h;omega
  ·simp at this
 refine ay.hole [1,1,0] ah (aI.bH hT bD hm 30 [0,3] ac7 ah fun s' hv=>?_)
 refine ay.iF (i:=0) (y:=part (aF f138) [1,1,0,0,0]) ah [0,3] 1 hk0 (fun k:Nat=>[.own 0 1 0 n,.int .i64 k]) (fun _=>[(0,⟨true,true,1,n,aA z⟩)]) (fun _=>rfl) (fun _=>⟨⟨aa,fun _ _=>rfl⟩,trivial⟩)
  (fun k=>k<=n/\∀i,k<=i->i<n->z i=0) id n hv ⟨aR,fun i h1 h2=>aa⟩ ?_
 rintro j ⟨hj,hzj⟩
 refine ay.bH hT bD hm 30 [0,3] Xs ah ?_
 have fin:(j=0\/z (j-1)≠0)->∀s',bB [0,3] s'=some ([.own 0 1 0 n,.int .i64 j],[(0,⟨true,true,1,n,aA z⟩)])->aI P c f138.ntmps (behind (aF f138) [1,1,0]) s'
   (fun e s'=>(e=.normal\/e=.ret)/\∃τ,tN [(0,k)] K [(k,⟨true,true,1,n,f⟩)] τ/\(ze T f138 τ [(k,⟨true,true,1,n,f⟩)] ⟨.own k 1 0 (nl (val n z)),[],[]⟩ s'\/uh T f138 τ [(k,⟨true,true,1,n,f⟩)] ⟨.own k 1 0 (nl (val n z)),[],[]⟩ s')):=by
  intro hj0 s' hv
  refine aI.fE hT bD hm 30 (nx:=1) hv hk0 rfl ⟨⟨aa,fun _ _=>rfl⟩,trivial⟩ [2] aae ah ah ?_
  have e:val n z=val j z:=m7 hj hzj
  refine⟨⟨aa,aa,aa,aa⟩,fun s' hv=>⟨.inr rfl,bA [(k,0)],xb,.inr (s5 (us:=[.own 0 1 0 ((j:Int).toNat-Int.toNat 0)]) (ws:=[.own k 1 0 (nl (val n z))]) (os:=[(0,⟨true,true,1,n,aA z⟩)]) (ps:=[(k,⟨true,true,1,n,f⟩)]) hv ah ⟨⟨rfl,dx (by simp[bA,look]) rfl ?_⟩,trivial⟩ rfl rfl ⟨⟨0,_,by simp[bA,look],rfl,jm rfl fun j hj=>?_⟩,trivial⟩)⟩⟩
  ·rw[e,Aa (fun i hi=>hz i aa) hj0];simp
  ·rw[hf j hj];exact gu rfl
 have hw:0<j->i64.wrap ((j:Int)-1)=((j-1:Nat):Int):=fun h=>by rw[wrap_i64 aa aa];omega
 refine⟨fun hb=>?_,fun hb=>?_⟩
 ·have h1:0<j:=by simpa using hb
  rw[hw h1]
  have hj1:j-1<n:=aa
  refine⟨⟨hb,⟨aa,by rw[br];exact hj1⟩,by rw[br];exact hj1⟩,fun hc s' hv=>?_,fun hc s' hv=>?_⟩
  ·refine⟨j-1,hv,⟨aa,fun i h1 h2=>?_⟩,by simp;omega⟩
   by_cases hi:i=j-1
   ·subst hi;simpa using hc
   ·exact hzj i aa h2
  ·exact fK (fin (.inr (by simpa using hc)) s' hv)
 ·have h1:j=0:=by simpa using hb
  refine⟨hb,fun hc=>by simp at hc,fun hc s' hv=>fK (fin (.inl h1) s' hv)⟩
def DZ:Spec:=fun _ args pre=>match args,pre with
 |[.own k es s n],[(k',o)]=>if k==k'&&es==1&&s==0&&o.row&&o.wr&&o.es==1 then some ⟨.own k 1 0 (nl (val n fun i=>numOf (o.f i))),[],[eo n o.f,o.len=n,n<2^62]⟩else none
 |_,_=>none
theorem Xo:bf P DZ 138:=by
 intro K args pre r hs
 unfold DZ at hs
 split at hs
 ·rename_i k es s n k' o
  split at hs
  ·rename_i hc
   simp only[Bool.and_eq_true,beq_iff_eq]at hc
   obtain⟨⟨⟨⟨⟨rfl,rfl⟩,rfl⟩,h4⟩,h5⟩,h6⟩:=hc
   simp only[ax]at hs
   subst hs
   intro need
   obtain⟨h1,h2,h3⟩:eo n o.f/\o.len=n/\n<2^62:=need
   obtain⟨row,wr,es,len,f⟩:=o
   simp only at h1 h2 h4 h5 h6
   subst h2 h4 h5 h6
   refine YJ (z:=fun i=>numOf (f i)) (fun i hi=>?_) h3 K (fun i hi=>?_) trivial
   ·obtain⟨z,g1,g2⟩:=h1 i hi
    simp only[g2,numOf];omega
   ·obtain⟨z,g1,g2⟩:=h1 i hi
    simp[g2,numOf,aA]
  ·simp at hs
 ·simp at hs
end Go.Am.B
