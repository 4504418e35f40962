/- natural.trim and natural.raise, where the slice is written to afterwards. -/
import Derived.Test.YtolopdkjjlfgjaaGreatB6
import Derived.Test.YtolopdkjjlfgjaaGreatZ2
set_option linter.unusedVariables false
namespace Go.Am.B
open Go Go.Am.N AV Proofs.Tryz IntKind
theorem Qc {n s i c:Nat} {z o:Nat->Nat}:aK T G1 [] 30 [4] (behind (aJ f185) [1,1,1,0,1]) ⟨aH [0,1,5,6,13,14,15] [.az 1 n (aD z),.int .i64 s,.own 7 1 0 (n+1),.int .u64 c,.az 1 n (aD z),.int .i64 n,.int .i64 i],[(7,⟨true,true,1,n+1,aD o⟩)],8⟩=
  let c2:Nat:=n+1;let c1:Nat:=(↑n:Int).toNat+0;some (af.aj [(0:Int)<=(↑n:Int)/\(↑n:Int).toNat<c2,c1<c2] (af.leaf au.ret ([own 7 1 0 c2],[(7,aC.mk true true 1 c2 fun j=>if(j==c1)=true then int .u32 (u32.wrap (↑c:Int))else aD o j)]))):=ah
theorem Ry {n:Nat} {z:Nat->Nat}:aK T [] [] 30 [0,3] (before (aJ f160) [1,1,0]) ⟨bf 0 [.own 0 1 0 n],[(0,⟨true,true,1,n,aD z⟩)],1⟩=
  some (af.leaf au.normal ([own 0 1 0 n,int .i64 (↑n:Int)],[(0,aC.mk true true 1 n fun a=>int .u32 (↑(z a):Int))])):=ah
theorem XS {n k:Nat} {z:Nat->Nat}:aK T [] [8,15] 30 [0,3] [part (aJ f160) [1,1,0,0,0]] ⟨aH [0,3] [.own 0 1 0 n,.int .i64 k],[(0,⟨true,true,1,n,aD z⟩)],1⟩=
  let c4:Int:=(↑k:Int);let c3:AV:=own 0 1 0 n;let c1:Nat×aC:=(0,aC.mk true true 1 n fun a=>int .u32 (↑(z a):Int));let c6:Bool:=decide (c4>0);let c5:af (List AV×aG):=af.leaf (au.exit 0) ([c3,int .i64 c4],[c1]);let c2:Int:=i64.wrap (c4-1);let c7:af (List AV×aG):=af.leaf au.normal ([c3,int .i64 c2],[c1]);some (af.fork c6 (af.aj [c6=true,(0:Int)<=c2/\c2.toNat<n,c2.toNat+0<n] (af.fork (bif true then(↑(z (c2.toNat+0)):Int)==0 else false) c7 c5)) (af.aj [c6=false] (af.fork false c7 c5))):=ah
theorem acQ {n k:Nat} {z:Nat->Nat}:aK T [] [] 30 [2] (behind (aJ f160) [1,1,0]) ⟨aH [0,3] [.own 0 1 0 n,.int .i64 k],[(0,⟨true,true,1,n,aD z⟩)],1⟩=
  let c1:Int:=(↑k:Int);some (af.aj [(0:Int)<=0/\(0:Int)<=c1/\c1<=c1/\c1<=(↑n:Int)] (af.leaf au.ret ([own 0 1 0 (c1.toNat-Int.toNat (0:Int))],[(0,aC.mk true true 1 n fun a=>int .u32 (↑(z a):Int))]))):=ah
theorem QM {n s:Nat} {z:Nat->Nat} (hz:∀i,i<n->z i<2^32) (hn:n<2^40) (hs:s<32) (K:Nat):
  aY P 185 K [.az 1 n (aD z),.int .i64 s] [] ⟨.own K 1 0 (n+1),[(K,⟨true,true,1,n+1,aD (aE (val n z*2^s))⟩)],[]⟩:=by
 refine vS hT Xv (args0:=[.az 1 n (aD z),.int .i64 s]) (pre0:=[]) (nx:=0) [] br rfl ⟨aU,aU,trivial⟩ trivial (fun a k h=>by simp[bH,look]at h) (fun k o h=>?_) (fun _ c h0=>?_)
 ·simp only[look]at h
  split at h
  ·rename_i he
   have:K=k:=by simpa using he
   subst this
   exact .inr ⟨aX,by unfold dn;omega⟩
  ·simp at h
 have hk0:c.k0=bz:=by
  funext k
  cases hk:c.k0 k with
  |none=>rfl
  |some x=>have:=h0 k x hk;simp[bH,look]at this
 refine PN hz hn hs hk0 fun c' o s' hc ho hval hv=>?_
 have h3:2^s<=2^31:=Nat.pow_le_pow_right aa aa
 refine aI.gC hT iY hm 30 (nx:=8) hv (lF hk0) rfl ⟨⟨aa,fun _ _=>rfl⟩,trivial⟩ [4] Qc ah ah ?_
 simp only[af.all,aF,Nat.add_zero,beq_iff_eq,bJ,QX hs hc]
 refine⟨aa,fun s' hv=>⟨by simp,bH [(K,7)],J5 ⟨aX,by unfold dn;omega⟩,.inr (zH (us:=[.own 7 1 0 (n+1)]) (ws:=[.own K 1 0 (n+1)]) (ps:=[(K,⟨true,true,1,n+1,aD (aE (val n z*2^s))⟩)]) hv ah ⟨⟨rfl,e9 (by simp[bH,look]) rfl rfl⟩,trivial⟩ rfl rfl ⟨⟨7,_,by simp[bH,look],rfl,gV rfl fun j hj=>?_⟩,trivial⟩)⟩⟩
 have ho':∀j,j<n+1->cP o n c' j<2^32:=jE aa ho
 rw[<-hval,<-rP,aD,aD,rG ho' hj]
def Ii:Spec:=wN fun K l=>match l with
 |[a,.int .i64 k]=>match rL a with
  |some (N,n,q)=>some ⟨.own K 1 0 (n+1),[(K,⟨true,true,1,n+1,aD (aE (N*2^k.toNat))⟩)],q++[n<2^40,0<=k,k<32]⟩
  |none=>none
 |_=>none
theorem afV:bF P Ii 185:=by
 refine G4 fun K args r hk hs=>?_
 split at hs
 ·rename_i a k
  split at hs
  ·rename_i N n q hn
   simp only[aB]at hs
   subst hs
   intro need
   obtain⟨n1,n2⟩:=iy.1 need
   obtain⟨z,hz,rfl,hle⟩:=yT hn n1
   obtain⟨h1,h2,h3⟩:n<2^40/\0<=k/\k<32:=n2
   obtain⟨s,rfl⟩:=Int.eq_ofNat_of_zero_le h2
   exact je (QM hz h1 aa K) hk ⟨hle,.refl _,trivial⟩ [] trivial
  ·simp at hs
 ·simp at hs
theorem YZ {n k:Nat} {z:Nat->Nat} (hz:∀i,i<n->z i<2^32) (hn:n<2^62) (K:Nat) {f:Nat->AV} (hf:∀i,i<n->f i=aD z i):
  aY P 160 K [.own k 1 0 n] [(k,⟨true,true,1,n,f⟩)] ⟨.own k 1 0 (nl (val n z)),[],[]⟩:=by
 refine vS hT Oc (args0:=[.own 0 1 0 n]) (pre0:=[(0,⟨true,true,1,n,aD z⟩)]) (nx:=1) [(0,k)] br (by simp[jB]) ⟨⟨rfl,e9 rfl rfl rfl⟩,trivial⟩ ⟨⟨k,_,rfl,by simp[look],gV rfl hf⟩,trivial⟩
  (fun a x h=>?_) (fun x o h=>by simp[look]at h) (fun _ c h0=>?_)
 ·simp only[bH,look]at h
  split at h
  ·simp only[aB]at h;subst h;exact⟨_,by simp[look];rfl⟩
  ·simp at h
 have hk0:∀k x,c.k0 k=some x->k<1:=fun k x hk=>by
  have:=h0 k x hk
  simp only[bH,look]at this
  split at this
  ·rename_i h;simp at h;omega
  ·simp at this
 refine aA.hole [1,1,0] ah (aI.bM hT cK hm 30 [0,3] Ry ah fun s' hv=>?_)
 refine aA.js (i:=0) (y:=part (aJ f160) [1,1,0,0,0]) ah [0,3] 1 hk0 (fun k:Nat=>[.own 0 1 0 n,.int .i64 k]) (fun _=>[(0,⟨true,true,1,n,aD z⟩)]) (fun _=>rfl) (fun _=>⟨⟨aa,fun _ _=>rfl⟩,trivial⟩)
  (fun k=>k<=n/\∀i,k<=i->i<n->z i=0) id n hv ⟨aX,fun i h1 h2=>aa⟩ ?_
 rintro j ⟨hj,hzj⟩
 refine aA.bM hT cK hm 30 [0,3] XS ah ?_
 have fin:(j=0\/z (j-1)≠0)->∀s',bp [0,3] s'=some ([.own 0 1 0 n,.int .i64 j],[(0,⟨true,true,1,n,aD z⟩)])->aI P c f160.ntmps (behind (aJ f160) [1,1,0]) s'
   (fun e s'=>(e=.normal\/e=.ret)/\∃τ,uD [(0,k)] K [(k,⟨true,true,1,n,f⟩)] τ/\(Bx T f160 τ [(k,⟨true,true,1,n,f⟩)] ⟨.own k 1 0 (nl (val n z)),[],[]⟩ s'\/xG T f160 τ [(k,⟨true,true,1,n,f⟩)] ⟨.own k 1 0 (nl (val n z)),[],[]⟩ s')):=by
  intro hj0 s' hv
  refine aI.gC hT cK hm 30 (nx:=1) hv hk0 rfl ⟨⟨aa,fun _ _=>rfl⟩,trivial⟩ [2] acQ ah ah ?_
  have e:val n z=val j z:=oM hj hzj
  refine⟨⟨aa,aa,aa,aa⟩,fun s' hv=>⟨.inr rfl,bH [(k,0)],Dm,.inr (zH (us:=[.own 0 1 0 ((j:Int).toNat-Int.toNat 0)]) (ws:=[.own k 1 0 (nl (val n z))]) (os:=[(0,⟨true,true,1,n,aD z⟩)]) (ps:=[(k,⟨true,true,1,n,f⟩)]) hv ah ⟨⟨rfl,e9 (by simp[bH,look]) rfl ?_⟩,trivial⟩ rfl rfl ⟨⟨0,_,by simp[bH,look],rfl,jj rfl fun j hj=>?_⟩,trivial⟩)⟩⟩
  ·rw[e,Cj (fun i hi=>hz i aa) hj0];simp
  ·rw[hf j hj];exact jS rfl
 have hw:0<j->i64.wrap ((j:Int)-1)=((j-1:Nat):Int):=fun h=>by rw[wrap_i64 aa aa];omega
 refine⟨fun hb=>?_,fun hb=>?_⟩
 ·have h1:0<j:=by simpa using hb
  rw[hw h1]
  have hj1:j-1<n:=aa
  refine⟨⟨hb,⟨aa,by rw[bJ];exact hj1⟩,by rw[bJ];exact hj1⟩,fun hc s' hv=>?_,fun hc s' hv=>?_⟩
  ·refine⟨j-1,hv,⟨aa,fun i h1 h2=>?_⟩,by simp;omega⟩
   by_cases hi:i=j-1
   ·subst hi;simpa using hc
   ·exact hzj i aa h2
  ·exact gD (fin (.inr (by simpa using hc)) s' hv)
 ·have h1:j=0:=by simpa using hb
  refine⟨hb,fun hc=>by simp at hc,fun hc s' hv=>gD (fin (.inl h1) s' hv)⟩
def GW:Spec:=fun _ args pre=>match args,pre with
 |[.own k es s n],[(k',o)]=>if k==k'&&es==1&&s==0&&o.row&&o.wr&&o.es==1 then some ⟨.own k 1 0 (nl (val n fun i=>numOf (o.f i))),[],[fu n o.f,o.len=n,n<2^62]⟩else none
 |_,_=>none
theorem P3:bF P GW 160:=by
 intro K args pre r hs
 unfold GW at hs
 split at hs
 ·rename_i k es s n k' o
  split at hs
  ·rename_i hc
   simp only[Bool.and_eq_true,beq_iff_eq]at hc
   obtain⟨⟨⟨⟨⟨rfl,rfl⟩,rfl⟩,h4⟩,h5⟩,h6⟩:=hc
   simp only[aB]at hs
   subst hs
   intro need
   obtain⟨h1,h2,h3⟩:fu n o.f/\o.len=n/\n<2^62:=need
   obtain⟨row,wr,es,len,f⟩:=o
   simp only at h1 h2 h4 h5 h6
   subst h2 h4 h5 h6
   refine YZ (z:=fun i=>numOf (f i)) (fun i hi=>?_) h3 K (fun i hi=>?_) trivial
   ·obtain⟨z,g1,g2⟩:=h1 i hi
    simp only[g2,numOf];omega
   ·obtain⟨z,g1,g2⟩:=h1 i hi
    simp[g2,numOf,aD]
  ·simp at hs
 ·simp at hs
end Go.Am.B
