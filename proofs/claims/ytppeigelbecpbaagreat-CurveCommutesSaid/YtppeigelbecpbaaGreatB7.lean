/- natural.trim and natural.raise, where the slice is written to afterwards. -/
import Derived.Test.YtppeigelbecpbaaGreatB6
import Derived.Test.YtppeigelbecpbaaGreatZ2
set_option linter.unusedVariables false
namespace Go.Am.B
open Go Go.Am.N AV
theorem Rz {n s i c:Nat} {z o:Nat→Nat}:aH T G1 [] 30 [4] (behind (au l5) [1,1,1,0,1]) ⟨aA [0,1,5,6,13,14,15] [.ak 1 n (ay z),.int .i64 s,.own 7 1 0 (n+1),.int .u64 c,.ak 1 n (ay z),.int .i64 n,.int .i64 i],[(7,⟨true,true,1,n+1,ay o⟩)],8⟩=
  let c2:Nat:=n+1;let c1:Nat:=(↑n:Int).toNat+0;some (aa.ag [(0:Int)≤(↑n:Int)∧(↑n:Int).toNat<c2,c1<c2] (aa.leaf aj.ret ([own 7 1 0 c2],[((7:Nat),ah.mk true true 1 c2 fun j↦if(j==c1)=true then int IntKind.u32 (IntKind.u32.wrap (↑c:Int))else ay o j)]))):=by kernel_rfl
theorem RO {n:Nat} {z:Nat→Nat}:aH T [] [] 30 [0,3] (before (au gM) [1,1,0]) ⟨aN 0 [.own 0 1 0 n],[(0,⟨true,true,1,n,ay z⟩)],1⟩=
  some (aa.leaf aj.normal ([own 0 1 0 n,int IntKind.i64 (↑n:Int)],[((0:Nat),ah.mk true true 1 n fun a↦int IntKind.u32 (↑(z a):Int))])):=by kernel_rfl
theorem ai5 {n k:Nat} {z:Nat→Nat}:aH T [] [8,15] 30 [0,3] [part (au gM) [1,1,0,0,0]] ⟨aA [0,3] [.own 0 1 0 n,.int .i64 k],[(0,⟨true,true,1,n,ay z⟩)],1⟩=
  let c4:Int:=(↑k:Int);let c3:AV:=own 0 1 0 n;let c1:Nat×ah:=((0:Nat),ah.mk true true 1 n fun a↦int IntKind.u32 (↑(z a):Int));let c6:Bool:=decide (c4>(0:Int));let c5:aa (List AV×aC):=aa.leaf (aj.exit 0) ([c3,int IntKind.i64 c4],[c1]);let c2:Int:=IntKind.i64.wrap (c4-(1:Int));let c7:aa (List AV×aC):=aa.leaf aj.normal ([c3,int IntKind.i64 c2],[c1]);some (aa.fork c6 (aa.ag [c6=true,(0:Int)≤c2∧c2.toNat<n,c2.toNat+0<n] (aa.fork (bif true then(↑(z (c2.toNat+0)):Int)==(0:Int)else false) c7 c5)) (aa.ag [c6=false] (aa.fork false c7 c5))):=by kernel_rfl
theorem aea {n k:Nat} {z:Nat→Nat}:aH T [] [] 30 [2] (behind (au gM) [1,1,0]) ⟨aA [0,3] [.own 0 1 0 n,.int .i64 k],[(0,⟨true,true,1,n,ay z⟩)],1⟩=
  let c1:Int:=(↑k:Int);some (aa.ag [(0:Int)≤(0:Int)∧(0:Int)≤c1∧c1≤c1∧c1≤(↑n:Int)] (aa.leaf aj.ret ([own 0 1 0 (c1.toNat-Int.toNat (0:Int))],[((0:Nat),ah.mk true true 1 n fun a↦int IntKind.u32 (↑(z a):Int))]))):=by kernel_rfl
theorem adR {n s:Nat} {z:Nat→Nat} (hz:∀i,i<n→z i<2^32) (hn:n<2^40) (hs:s<32) (K:Nat):
  aB P wV K [.ak 1 n (ay z),.int .i64 s] [] ⟨.own K 1 0 (n+1),[(K,⟨true,true,1,n+1,ay (az (val n z*2^s))⟩)],[]⟩:=by
 refine mK hT WK (args0:=[.ak 1 n (ay z),.int .i64 s]) (pre0:=[]) (nx:=0) [] (of_decide_eq_true (by kernel_rfl)) rfl ⟨⟨rfl,aI rfl⟩,⟨rfl,aI rfl⟩,trivial⟩ trivial (fun a k h=>by simp[aT,look]at h) (fun k o h=>?_) (fun _ c h0=>?_)
 ·simp only[look]at h
  split at h
  ·rename_i he
   have:K=k:=by simpa using he
   subst this
   exact .inr ⟨Nat.le_refl _,by unfold cq;omega⟩
  ·simp at h
 have hk0:c.k0=aW:=by
  funext k
  cases hk:c.k0 k with
  |none=>rfl
  |some x=>have:=h0 k x hk;simp[aT,look]at this
 refine ajR hz hn hs hk0 fun c' o s' hc ho hval hv=>?_
 have h3:2^s≤2^31:=Nat.pow_le_pow_right (by omega) (by omega)
 refine aD.eH hT gj hm 30 (nx:=8) hv (jl hk0) rfl ⟨⟨by omega,fun _ _=>rfl⟩,trivial⟩ [4] Rz (by kernel_rfl) (by kernel_rfl) ?_
 simp only[aa.all,ax,Nat.add_zero,beq_iff_eq,Int.toNat_natCast,ak1 hs hc]
 refine⟨by omega,fun s' hv=>⟨by simp,aT [(K,7)],Ii ⟨Nat.le_refl _,by unfold cq;omega⟩,.inr (uj (us:=[.own 7 1 0 (n+1)]) (ws:=[.own K 1 0 (n+1)]) (ps:=[(K,⟨true,true,1,n+1,ay (az (val n z*2^s))⟩)]) hv (by kernel_rfl) ⟨⟨rfl,cw (by simp[aT,look]) rfl rfl⟩,trivial⟩ rfl rfl ⟨⟨7,_,by simp[aT,look],rfl,e9 rfl fun j hj=>?_⟩,trivial⟩)⟩⟩
 have ho':∀j,j<n+1→bU o n c' j<2^32:=gT (by omega) ho
 rw[←hval,←qO,ay,ay,pn ho' hj]
def QZ:Spec:=sN fun K l=>match l with
 |[a,.int .i64 k]=>match rN a with
  |some (N,n,q)=>some ⟨.own K 1 0 (n+1),[(K,⟨true,true,1,n+1,ay (az (N*2^k.toNat))⟩)],q++[n<2^40,0≤k,k<32]⟩
  |none=>none
 |_=>none
theorem aew:∀K args pre r,QZ K args pre=some r→aB P wV K args pre r:=by
 refine DT fun K args r hk hs=>?_
 split at hs
 ·rename_i a k
  split at hs
  ·rename_i N n q hn
   simp only[Option.some.injEq]at hs
   subst hs
   intro need
   obtain⟨n1,n2⟩:=dG.1 need
   obtain⟨z,hz,rfl,hle⟩:=ym hn n1
   obtain⟨h1,h2,h3⟩:n<2^40∧0≤k∧k<32:=n2
   obtain⟨s,rfl⟩:=Int.eq_ofNat_of_zero_le h2
   exact gb (adR hz h1 (by omega) K) hk ⟨hle,.refl _,trivial⟩ [] trivial
  ·simp at hs
 ·simp at hs
theorem TY {n k:Nat} {z:Nat→Nat} (hz:∀i,i<n→z i<2^32) (hn:n<2^62) (K:Nat) {f:Nat→AV} (hf:∀i,i<n→f i=ay z i):
  aB P rD K [.own k 1 0 n] [(k,⟨true,true,1,n,f⟩)] ⟨.own k 1 0 (nl (val n z)),[],[]⟩:=by
 refine mK hT Re (args0:=[.own 0 1 0 n]) (pre0:=[(0,⟨true,true,1,n,ay z⟩)]) (nx:=1) [(0,k)] (of_decide_eq_true (by kernel_rfl)) (by simp[gD]) ⟨⟨rfl,cw rfl rfl rfl⟩,trivial⟩ ⟨⟨k,_,rfl,by simp[look],e9 rfl hf⟩,trivial⟩
  (fun a x h=>?_) (fun x o h=>by simp[look]at h) (fun _ c h0=>?_)
 ·simp only[aT,look]at h
  split at h
  ·simp only[Option.some.injEq]at h;subst h;exact⟨_,by simp[look];rfl⟩
  ·simp at h
 have hk0:∀k x,c.k0 k=some x→k<1:=fun k x hk=>by
  have:=h0 k x hk
  simp only[aT,look]at this
  split at this
  ·rename_i h;simp at h;omega
  ·simp at this
 refine aq.hole [1,1,0] (by kernel_rfl) (aD.bf hT bk hm 30 [0,3] RO (by kernel_rfl) fun s' hv=>?_)
 refine aq.gC (i:=0) (y:=part (au gM) [1,1,0,0,0]) (by kernel_rfl) [0,3] 1 hk0 (fun k:Nat=>[.own 0 1 0 n,.int .i64 k]) (fun _=>[(0,⟨true,true,1,n,ay z⟩)]) (fun _=>rfl) (fun _=>⟨⟨by omega,fun _ _=>rfl⟩,trivial⟩)
  (fun k=>k≤n∧∀i,k≤i→i<n→z i=0) id n hv ⟨Nat.le_refl _,fun i h1 h2=>by omega⟩ ?_
 rintro j ⟨hj,hzj⟩
 refine aq.bf hT bk hm 30 [0,3] ai5 (by kernel_rfl) ?_
 have fin:(j=0∨z (j-1)≠0)→∀s',aX [0,3] s'=some ([.own 0 1 0 n,.int .i64 j],[(0,⟨true,true,1,n,ay z⟩)])→aD P c gM.ntmps (behind (au gM) [1,1,0]) s'
   (fun e s'=>(e=.normal∨e=.ret)∧∃τ,sL [(0,k)] K [(k,⟨true,true,1,n,f⟩)] τ∧(Bq T gM τ [(k,⟨true,true,1,n,f⟩)] ⟨.own k 1 0 (nl (val n z)),[],[]⟩ s'∨uT T gM τ [(k,⟨true,true,1,n,f⟩)] ⟨.own k 1 0 (nl (val n z)),[],[]⟩ s')):=by
  intro hj0 s' hv
  refine aD.eH hT bk hm 30 (nx:=1) hv hk0 rfl ⟨⟨by omega,fun _ _=>rfl⟩,trivial⟩ [2] aea (by kernel_rfl) (by kernel_rfl) ?_
  have e:val n z=val j z:=mV hj hzj
  refine⟨⟨by omega,by omega,by omega,by omega⟩,fun s' hv=>⟨.inr rfl,aT [(k,0)],qb,.inr (uj (us:=[.own 0 1 0 ((j:Int).toNat-Int.toNat 0)]) (ws:=[.own k 1 0 (nl (val n z))]) (os:=[(0,⟨true,true,1,n,ay z⟩)]) (ps:=[(k,⟨true,true,1,n,f⟩)]) hv (by kernel_rfl) ⟨⟨rfl,cw (by simp[aT,look]) rfl ?_⟩,trivial⟩ rfl rfl ⟨⟨0,_,by simp[aT,look],rfl,ji rfl fun j hj=>?_⟩,trivial⟩)⟩⟩
  ·rw[e,Cf (fun i hi=>hz i (by omega)) hj0];simp
  ·rw[hf j hj];exact aI rfl
 have hw:0<j→IntKind.i64.wrap ((j:Int)-1)=((j-1:Nat):Int):=fun h=>by rw[wrap_i64 (by omega) (by omega)];omega
 refine⟨fun hb=>?_,fun hb=>?_⟩
 ·have h1:0<j:=by simpa using hb
  rw[hw h1]
  have hj1:j-1<n:=by omega
  refine⟨⟨hb,⟨by omega,by rw[Int.toNat_natCast];exact hj1⟩,by rw[Int.toNat_natCast];exact hj1⟩,fun hc s' hv=>?_,fun hc s' hv=>?_⟩
  ·refine⟨j-1,hv,⟨by omega,fun i h1 h2=>?_⟩,by simp;omega⟩
   by_cases hi:i=j-1
   ·subst hi;simpa using hc
   ·exact hzj i (by omega) h2
  ·exact eV (fin (.inr (by simpa using hc)) s' hv)
 ·have h1:j=0:=by simpa using hb
  refine⟨hb,fun hc=>by simp at hc,fun hc s' hv=>eV (fin (.inl h1) s' hv)⟩
def Hl:Spec:=fun _ args pre=>match args,pre with
 |[.own k es s n],[(k',o)]=>if k==k'&&es==1&&s==0&&o.row&&o.wr&&o.es==1 then some ⟨.own k 1 0 (nl (val n fun i=>numOf (o.f i))),[],[dB n o.f,o.len=n,n<2^62]⟩else none
 |_,_=>none
theorem aho:∀K args pre r,Hl K args pre=some r→aB P rD K args pre r:=by
 intro K args pre r hs
 unfold Hl at hs
 split at hs
 ·rename_i k es s n k' o
  split at hs
  ·rename_i hc
   simp only[Bool.and_eq_true,beq_iff_eq]at hc
   obtain⟨⟨⟨⟨⟨rfl,rfl⟩,rfl⟩,h4⟩,h5⟩,h6⟩:=hc
   simp only[Option.some.injEq]at hs
   subst hs
   intro need
   obtain⟨h1,h2,h3⟩:dB n o.f∧o.len=n∧n<2^62:=need
   obtain⟨row,wr,es,len,f⟩:=o
   simp only at h1 h2 h4 h5 h6
   subst h2 h4 h5 h6
   refine TY (z:=fun i=>numOf (f i)) (fun i hi=>?_) h3 K (fun i hi=>?_) trivial
   ·obtain⟨z,g1,g2⟩:=h1 i hi
    simp only[g2,numOf];omega
   ·obtain⟨z,g1,g2⟩:=h1 i hi
    simp[g2,numOf,ay]
  ·simp at hs
 ·simp at hs
end Go.Am.B
