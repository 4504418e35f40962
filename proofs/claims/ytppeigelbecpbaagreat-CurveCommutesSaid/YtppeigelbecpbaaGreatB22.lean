/- ref01: Trim, Of, small, Cmp, Bits. -/
import Derived.Test.YtppeigelbecpbaaGreatB21
set_option linter.unusedVariables false
namespace Go.Am.B
open Go Go.Am.N AV
theorem ake:aP P nJ lY (au lY):=aQ RK (by kernel_rfl) (by kernel_rfl) (by kernel_rfl)
theorem X1:aP P pS xZ (au xZ):=aQ Yt (by kernel_rfl) (by kernel_rfl) (by kernel_rfl)
theorem Tr:aP P sn v5 (au v5):=aQ ZC (by kernel_rfl) (by kernel_rfl) (by kernel_rfl)
theorem agr:aP P pZ pq (au pq):=aQ aae (by kernel_rfl) (by kernel_rfl) (by kernel_rfl)
theorem aiU:aP P zA pL (au pL):=aQ aeD (by kernel_rfl) (by kernel_rfl) (by kernel_rfl)
theorem aja {n:Nat} {z:Nat→Nat}:aH T [] [] 30 [0,3] (before (au lY) [1,1,0]) ⟨aN 0 [.ak 1 n (ay z)],[],0⟩=
  some (aa.leaf aj.normal ([ak 1 n (ay z),int IntKind.i64 (↑n:Int)],[])):=by kernel_rfl
theorem WK {n k:Nat} {z:Nat→Nat}:aH T [] [8,15] 30 [0,3] [part (au lY) [1,1,0,0,0]] ⟨aB [0,3] [.ak 1 n (ay z),.int .i64 k],[],0⟩=
  some (aa.fork (decide ((↑k:Int)>(0:Int))) (aa.ag [decide ((↑k:Int)>(0:Int))=true,(0:Int)≤IntKind.i64.wrap ((↑k:Int)-(1:Int))∧(IntKind.i64.wrap ((↑k:Int)-(1:Int))).toNat<n] (aa.fork (bif true then(↑(z (IntKind.i64.wrap ((↑k:Int)-(1:Int))).toNat):Int)==(0:Int)else false) (aa.leaf aj.normal ([ak 1 n (ay z),int IntKind.i64 (IntKind.i64.wrap ((↑k:Int)-(1:Int)))],[])) (aa.leaf (aj.exit 0) ([ak 1 n (ay z),int IntKind.i64 (↑k:Int)],[])))) (aa.ag [decide ((↑k:Int)>(0:Int))=false] (aa.fork false (aa.leaf aj.normal ([ak 1 n (ay z),int IntKind.i64 (IntKind.i64.wrap ((↑k:Int)-(1:Int)))],[])) (aa.leaf (aj.exit 0) ([ak 1 n (ay z),int IntKind.i64 (↑k:Int)],[]))))):=by kernel_rfl
theorem aiY {n k:Nat} {z:Nat→Nat}:cm T [] [] 30 lY (behind (au lY) [1,1,0]) ⟨aB [0,3] [.ak 1 n (ay z),.int .i64 k],[],0⟩=
  some (aa.ag [(0:Nat)*1≤2^24,(0:Int)≤(0:Int)∧(0:Int)≤(↑k:Int)∧(↑k:Int)≤(↑k:Int)∧(↑k:Int)≤(↑n:Int),((0:Nat)+((↑k:Int).toNat-Int.toNat (0:Int)))*((4:Nat)+1)*2≤2^47] (aa.leaf aj.ret [ak 1 ((0:Nat)+((↑k:Int).toNat-Int.toNat (0:Int))) fun(i:Nat)↦if i+0<0 then nth [] (int IntKind.u32 (0:Int)) (i+0)else ay z (i+0-0+Int.toNat (0:Int))])):=by kernel_rfl
def uK:Spec:=bC (kE fun N n=>aK (.mag N) [n<2^40])
def eo:aR:=[(nJ,uK)]
theorem Zc {n:Nat}:bF T eo [] 30 xZ (au xZ) ⟨aN 0 [.int .u64 n],[],0⟩=
  some (aa.ag [(0:Int)≤(32:Int),(2:Nat)*1≤2^24,dD 2 fun(i:Nat)↦nth [int IntKind.u32 (IntKind.u32.wrap (↑n:Int)),int IntKind.u32 (IntKind.u32.wrap ((↑n:Int).fdiv ((2:Int)^min (Int.toNat (32:Int)) IntKind.u64.bits)))] (int IntKind.u32 (0:Int)) (i+0),(2:Nat)<2^40] (aa.leaf aj.ret [mag (val 2 fun(i:Nat)↦numOf (nth [int IntKind.u32 (IntKind.u32.wrap (↑n:Int)),int IntKind.u32 (IntKind.u32.wrap ((↑n:Int).fdiv ((2:Int)^min (Int.toNat (32:Int)) IntKind.u64.bits)))] (int IntKind.u32 (0:Int)) (i+0)))])):=by kernel_rfl
theorem ag0 {A:Nat}:bF T eo [6,8,14] 30 v5 (au v5) ⟨aN 0 [.mag A],[],0⟩=
  some (aa.fork ((↑(nl A):Int)==(0:Int)) (aa.leaf aj.ret [int IntKind.u64 (0:Int),AV.bool true]) (aa.fork ((↑(nl A):Int)==(1:Int)) (aa.ag [(0:Int)≤(0:Int)∧Int.toNat (0:Int)<nl A] (aa.leaf aj.ret [int IntKind.u64 (IntKind.u64.wrap (↑(az A (Int.toNat (0:Int))):Int)),AV.bool true])) (aa.fork ((↑(nl A):Int)==(2:Int)) (aa.ag [(0:Int)≤(0:Int)∧Int.toNat (0:Int)<nl A,(0:Int)≤(1:Int)∧Int.toNat (1:Int)<nl A,(0:Int)≤(32:Int)] (aa.leaf aj.ret [int IntKind.u64 (IntKind.u64.wrap (↑(BitVec.ofInt IntKind.u64.bits (IntKind.u64.wrap (↑(az A (Int.toNat (0:Int))):Int))|||BitVec.ofInt IntKind.u64.bits (IntKind.u64.wrap (IntKind.u64.wrap (↑(az A (Int.toNat (1:Int))):Int)*(2:Int)^min (Int.toNat (32:Int)) IntKind.u64.bits))).toNat:Int)),AV.bool true])) (aa.leaf aj.ret [int IntKind.u64 (0:Int),AV.bool false])))):=by kernel_rfl
theorem aaY {A B:Nat}:aH T [] [10,15] 30 [0,1,5,4] (before (au pq) [1,1,0,1]) ⟨aN 0 [.mag A,.mag B],[],0⟩=
  some (aa.fork ((↑(nl A):Int)!=(↑(nl B):Int)) (aa.fork (decide ((↑(nl A):Int)<(↑(nl B):Int))) (aa.leaf aj.ret ([mag A,mag B,tuple [],int IntKind.i64 (-1:Int)],[])) (aa.leaf aj.ret ([mag A,mag B,tuple [],int IntKind.i64 (1:Int)],[]))) (aa.leaf aj.normal ([mag A,mag B,int IntKind.i64 (IntKind.i64.wrap ((↑(nl A):Int)-(1:Int))),int IntKind.i64 (0:Int)],[]))):=by kernel_rfl
theorem TO {A B k:Nat}:aH T [] [20,31,40] 30 [0,1,5,4] [part (au pq) [1,1,0,1,0,0]] ⟨aB [0,1,5,4] [.mag A,.mag B,.int .i64 ((k:Int)-1),.int .i64 0],[],0⟩=
  some (aa.fork (decide ((↑k:Int)-(1:Int)≥(0:Int))) (aa.ag [(0:Int)≤(↑k:Int)-(1:Int)∧((↑k:Int)-(1:Int)).toNat<nl A,(0:Int)≤(↑k:Int)-(1:Int)∧((↑k:Int)-(1:Int)).toNat<nl B] (aa.fork (decide ((↑(az A ((↑k:Int)-(1:Int)).toNat):Int)<(↑(az B ((↑k:Int)-(1:Int)).toNat):Int))) (aa.leaf aj.ret ([mag A,mag B,int IntKind.i64 ((↑k:Int)-(1:Int)),int IntKind.i64 (-1:Int)],[])) (aa.ag [(0:Int)≤(↑k:Int)-(1:Int)∧((↑k:Int)-(1:Int)).toNat<nl A,(0:Int)≤(↑k:Int)-(1:Int)∧((↑k:Int)-(1:Int)).toNat<nl B] (aa.fork (decide ((↑(az A ((↑k:Int)-(1:Int)).toNat):Int)>(↑(az B ((↑k:Int)-(1:Int)).toNat):Int))) (aa.leaf aj.ret ([mag A,mag B,int IntKind.i64 ((↑k:Int)-(1:Int)),int IntKind.i64 (1:Int)],[])) (aa.leaf aj.normal ([mag A,mag B,int IntKind.i64 (IntKind.i64.wrap ((↑k:Int)-(1:Int)-(1:Int))),int IntKind.i64 (0:Int)],[])))))) (aa.leaf (aj.exit 0) ([mag A,mag B,int IntKind.i64 ((↑k:Int)-(1:Int)),int IntKind.i64 (0:Int)],[]))):=by kernel_rfl
theorem Y0 {A B k:Nat}:cm T [] [] 30 pq (behind (au pq) [1,1,0,1]) ⟨aB [0,1,5,4] [.mag A,.mag B,.int .i64 ((k:Int)-1),.int .i64 0],[],0⟩=
  some (aa.leaf aj.ret [int IntKind.i64 (0:Int)]):=by kernel_rfl
theorem Sq {n:Nat} {z:Nat→Nat}:aH T [] [7] 30 [3,4,2] (before (au pL) [1,1,1,0,1]) ⟨aN 0 [.ak 1 n (ay z)],[],0⟩=
  some (aa.fork ((↑n:Int)==(0:Int)) (aa.leaf aj.ret ([tuple [],tuple [],int IntKind.i64 (0:Int)],[])) (aa.ag [(0:Int)≤IntKind.i64.wrap ((↑n:Int)-(1:Int))∧(IntKind.i64.wrap ((↑n:Int)-(1:Int))).toNat<n] (aa.leaf aj.normal ([int IntKind.i64 (IntKind.i64.wrap ((32:Int)*IntKind.i64.wrap ((↑n:Int)-(1:Int)))),int IntKind.u32 (↑(z (IntKind.i64.wrap ((↑n:Int)-(1:Int))).toNat):Int),int IntKind.i64 (0:Int)],[])))):=by kernel_rfl
theorem ZL {x y:Nat}:aH T [] [19] 30 [3,4,2] [part (au pL) [1,1,1,0,1,0,0]] ⟨aB [3,4,2] [.int .i64 x,.int .u32 y,.int .i64 0],[],0⟩=
  some (aa.fork ((↑y:Int)!=(0:Int)) (aa.ag [(0:Int)≤(1:Int)] (aa.leaf aj.normal ([int IntKind.i64 (IntKind.i64.wrap ((↑x:Int)+(1:Int))),int IntKind.u32 ((↑y:Int).fdiv ((2:Int)^min (Int.toNat (1:Int)) IntKind.u32.bits)),int IntKind.i64 (0:Int)],[]))) (aa.leaf (aj.exit 0) ([int IntKind.i64 (↑x:Int),int IntKind.u32 (↑y:Int),int IntKind.i64 (0:Int)],[]))):=by kernel_rfl
theorem ai5 {x y:Nat}:cm T [] [] 30 pL (behind (au pL) [1,1,1,0,1]) ⟨aB [3,4,2] [.int .i64 x,.int .u32 y,.int .i64 0],[],0⟩=
  some (aa.leaf aj.ret [int IntKind.i64 (↑x:Int)]):=by kernel_rfl
theorem Te {n:Nat} {z:Nat→Nat} (hz:∀i,i<n→z i<2^32) (hn:n<2^40) (K:Nat):aA P nJ K [.ak 1 n (ay z)] [] (aK (.mag (val n z)) []):=by
 refine ij hT ake rfl (of_decide_eq_true (by kernel_rfl)) rfl (fun _ c h0=>?_) K []
 refine aq.hole [1,1,0] (by kernel_rfl) (aD.bf hT bh hm 30 [0,3] aja (by kernel_rfl) fun s' hv=>bZ ?_)
 refine aq.gA (i:=0) (y:=part (au lY) [1,1,0,0,0]) (by kernel_rfl) [0,3] 0 (h0 _) (fun k:Nat=>[.ak 1 n (ay z),.int .i64 k]) (fun _=>[]) (fun _=>rfl) (fun _=>trivial)
  (fun k=>k≤n∧∀i,k≤i→i<n→z i=0) id n hv ⟨Nat.le_refl _,fun i h1 h2=>by omega⟩ ?_
 rintro j ⟨hj,hzj⟩
 refine aq.bf hT bh hm 30 [0,3] WK (by kernel_rfl) ?_
 have fin:(j=0∨z (j-1)≠0)→∀s',aX [0,3] s'=some ([.ak 1 n (ay z),.int .i64 j],[])→aD P c lY.ntmps (behind (au lY) [1,1,0]) s' (dQ c (Fin T lY (.mag (val n z)))):=by
  intro hj0 s' hv
  refine aD.jx hT bh hm 30 hv (h0 0) rfl trivial aiY (by kernel_rfl) (by kernel_rfl) ?_
  simp only[aa.all,ax,Int.toNat_natCast,Int.toNat_zero,Nat.zero_add,Nat.sub_zero,Nat.add_zero]
  have e:val n z=val j z:=mq hj hzj
  refine⟨⟨by omega,by omega,by omega⟩,kz (by rw[e,D0 (fun i hi=>hz i (by omega)) hj0]) fun i hi=>?_⟩
  rw[if_neg (by omega),e,o9 (fun j hj=>hz j (by omega)) hi]
  rfl
 have hw:0<j→IntKind.i64.wrap ((j:Int)-1)=((j-1:Nat):Int):=fun h=>by rw[wrap_i64 (by omega) (by omega)];omega
 refine⟨fun hb=>?_,fun hb=>?_⟩
 ·have h1:0<j:=by simpa using hb
  rw[hw h1]
  have hj1:j-1<n:=by omega
  refine⟨⟨hb,by omega,by rw[Int.toNat_natCast];exact hj1⟩,fun hc s' hv=>?_,fun hc s' hv=>?_⟩
  ·refine⟨j-1,hv,⟨by omega,fun i h1 h2=>?_⟩,by simp;omega⟩
   by_cases hi:i=j-1
   ·subst hi;simpa using hc
   ·exact hzj i (by omega) h2
  ·exact eL (fin (.inr (by simpa using hc)) s' hv)
 ·have h1:j=0:=by simpa using hb
  refine⟨hb,fun hc=>by simp at hc,fun hc s' hv=>eL (fin (.inl h1) s' hv)⟩
theorem AQ:∀K args pre r,uK K args pre=some r→aA P nJ K args pre r:=
 bW (uv fun _ _ K hz need=>Te hz need K)
theorem eF:aY P eo:=aG AQ bh
theorem aeY {x:Nat} (hx:x<2^64) (K:Nat):aA P pS K [.int .u64 x] [] (aK (.mag x) []):=by
 refine bJ hT eF hm X1 rfl (of_decide_eq_true (by kernel_rfl)) rfl 30 Zc (fun _=>?_) K []
 simp only[aa.all,ax,kW]
 refine⟨⟨by omega,by omega,fun i hi=>?_,by omega⟩,dh (congrArg AV.mag ?_)⟩
 ·match i,hi with
  |0,_=>exact⟨x%2^32,by omega,by simp[nth,jj]⟩
  |1,_=>exact⟨x/4294967296,by omega,by simp[nth,kK];omega⟩
 ·rw[val_two]
  simp[nth,numOf,kK]
  omega
def vD:Spec:=bC fun l=>match l with
 |[.int .u64 x]=>some (aK (.mag x.toNat) [0≤x∧x<2^64])
 |_=>none
theorem DH:∀K args pre r,vD K args pre=some r→aA P pS K args pre r:=by
 refine bW fun K args r hk hs _=>?_
 split at hs
 ·simp only[Option.some.injEq]at hs
  subst hs
  intro need
  obtain⟨h1,h2⟩:=need
  rename_i x
  obtain⟨y,rfl⟩:=Int.eq_ofNat_of_zero_le h1
  exact aeY (x:=y) (by omega) K trivial
 ·simp at hs
def fF (A:Nat):Bool:=decide (A<18446744073709551616)
theorem aat {A:Nat} (K:Nat):aA P sn K [.mag A] [] (aK (.tuple [.int .u64 (if fF A then A else 0:Nat),.bool (fF A)]) []):=by
 refine bJ hT eF hm Tr rfl (of_decide_eq_true (by kernel_rfl)) rfl 30 ag0 (fun _=>?_) K []
 simp only[aa.all,ax,beq_iff_eq,beq_eq_false_iff_ne,ne_eq,Int.toNat_zero,show Int.toNat 1=1 from rfl]
 have hv:=fI (N:=A)
 have l0:=dg (N:=A) (i:=0)
 have l1:=dg (N:=A) (i:=1)
 have yes:∀{x:Int},A<2^64→x=(A:Nat)→dY [.int .u64 x,.bool true] (.tuple [.int .u64 (if fF A then A else 0:Nat),.bool (fF A)]):=fun h hx=>by
  have:fF A=true:=by unfold fF;simpa using h
  rw[this,if_pos rfl]
  exact⟨bw hx,.refl _,trivial⟩
 refine⟨fun hb=>yes ?_ ?_,fun hb=>⟨fun h1=>⟨by omega,yes ?_ ?_⟩,fun h1=>⟨fun h2=>⟨⟨by omega,by omega,by omega⟩,yes ?_ ?_⟩,fun h2=>?_⟩⟩⟩
 ·have:A=0:=jd.1 (by omega)
  omega
 ·have:A=0:=jd.1 (by omega)
  rw[this];rfl
 ·exact o5 (by omega)
 ·rw[show nl A=1 by omega,val,val]at hv
  rw[bL (by omega) (by omega)]
  simp at hv;omega
 ·exact o5 (by omega)
 ·rw[show nl A=2 by omega,val,val,val]at hv
  have e1:IntKind.u64.wrap (az A 0:Int)=((az A 0:Nat):Int):=bL (by omega) (by omega)
  have e2:IntKind.u64.wrap (az A 1:Int)=((az A 1:Nat):Int):=bL (by omega) (by omega)
  have e3:IntKind.u64.wrap ((az A 1:Int)*2^min (Int.toNat 32) IntKind.u64.bits)=((az A 1*4294967296:Nat):Int):=by
   rw[x8,bL (by omega) (by omega)];omega
  rw[e1,e2,e3,uY (by omega) (by omega)]
  congr 1
  rw[Nat.or_comm,show 4294967296=2^32 from rfl,qz l0]
  simp at hv;omega
 ·have:fF A=false:=by
   unfold fF
   simp only[decide_eq_false_iff_not]
   intro h
   have:nl A≤2:=cT.2 h
   omega
  rw[this]
  exact⟨.refl _,.refl _,trivial⟩
def Fe:Spec:=bC fun l=>match l with
 |[a]=>match ir a with
  |some A=>some (aK (.tuple [.int .u64 (if fF A then A else 0:Nat),.bool (fF A)]) [])
  |none=>none
 |_=>none
theorem Li:∀K args pre r,Fe K args pre=some r→aA P sn K args pre r:=by
 refine bW fun K args r hk hs _=>?_
 split at hs
 ·split at hs
  ·rename_i A hA
   simp only[Option.some.injEq]at hs
   subst hs
   exact ga (aat K) hk ⟨lD hA,trivial⟩ []
  ·simp at hs
 ·simp at hs
theorem Yf {A B:Nat} (hA:nl A<2^40) (hB:nl B<2^40) (K:Nat):aA P pZ K [.mag A,.mag B] [] (aK (.int .i64 (cA A B)) []):=by
 refine ij hT agr rfl (of_decide_eq_true (by kernel_rfl)) rfl (fun _ c h0=>?_) K []
 refine aq.hole [1,1,0,1] (by kernel_rfl) (aD.bf hT bh hm 30 [0,1,5,4] aaY (by kernel_rfl) ?_)
 simp only[aa.all,ax,decide_eq_true_eq,decide_eq_false_iff_not,bne_iff_ne,ne_eq,Int.natCast_inj,bne_eq_false_iff_eq]
 refine⟨fun hb=>⟨fun hb2 s' hv=>eU (.inl ?_),fun hb2 s' hv=>eU (.inl ?_)⟩,fun hb s' hv=>bZ ?_⟩
 ·have h1:A<B:=Bz (by omega)
  exact fW (us:=[.int .i64 (-1)]) (.inr rfl) hv (by kernel_rfl) (bw (by simp[cA,h1]))
 ·have h1:B<A:=Bz (by omega)
  exact fW (us:=[.int .i64 1]) (.inr rfl) hv (by kernel_rfl) (bw (by simp[cA,h1];omega))
 refine aq.gA (i:=0) (y:=part (au pq) [1,1,0,1,0,0]) (by kernel_rfl) [0,1,5,4] 0 (h0 _) (fun k:Nat=>[.mag A,.mag B,.int .i64 ((k:Int)-1),.int .i64 0]) (fun _=>[]) (fun _=>rfl) (fun _=>trivial)
  (fun k=>k≤nl A∧∀j,k≤j→j<nl A→az A j=az B j) id (nl A) (dw hv (by rw[wrap_i64 (by omega) (by omega)]) rfl) ⟨by simp,fun j h1 h2=>by omega⟩ ?_
 rintro k ⟨hk,hlim⟩
 refine aq.bf hT bh hm 30 [0,1,5,4] TO (by kernel_rfl) ?_
 simp only[aa.all,ax,decide_eq_true_eq,decide_eq_false_iff_not]
 refine⟨fun hb2=>?_,fun hb2 s' hv=>eL ?_⟩
 ·obtain⟨j,rfl⟩:∃j,k=j+1:=⟨k-1,by omega⟩
  have e:(((j+1:Nat):Int)-1).toNat=j:=by omega
  rw[e]
  refine⟨⟨by omega,by omega⟩,fun hlt s' hv=>Ov (eU (.inl ?_)),fun hlt=>⟨⟨by omega,by omega⟩,fun hgt s' hv=>Ov (eU (.inl ?_)),fun hgt s' hv=>?_⟩⟩
  ·have h1:A<B:=Bt hb (k:=j) (by omega) (fun i h1 h2=>hlim i (by omega) h2) (by omega)
   exact fW (us:=[.int .i64 (-1)]) (.inr rfl) hv (by kernel_rfl) (bw (by simp[cA,h1]))
  ·have h1:B<A:=Bt hb.symm (k:=j) (by omega) (fun i h1 h2=>(hlim i (by omega) (by omega)).symm) (by omega)
   exact fW (us:=[.int .i64 1]) (.inr rfl) hv (by kernel_rfl) (bw (by simp[cA,h1];omega))
  ·refine⟨j,dw hv (by rw[wrap_i64 (by omega) (by omega)];congr 4;omega) rfl,⟨by omega,fun i h1 h2=>?_⟩,by simp⟩
   by_cases hi:i=j
   ·subst hi;omega
   ·exact hlim i (by omega) h2
 ·have hk0:k=0:=by omega
  have hAB:A=B:=EE hb fun i hi=>hlim i (by omega) hi
  exact bZ (aD.jx hT bh hm 30 hv (h0 0) rfl trivial Y0 (by kernel_rfl) (by kernel_rfl) (bw (by simp[cA,hAB])))
def mu (g:Nat→Nat→AV) (l:Nat→Nat→List Prop):Spec:=bC fun a=>match a with
 |[x,y]=>match ir x,ir y with
  |some A,some B=>some (aK (g A B) (l A B))
  |_,_=>none
 |_=>none
theorem pE {f:FuncId} {g:Nat→Nat→AV} {l:Nat→Nat→List Prop} (h:∀{A B:Nat},ax (l A B)→∀K,aA P f K [.mag A,.mag B] [] (aK (g A B) [])):∀K args pre r,mu g l K args pre=some r→aA P f K args pre r:=by
 refine bW fun K args r hk hs _=>?_
 split at hs
 ·split at hs
  ·rename_i A B hA hB
   simp only[Option.some.injEq]at hs
   subst hs
   exact fun need=>ga (h need K) hk ⟨lD hA,lD hB,trivial⟩ [] trivial
  ·simp at hs
 ·simp at hs
abbrev Iu (A B:Nat):List Prop:=[nl A<2^40,nl B<2^40]
def y6:Spec:=mu (fun A B=>.int .i64 (cA A B)) Iu
theorem Co:∀K args pre r,y6 K args pre=some r→aA P pZ K args pre r:=pE fun h=>Yf h.1 h.2
theorem WA {n:Nat} {z:Nat→Nat} (hz:∀i,i<n→z i<2^32) (hn:n<2^40) (hnl:nl (val n z)=n) (K:Nat):aA P zA K [.ak 1 n (ay z)] [] (aK (.int .i64 (br (val n z):Nat)) []):=by
 refine ij hT aiU rfl (of_decide_eq_true (by kernel_rfl)) rfl (fun _ c h0=>?_) K []
 refine aq.hole [1,1,1,0,1] (by kernel_rfl) (aD.bf hT bh hm 30 [3,4,2] Sq (by kernel_rfl) ?_)
 simp only[aa.all,ax,beq_iff_eq,beq_eq_false_iff_ne,ne_eq]
 refine⟨fun hb s' hv=>eU (.inl ?_),fun hb=>?_⟩
 ·have h1:n=0:=by omega
  have h2:val n z=0:=by rw[h1];rfl
  exact fW (us:=[.int .i64 0]) (.inr rfl) hv (by kernel_rfl) (bw (by rw[h2];rfl))
 have w1:IntKind.i64.wrap ((n:Int)-1)=((n-1:Nat):Int):=ec (by omega) (by omega)
 have w2:IntKind.i64.wrap (32*((n-1:Nat):Int))=((32*(n-1):Nat):Int):=ec (by omega) (by omega)
 rw[w1,w2]
 simp only[Int.toNat_natCast]
 refine⟨by omega,fun s' hv=>bZ ?_⟩
 have hzt:=hz (n-1) (by omega)
 have htot:br (val n z)=32*(n-1)+br (z (n-1)):=by
  have h0:val n z≠0:=fT.1 (by omega)
  rw[M7 h0,hnl,o9 hz (by omega)]
 refine aq.gA (i:=0) (y:=part (au pL) [1,1,1,0,1,0,0]) (by kernel_rfl) [3,4,2] 0 (h0 _) (fun p:Nat×Nat=>[.int .i64 (p.1:Nat),.int .u32 (p.2:Nat),.int .i64 0]) (fun _=>[]) (fun _=>rfl) (fun _=>trivial)
  (fun p=>p.1+br p.2=br (val n z)∧p.2<2^32) (fun p=>p.2) (32*(n-1),z (n-1)) hv ⟨htot.symm,hzt⟩ ?_
 rintro⟨x,y⟩ ⟨hxy,hy⟩
 simp only at hxy hy
 have hb32:br (z (n-1))≤32:=iL.2 hzt
 refine aq.bf hT bh hm 30 [3,4,2] ZL (by kernel_rfl) ?_
 rw[yw (by decide) (by decide)]
 simp only[aa.all,ax,bne_iff_ne,ne_eq,bne_eq_false_iff_eq,show Int.toNat 1=1 from rfl]
 refine⟨fun hc=>⟨by omega,fun s' hv=>?_⟩,fun hc s' hv=>eL (bZ ?_)⟩
 ·have hy0:0<y:=by omega
  have e:br y=1+br (y/2):=by
   by_cases h1:y=1
   ·rw[h1];decide
   ·exact sk (k:=1) (by omega)
  have hd:y/2<y:=by omega
  exact⟨(x+1,y/2),dw hv (by rw[ec (a:=(x:Int)+1) (n:=x+1) (by omega) (by omega)]) rfl,⟨by simp only;omega,by simp only;omega⟩,by simp only;omega⟩
 ·have hy0:y=0:=by omega
  refine aD.jx hT bh hm 30 hv (h0 0) rfl trivial ai5 (by kernel_rfl) (by kernel_rfl) (bw ?_)
  rw[hy0]at hxy
  simp[br]at hxy
  rw[hxy];simp[br]
def Rj:Spec:=bC (kE fun N n=>aK (.int .i64 (br N:Nat)) [n<2^40,nl N=n])
theorem TS:∀K args pre r,Rj K args pre=some r→aA P zA K args pre r:=
 bW (uv fun _ _ K hz need=>WA hz need.1 need.2 K)
end Go.Am.B
