/- ref01: Trim, Of, small, Cmp, Bits. -/
import Derived.Test.YtppeigelbecpbaaGreatB21
set_option linter.unusedVariables false
namespace Go.Am.B
open Go Go.Am.N AV
theorem akV:aO P nL lK (au lK):=aQ X2 (by kernel_rfl) (by kernel_rfl) (by kernel_rfl)
theorem aet:aO P pP vJ (au vJ):=aQ agS (by kernel_rfl) (by kernel_rfl) (by kernel_rfl)
theorem R5:aO P sR zR (au zR):=aQ Wc (by kernel_rfl) (by kernel_rfl) (by kernel_rfl)
theorem ahS:aO P oo o4 (au o4):=aQ abZ (by kernel_rfl) (by kernel_rfl) (by kernel_rfl)
theorem Uf:aO P zV pD (au pD):=aQ Sn (by kernel_rfl) (by kernel_rfl) (by kernel_rfl)
theorem afp {n:Nat} {z:Nat→Nat}:aH T [] [] 30 [0,3] (before (au lK) [1,1,0]) ⟨aN 0 [.ak 1 n (ay z)],[],0⟩=
  some (aa.leaf aj.normal ([ak 1 n (ay z),int IntKind.i64 (↑n:Int)],[])):=by kernel_rfl
theorem YH {n k:Nat} {z:Nat→Nat}:aH T [] [8,15] 30 [0,3] [part (au lK) [1,1,0,0,0]] ⟨aA [0,3] [.ak 1 n (ay z),.int .i64 k],[],0⟩=
  some (aa.fork (decide ((↑k:Int)>(0:Int))) (aa.ag [decide ((↑k:Int)>(0:Int))=true,(0:Int)≤IntKind.i64.wrap ((↑k:Int)-(1:Int))∧(IntKind.i64.wrap ((↑k:Int)-(1:Int))).toNat<n] (aa.fork (bif true then(↑(z (IntKind.i64.wrap ((↑k:Int)-(1:Int))).toNat):Int)==(0:Int)else false) (aa.leaf aj.normal ([ak 1 n (ay z),int IntKind.i64 (IntKind.i64.wrap ((↑k:Int)-(1:Int)))],[])) (aa.leaf (aj.exit 0) ([ak 1 n (ay z),int IntKind.i64 (↑k:Int)],[])))) (aa.ag [decide ((↑k:Int)>(0:Int))=false] (aa.fork false (aa.leaf aj.normal ([ak 1 n (ay z),int IntKind.i64 (IntKind.i64.wrap ((↑k:Int)-(1:Int)))],[])) (aa.leaf (aj.exit 0) ([ak 1 n (ay z),int IntKind.i64 (↑k:Int)],[]))))):=by kernel_rfl
theorem acy {n k:Nat} {z:Nat→Nat}:cm T [] [] 30 lK (behind (au lK) [1,1,0]) ⟨aA [0,3] [.ak 1 n (ay z),.int .i64 k],[],0⟩=
  some (aa.ag [(0:Nat)*1≤2^24,(0:Int)≤(0:Int)∧(0:Int)≤(↑k:Int)∧(↑k:Int)≤(↑k:Int)∧(↑k:Int)≤(↑n:Int),((0:Nat)+((↑k:Int).toNat-Int.toNat (0:Int)))*((4:Nat)+1)*2≤2^47] (aa.leaf aj.ret [ak 1 ((0:Nat)+((↑k:Int).toNat-Int.toNat (0:Int))) fun(i:Nat)↦if i+0<0 then nth [] (int IntKind.u32 (0:Int)) (i+0)else ay z (i+0-0+Int.toNat (0:Int))])):=by kernel_rfl
def tN:Spec:=bC (kW fun N n=>aK (.mag N) [n<2^40])
def eu:aR:=[(nL,tN)]
theorem aiG {n:Nat}:bF T eu [] 30 vJ (au vJ) ⟨aN 0 [.int .u64 n],[],0⟩=
  some (aa.ag [(0:Int)≤(32:Int),(2:Nat)*1≤2^24,dB 2 fun(i:Nat)↦nth [int IntKind.u32 (IntKind.u32.wrap (↑n:Int)),int IntKind.u32 (IntKind.u32.wrap ((↑n:Int).fdiv ((2:Int)^min (Int.toNat (32:Int)) IntKind.u64.bits)))] (int IntKind.u32 (0:Int)) (i+0),(2:Nat)<2^40] (aa.leaf aj.ret [mag (val 2 fun(i:Nat)↦numOf (nth [int IntKind.u32 (IntKind.u32.wrap (↑n:Int)),int IntKind.u32 (IntKind.u32.wrap ((↑n:Int).fdiv ((2:Int)^min (Int.toNat (32:Int)) IntKind.u64.bits)))] (int IntKind.u32 (0:Int)) (i+0)))])):=by kernel_rfl
theorem afs {A:Nat}:bF T eu [6,8,14] 30 zR (au zR) ⟨aN 0 [.mag A],[],0⟩=
  some (aa.fork ((↑(nl A):Int)==(0:Int)) (aa.leaf aj.ret [int IntKind.u64 (0:Int),AV.bool true]) (aa.fork ((↑(nl A):Int)==(1:Int)) (aa.ag [(0:Int)≤(0:Int)∧Int.toNat (0:Int)<nl A] (aa.leaf aj.ret [int IntKind.u64 (IntKind.u64.wrap (↑(az A (Int.toNat (0:Int))):Int)),AV.bool true])) (aa.fork ((↑(nl A):Int)==(2:Int)) (aa.ag [(0:Int)≤(0:Int)∧Int.toNat (0:Int)<nl A,(0:Int)≤(1:Int)∧Int.toNat (1:Int)<nl A,(0:Int)≤(32:Int)] (aa.leaf aj.ret [int IntKind.u64 (IntKind.u64.wrap (↑(BitVec.ofInt IntKind.u64.bits (IntKind.u64.wrap (↑(az A (Int.toNat (0:Int))):Int))|||BitVec.ofInt IntKind.u64.bits (IntKind.u64.wrap (IntKind.u64.wrap (↑(az A (Int.toNat (1:Int))):Int)*(2:Int)^min (Int.toNat (32:Int)) IntKind.u64.bits))).toNat:Int)),AV.bool true])) (aa.leaf aj.ret [int IntKind.u64 (0:Int),AV.bool false])))):=by kernel_rfl
theorem Vv {A B:Nat}:aH T [] [10,15] 30 [0,1,5,4] (before (au o4) [1,1,0,1]) ⟨aN 0 [.mag A,.mag B],[],0⟩=
  some (aa.fork ((↑(nl A):Int)!=(↑(nl B):Int)) (aa.fork (decide ((↑(nl A):Int)<(↑(nl B):Int))) (aa.leaf aj.ret ([mag A,mag B,tuple [],int IntKind.i64 (-1:Int)],[])) (aa.leaf aj.ret ([mag A,mag B,tuple [],int IntKind.i64 (1:Int)],[]))) (aa.leaf aj.normal ([mag A,mag B,int IntKind.i64 (IntKind.i64.wrap ((↑(nl A):Int)-(1:Int))),int IntKind.i64 (0:Int)],[]))):=by kernel_rfl
theorem Tj {A B k:Nat}:aH T [] [20,31,40] 30 [0,1,5,4] [part (au o4) [1,1,0,1,0,0]] ⟨aA [0,1,5,4] [.mag A,.mag B,.int .i64 ((k:Int)-1),.int .i64 0],[],0⟩=
  some (aa.fork (decide ((↑k:Int)-(1:Int)≥(0:Int))) (aa.ag [(0:Int)≤(↑k:Int)-(1:Int)∧((↑k:Int)-(1:Int)).toNat<nl A,(0:Int)≤(↑k:Int)-(1:Int)∧((↑k:Int)-(1:Int)).toNat<nl B] (aa.fork (decide ((↑(az A ((↑k:Int)-(1:Int)).toNat):Int)<(↑(az B ((↑k:Int)-(1:Int)).toNat):Int))) (aa.leaf aj.ret ([mag A,mag B,int IntKind.i64 ((↑k:Int)-(1:Int)),int IntKind.i64 (-1:Int)],[])) (aa.ag [(0:Int)≤(↑k:Int)-(1:Int)∧((↑k:Int)-(1:Int)).toNat<nl A,(0:Int)≤(↑k:Int)-(1:Int)∧((↑k:Int)-(1:Int)).toNat<nl B] (aa.fork (decide ((↑(az A ((↑k:Int)-(1:Int)).toNat):Int)>(↑(az B ((↑k:Int)-(1:Int)).toNat):Int))) (aa.leaf aj.ret ([mag A,mag B,int IntKind.i64 ((↑k:Int)-(1:Int)),int IntKind.i64 (1:Int)],[])) (aa.leaf aj.normal ([mag A,mag B,int IntKind.i64 (IntKind.i64.wrap ((↑k:Int)-(1:Int)-(1:Int))),int IntKind.i64 (0:Int)],[])))))) (aa.leaf (aj.exit 0) ([mag A,mag B,int IntKind.i64 ((↑k:Int)-(1:Int)),int IntKind.i64 (0:Int)],[]))):=by kernel_rfl
theorem abe {A B k:Nat}:cm T [] [] 30 o4 (behind (au o4) [1,1,0,1]) ⟨aA [0,1,5,4] [.mag A,.mag B,.int .i64 ((k:Int)-1),.int .i64 0],[],0⟩=
  some (aa.leaf aj.ret [int IntKind.i64 (0:Int)]):=by kernel_rfl
theorem ZB {n:Nat} {z:Nat→Nat}:aH T [] [7] 30 [3,4,2] (before (au pD) [1,1,1,0,1]) ⟨aN 0 [.ak 1 n (ay z)],[],0⟩=
  some (aa.fork ((↑n:Int)==(0:Int)) (aa.leaf aj.ret ([tuple [],tuple [],int IntKind.i64 (0:Int)],[])) (aa.ag [(0:Int)≤IntKind.i64.wrap ((↑n:Int)-(1:Int))∧(IntKind.i64.wrap ((↑n:Int)-(1:Int))).toNat<n] (aa.leaf aj.normal ([int IntKind.i64 (IntKind.i64.wrap ((32:Int)*IntKind.i64.wrap ((↑n:Int)-(1:Int)))),int IntKind.u32 (↑(z (IntKind.i64.wrap ((↑n:Int)-(1:Int))).toNat):Int),int IntKind.i64 (0:Int)],[])))):=by kernel_rfl
theorem adW {x y:Nat}:aH T [] [19] 30 [3,4,2] [part (au pD) [1,1,1,0,1,0,0]] ⟨aA [3,4,2] [.int .i64 x,.int .u32 y,.int .i64 0],[],0⟩=
  some (aa.fork ((↑y:Int)!=(0:Int)) (aa.ag [(0:Int)≤(1:Int)] (aa.leaf aj.normal ([int IntKind.i64 (IntKind.i64.wrap ((↑x:Int)+(1:Int))),int IntKind.u32 ((↑y:Int).fdiv ((2:Int)^min (Int.toNat (1:Int)) IntKind.u32.bits)),int IntKind.i64 (0:Int)],[]))) (aa.leaf (aj.exit 0) ([int IntKind.i64 (↑x:Int),int IntKind.u32 (↑y:Int),int IntKind.i64 (0:Int)],[]))):=by kernel_rfl
theorem agx {x y:Nat}:cm T [] [] 30 pD (behind (au pD) [1,1,1,0,1]) ⟨aA [3,4,2] [.int .i64 x,.int .u32 y,.int .i64 0],[],0⟩=
  some (aa.leaf aj.ret [int IntKind.i64 (↑x:Int)]):=by kernel_rfl
theorem aai {n:Nat} {z:Nat→Nat} (hz:∀i,i<n→z i<2^32) (hn:n<2^40) (K:Nat):aB P nL K [.ak 1 n (ay z)] [] (aK (.mag (val n z)) []):=by
 refine iq hT akV rfl (of_decide_eq_true (by kernel_rfl)) rfl (fun _ c h0=>?_) K []
 refine aq.hole [1,1,0] (by kernel_rfl) (aD.bf hT bk hm 30 [0,3] afp (by kernel_rfl) fun s' hv=>bY ?_)
 refine aq.gC (i:=0) (y:=part (au lK) [1,1,0,0,0]) (by kernel_rfl) [0,3] 0 (h0 _) (fun k:Nat=>[.ak 1 n (ay z),.int .i64 k]) (fun _=>[]) (fun _=>rfl) (fun _=>trivial)
  (fun k=>k≤n∧∀i,k≤i→i<n→z i=0) id n hv ⟨Nat.le_refl _,fun i h1 h2=>by omega⟩ ?_
 rintro j ⟨hj,hzj⟩
 refine aq.bf hT bk hm 30 [0,3] YH (by kernel_rfl) ?_
 have fin:(j=0∨z (j-1)≠0)→∀s',aX [0,3] s'=some ([.ak 1 n (ay z),.int .i64 j],[])→aD P c lK.ntmps (behind (au lK) [1,1,0]) s' (dO c (Fin T lK (.mag (val n z)))):=by
  intro hj0 s' hv
  refine aD.jz hT bk hm 30 hv (h0 0) rfl trivial acy (by kernel_rfl) (by kernel_rfl) ?_
  simp only[aa.all,ax,Int.toNat_natCast,Int.toNat_zero,Nat.zero_add,Nat.sub_zero,Nat.add_zero]
  have e:val n z=val j z:=mV hj hzj
  refine⟨⟨by omega,by omega,by omega⟩,kG (by rw[e,Cf (fun i hi=>hz i (by omega)) hj0]) fun i hi=>?_⟩
  rw[if_neg (by omega),e,pn (fun j hj=>hz j (by omega)) hi]
  rfl
 have hw:0<j→IntKind.i64.wrap ((j:Int)-1)=((j-1:Nat):Int):=fun h=>by rw[wrap_i64 (by omega) (by omega)];omega
 refine⟨fun hb=>?_,fun hb=>?_⟩
 ·have h1:0<j:=by simpa using hb
  rw[hw h1]
  have hj1:j-1<n:=by omega
  refine⟨⟨hb,by omega,by rw[Int.toNat_natCast];exact hj1⟩,fun hc s' hv=>?_,fun hc s' hv=>?_⟩
  ·refine⟨j-1,hv,⟨by omega,fun i h1 h2=>?_⟩,by simp;omega⟩
   by_cases hi:i=j-1
   ·subst hi;simpa using hc
   ·exact hzj i (by omega) h2
  ·exact eV (fin (.inr (by simpa using hc)) s' hv)
 ·have h1:j=0:=by simpa using hb
  refine⟨hb,fun hc=>by simp at hc,fun hc s' hv=>eV (fin (.inl h1) s' hv)⟩
theorem x9:∀K args pre r,tN K args pre=some r→aB P nL K args pre r:=
 bV (s4 fun _ _ K hz need=>aai hz need K)
theorem eA:aY P eu:=aG x9 bk
theorem ajc {x:Nat} (hx:x<2^64) (K:Nat):aB P pP K [.int .u64 x] [] (aK (.mag x) []):=by
 refine bJ hT eA hm aet rfl (of_decide_eq_true (by kernel_rfl)) rfl 30 aiG (fun _=>?_) K []
 simp only[aa.all,ax,kB]
 refine⟨⟨by omega,by omega,fun i hi=>?_,by omega⟩,dc (congrArg AV.mag ?_)⟩
 ·match i,hi with
  |0,_=>exact⟨x%2^32,by omega,by simp[nth,jr]⟩
  |1,_=>exact⟨x/4294967296,by omega,by simp[nth,k9];omega⟩
 ·rw[val_two]
  simp[nth,numOf,k9]
  omega
def AO:Spec:=bC fun l=>match l with
 |[.int .u64 x]=>some (aK (.mag x.toNat) [0≤x∧x<2^64])
 |_=>none
theorem BG:∀K args pre r,AO K args pre=some r→aB P pP K args pre r:=by
 refine bV fun K args r hk hs _=>?_
 split at hs
 ·simp only[Option.some.injEq]at hs
  subst hs
  intro need
  obtain⟨h1,h2⟩:=need
  rename_i x
  obtain⟨y,rfl⟩:=Int.eq_ofNat_of_zero_le h1
  exact ajc (x:=y) (by omega) K trivial
 ·simp at hs
def fH (A:Nat):Bool:=decide (A<18446744073709551616)
theorem abG {A:Nat} (K:Nat):aB P sR K [.mag A] [] (aK (.tuple [.int .u64 (if fH A then A else 0:Nat),.bool (fH A)]) []):=by
 refine bJ hT eA hm R5 rfl (of_decide_eq_true (by kernel_rfl)) rfl 30 afs (fun _=>?_) K []
 simp only[aa.all,ax,beq_iff_eq,beq_eq_false_iff_ne,ne_eq,Int.toNat_zero,show Int.toNat 1=1 from rfl]
 have hv:=fJ (N:=A)
 have l0:=de (N:=A) (i:=0)
 have l1:=de (N:=A) (i:=1)
 have yes:∀{x:Int},A<2^64→x=(A:Nat)→dX [.int .u64 x,.bool true] (.tuple [.int .u64 (if fH A then A else 0:Nat),.bool (fH A)]):=fun h hx=>by
  have:fH A=true:=by unfold fH;simpa using h
  rw[this,if_pos rfl]
  exact⟨bw hx,.refl _,trivial⟩
 refine⟨fun hb=>yes ?_ ?_,fun hb=>⟨fun h1=>⟨by omega,yes ?_ ?_⟩,fun h1=>⟨fun h2=>⟨⟨by omega,by omega,by omega⟩,yes ?_ ?_⟩,fun h2=>?_⟩⟩⟩
 ·have:A=0:=iJ.1 (by omega)
  omega
 ·have:A=0:=iJ.1 (by omega)
  rw[this];rfl
 ·exact oG (by omega)
 ·rw[show nl A=1 by omega,val,val]at hv
  rw[bN (by omega) (by omega)]
  simp at hv;omega
 ·exact oG (by omega)
 ·rw[show nl A=2 by omega,val,val,val]at hv
  have e1:IntKind.u64.wrap (az A 0:Int)=((az A 0:Nat):Int):=bN (by omega) (by omega)
  have e2:IntKind.u64.wrap (az A 1:Int)=((az A 1:Nat):Int):=bN (by omega) (by omega)
  have e3:IntKind.u64.wrap ((az A 1:Int)*2^min (Int.toNat 32) IntKind.u64.bits)=((az A 1*4294967296:Nat):Int):=by
   rw[vZ,bN (by omega) (by omega)];omega
  rw[e1,e2,e3,uI (by omega) (by omega)]
  congr 1
  rw[Nat.or_comm,show 4294967296=2^32 from rfl,rM l0]
  simp at hv;omega
 ·have:fH A=false:=by
   unfold fH
   simp only[decide_eq_false_iff_not]
   intro h
   have:nl A≤2:=cT.2 h
   omega
  rw[this]
  exact⟨.refl _,.refl _,trivial⟩
def Fu:Spec:=bC fun l=>match l with
 |[a]=>match iD a with
  |some A=>some (aK (.tuple [.int .u64 (if fH A then A else 0:Nat),.bool (fH A)]) [])
  |none=>none
 |_=>none
theorem LJ:∀K args pre r,Fu K args pre=some r→aB P sR K args pre r:=by
 refine bV fun K args r hk hs _=>?_
 split at hs
 ·split at hs
  ·rename_i A hA
   simp only[Option.some.injEq]at hs
   subst hs
   exact gb (abG K) hk ⟨kU hA,trivial⟩ []
  ·simp at hs
 ·simp at hs
theorem acW {A B:Nat} (hA:nl A<2^40) (hB:nl B<2^40) (K:Nat):aB P oo K [.mag A,.mag B] [] (aK (.int .i64 (cA A B)) []):=by
 refine iq hT ahS rfl (of_decide_eq_true (by kernel_rfl)) rfl (fun _ c h0=>?_) K []
 refine aq.hole [1,1,0,1] (by kernel_rfl) (aD.bf hT bk hm 30 [0,1,5,4] Vv (by kernel_rfl) ?_)
 simp only[aa.all,ax,decide_eq_true_eq,decide_eq_false_iff_not,bne_iff_ne,ne_eq,Int.natCast_inj,bne_eq_false_iff_eq]
 refine⟨fun hb=>⟨fun hb2 s' hv=>eW (.inl ?_),fun hb2 s' hv=>eW (.inl ?_)⟩,fun hb s' hv=>bY ?_⟩
 ·have h1:A<B:=CR (by omega)
  exact fZ (us:=[.int .i64 (-1)]) (.inr rfl) hv (by kernel_rfl) (bw (by simp[cA,h1]))
 ·have h1:B<A:=CR (by omega)
  exact fZ (us:=[.int .i64 1]) (.inr rfl) hv (by kernel_rfl) (bw (by simp[cA,h1];omega))
 refine aq.gC (i:=0) (y:=part (au o4) [1,1,0,1,0,0]) (by kernel_rfl) [0,1,5,4] 0 (h0 _) (fun k:Nat=>[.mag A,.mag B,.int .i64 ((k:Int)-1),.int .i64 0]) (fun _=>[]) (fun _=>rfl) (fun _=>trivial)
  (fun k=>k≤nl A∧∀j,k≤j→j<nl A→az A j=az B j) id (nl A) (dm hv (by rw[wrap_i64 (by omega) (by omega)]) rfl) ⟨by simp,fun j h1 h2=>by omega⟩ ?_
 rintro k ⟨hk,hlim⟩
 refine aq.bf hT bk hm 30 [0,1,5,4] Tj (by kernel_rfl) ?_
 simp only[aa.all,ax,decide_eq_true_eq,decide_eq_false_iff_not]
 refine⟨fun hb2=>?_,fun hb2 s' hv=>eV ?_⟩
 ·obtain⟨j,rfl⟩:∃j,k=j+1:=⟨k-1,by omega⟩
  have e:(((j+1:Nat):Int)-1).toNat=j:=by omega
  rw[e]
  refine⟨⟨by omega,by omega⟩,fun hlt s' hv=>OS (eW (.inl ?_)),fun hlt=>⟨⟨by omega,by omega⟩,fun hgt s' hv=>OS (eW (.inl ?_)),fun hgt s' hv=>?_⟩⟩
  ·have h1:A<B:=Da hb (k:=j) (by omega) (fun i h1 h2=>hlim i (by omega) h2) (by omega)
   exact fZ (us:=[.int .i64 (-1)]) (.inr rfl) hv (by kernel_rfl) (bw (by simp[cA,h1]))
  ·have h1:B<A:=Da hb.symm (k:=j) (by omega) (fun i h1 h2=>(hlim i (by omega) (by omega)).symm) (by omega)
   exact fZ (us:=[.int .i64 1]) (.inr rfl) hv (by kernel_rfl) (bw (by simp[cA,h1];omega))
  ·refine⟨j,dm hv (by rw[wrap_i64 (by omega) (by omega)];congr 4;omega) rfl,⟨by omega,fun i h1 h2=>?_⟩,by simp⟩
   by_cases hi:i=j
   ·subst hi;omega
   ·exact hlim i (by omega) h2
 ·have hk0:k=0:=by omega
  have hAB:A=B:=Gn hb fun i hi=>hlim i (by omega) hi
  exact bY (aD.jz hT bk hm 30 hv (h0 0) rfl trivial abe (by kernel_rfl) (by kernel_rfl) (bw (by simp[cA,hAB])))
def mL (g:Nat→Nat→AV) (l:Nat→Nat→List Prop):Spec:=bC fun a=>match a with
 |[x,y]=>match iD x,iD y with
  |some A,some B=>some (aK (g A B) (l A B))
  |_,_=>none
 |_=>none
theorem oO {f:FuncId} {g:Nat→Nat→AV} {l:Nat→Nat→List Prop} (h:∀{A B:Nat},ax (l A B)→∀K,aB P f K [.mag A,.mag B] [] (aK (g A B) [])):∀K args pre r,mL g l K args pre=some r→aB P f K args pre r:=by
 refine bV fun K args r hk hs _=>?_
 split at hs
 ·split at hs
  ·rename_i A B hA hB
   simp only[Option.some.injEq]at hs
   subst hs
   exact fun need=>gb (h need K) hk ⟨kU hA,kU hB,trivial⟩ [] trivial
  ·simp at hs
 ·simp at hs
abbrev FE (A B:Nat):List Prop:=[nl A<2^40,nl B<2^40]
def A9:Spec:=mL (fun A B=>.int .i64 (cA A B)) FE
theorem Cd:∀K args pre r,A9 K args pre=some r→aB P oo K args pre r:=oO fun h=>acW h.1 h.2
theorem YA {n:Nat} {z:Nat→Nat} (hz:∀i,i<n→z i<2^32) (hn:n<2^40) (hnl:nl (val n z)=n) (K:Nat):aB P zV K [.ak 1 n (ay z)] [] (aK (.int .i64 (br (val n z):Nat)) []):=by
 refine iq hT Uf rfl (of_decide_eq_true (by kernel_rfl)) rfl (fun _ c h0=>?_) K []
 refine aq.hole [1,1,1,0,1] (by kernel_rfl) (aD.bf hT bk hm 30 [3,4,2] ZB (by kernel_rfl) ?_)
 simp only[aa.all,ax,beq_iff_eq,beq_eq_false_iff_ne,ne_eq]
 refine⟨fun hb s' hv=>eW (.inl ?_),fun hb=>?_⟩
 ·have h1:n=0:=by omega
  have h2:val n z=0:=by rw[h1];rfl
  exact fZ (us:=[.int .i64 0]) (.inr rfl) hv (by kernel_rfl) (bw (by rw[h2];rfl))
 have w1:IntKind.i64.wrap ((n:Int)-1)=((n-1:Nat):Int):=ef (by omega) (by omega)
 have w2:IntKind.i64.wrap (32*((n-1:Nat):Int))=((32*(n-1):Nat):Int):=ef (by omega) (by omega)
 rw[w1,w2]
 simp only[Int.toNat_natCast]
 refine⟨by omega,fun s' hv=>bY ?_⟩
 have hzt:=hz (n-1) (by omega)
 have htot:br (val n z)=32*(n-1)+br (z (n-1)):=by
  have h0:val n z≠0:=fY.1 (by omega)
  rw[NX h0,hnl,pn hz (by omega)]
 refine aq.gC (i:=0) (y:=part (au pD) [1,1,1,0,1,0,0]) (by kernel_rfl) [3,4,2] 0 (h0 _) (fun p:Nat×Nat=>[.int .i64 (p.1:Nat),.int .u32 (p.2:Nat),.int .i64 0]) (fun _=>[]) (fun _=>rfl) (fun _=>trivial)
  (fun p=>p.1+br p.2=br (val n z)∧p.2<2^32) (fun p=>p.2) (32*(n-1),z (n-1)) hv ⟨htot.symm,hzt⟩ ?_
 rintro⟨x,y⟩ ⟨hxy,hy⟩
 simp only at hxy hy
 have hb32:br (z (n-1))≤32:=iI.2 hzt
 refine aq.bf hT bk hm 30 [3,4,2] adW (by kernel_rfl) ?_
 rw[AW (by decide) (by decide)]
 simp only[aa.all,ax,bne_iff_ne,ne_eq,bne_eq_false_iff_eq,show Int.toNat 1=1 from rfl]
 refine⟨fun hc=>⟨by omega,fun s' hv=>?_⟩,fun hc s' hv=>eV (bY ?_)⟩
 ·have hy0:0<y:=by omega
  have e:br y=1+br (y/2):=by
   by_cases h1:y=1
   ·rw[h1];decide
   ·exact sX (k:=1) (by omega)
  have hd:y/2<y:=by omega
  exact⟨(x+1,y/2),dm hv (by rw[ef (a:=(x:Int)+1) (n:=x+1) (by omega) (by omega)]) rfl,⟨by simp only;omega,by simp only;omega⟩,by simp only;omega⟩
 ·have hy0:y=0:=by omega
  refine aD.jz hT bk hm 30 hv (h0 0) rfl trivial agx (by kernel_rfl) (by kernel_rfl) (bw ?_)
  rw[hy0]at hxy
  simp[br]at hxy
  rw[hxy];simp[br]
def QN:Spec:=bC (kW fun N n=>aK (.int .i64 (br N:Nat)) [n<2^40,nl N=n])
theorem Wm:∀K args pre r,QN K args pre=some r→aB P zV K args pre r:=
 bV (s4 fun _ _ K hz need=>YA hz need.1 need.2 K)
end Go.Am.B
