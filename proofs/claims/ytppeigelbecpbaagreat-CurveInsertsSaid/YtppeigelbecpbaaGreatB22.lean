/- ref01: Trim, Of, small, Cmp, Bits. -/
import Derived.Test.YtppeigelbecpbaaGreatB21
set_option linter.unusedVariables false
namespace Go.Am.B
open Go Go.Am.N AV
theorem ZN:aP P nr k7 (au k7):=aQ afZ (by kernel_rfl) (by kernel_rfl) (by kernel_rfl)
theorem X8:aP P oO yB (au yB):=aQ aj8 (by kernel_rfl) (by kernel_rfl) (by kernel_rfl)
theorem aic:aP P tX Ae (au Ae):=aQ TW (by kernel_rfl) (by kernel_rfl) (by kernel_rfl)
theorem af5:aP P pI pG (au pG):=aQ V6 (by kernel_rfl) (by kernel_rfl) (by kernel_rfl)
theorem acB:aP P zI pF (au pF):=aQ aa4 (by kernel_rfl) (by kernel_rfl) (by kernel_rfl)
theorem Xq {n:Nat} {z:Nat→Nat}:aJ T [] [] 30 [0,3] (before (au k7) [1,1,0]) ⟨aN 0 [.aj 1 n (ay z)],[],0⟩=
  some (aa.leaf ak.normal ([aj 1 n (ay z),int IntKind.i64 (↑n:Int)],[])):=by kernel_rfl
theorem af3 {n k:Nat} {z:Nat→Nat}:aJ T [] [8,15] 30 [0,3] [part (au k7) [1,1,0,0,0]] ⟨aB [0,3] [.aj 1 n (ay z),.int .i64 k],[],0⟩=
  some (aa.fork (decide ((↑k:Int)>(0:Int))) (aa.ag [decide ((↑k:Int)>(0:Int))=true,(0:Int)≤IntKind.i64.wrap ((↑k:Int)-(1:Int))∧(IntKind.i64.wrap ((↑k:Int)-(1:Int))).toNat<n] (aa.fork (bif true then(↑(z (IntKind.i64.wrap ((↑k:Int)-(1:Int))).toNat):Int)==(0:Int)else false) (aa.leaf ak.normal ([aj 1 n (ay z),int IntKind.i64 (IntKind.i64.wrap ((↑k:Int)-(1:Int)))],[])) (aa.leaf (ak.exit 0) ([aj 1 n (ay z),int IntKind.i64 (↑k:Int)],[])))) (aa.ag [decide ((↑k:Int)>(0:Int))=false] (aa.fork false (aa.leaf ak.normal ([aj 1 n (ay z),int IntKind.i64 (IntKind.i64.wrap ((↑k:Int)-(1:Int)))],[])) (aa.leaf (ak.exit 0) ([aj 1 n (ay z),int IntKind.i64 (↑k:Int)],[]))))):=by kernel_rfl
theorem W6 {n k:Nat} {z:Nat→Nat}:bY T [] [] 30 k7 (behind (au k7) [1,1,0]) ⟨aB [0,3] [.aj 1 n (ay z),.int .i64 k],[],0⟩=
  some (aa.ag [(0:Nat)*1≤2^24,(0:Int)≤(0:Int)∧(0:Int)≤(↑k:Int)∧(↑k:Int)≤(↑k:Int)∧(↑k:Int)≤(↑n:Int),((0:Nat)+((↑k:Int).toNat-Int.toNat (0:Int)))*((4:Nat)+1)*2≤2^47] (aa.leaf ak.ret [aj 1 ((0:Nat)+((↑k:Int).toNat-Int.toNat (0:Int))) fun(i:Nat)↦if i+0<0 then nth [] (int IntKind.u32 (0:Int)) (i+0)else ay z (i+0-0+Int.toNat (0:Int))])):=by kernel_rfl
def uq:Spec:=bE (kQ fun N n=>aG (.mag N) [n<2^40])
def ek:aS:=[(nr,uq)]
theorem Zb {n:Nat}:bC T ek [] 30 yB (au yB) ⟨aN 0 [.int .u64 n],[],0⟩=
  some (aa.ag [(0:Int)≤(32:Int),(2:Nat)*1≤2^24,dz 2 fun(i:Nat)↦nth [int IntKind.u32 (IntKind.u32.wrap (↑n:Int)),int IntKind.u32 (IntKind.u32.wrap ((↑n:Int).fdiv ((2:Int)^min (Int.toNat (32:Int)) IntKind.u64.bits)))] (int IntKind.u32 (0:Int)) (i+0),(2:Nat)<2^40] (aa.leaf ak.ret [mag (val 2 fun(i:Nat)↦numOf (nth [int IntKind.u32 (IntKind.u32.wrap (↑n:Int)),int IntKind.u32 (IntKind.u32.wrap ((↑n:Int).fdiv ((2:Int)^min (Int.toNat (32:Int)) IntKind.u64.bits)))] (int IntKind.u32 (0:Int)) (i+0)))])):=by kernel_rfl
theorem ahx {A:Nat}:bC T ek [6,8,14] 30 Ae (au Ae) ⟨aN 0 [.mag A],[],0⟩=
  some (aa.fork ((↑(nl A):Int)==(0:Int)) (aa.leaf ak.ret [int IntKind.u64 (0:Int),AV.bool true]) (aa.fork ((↑(nl A):Int)==(1:Int)) (aa.ag [(0:Int)≤(0:Int)∧Int.toNat (0:Int)<nl A] (aa.leaf ak.ret [int IntKind.u64 (IntKind.u64.wrap (↑(az A (Int.toNat (0:Int))):Int)),AV.bool true])) (aa.fork ((↑(nl A):Int)==(2:Int)) (aa.ag [(0:Int)≤(0:Int)∧Int.toNat (0:Int)<nl A,(0:Int)≤(1:Int)∧Int.toNat (1:Int)<nl A,(0:Int)≤(32:Int)] (aa.leaf ak.ret [int IntKind.u64 (IntKind.u64.wrap (↑(BitVec.ofInt IntKind.u64.bits (IntKind.u64.wrap (↑(az A (Int.toNat (0:Int))):Int))|||BitVec.ofInt IntKind.u64.bits (IntKind.u64.wrap (IntKind.u64.wrap (↑(az A (Int.toNat (1:Int))):Int)*(2:Int)^min (Int.toNat (32:Int)) IntKind.u64.bits))).toNat:Int)),AV.bool true])) (aa.leaf ak.ret [int IntKind.u64 (0:Int),AV.bool false])))):=by kernel_rfl
theorem Zk {A B:Nat}:aJ T [] [10,15] 30 [0,1,5,4] (before (au pG) [1,1,0,1]) ⟨aN 0 [.mag A,.mag B],[],0⟩=
  some (aa.fork ((↑(nl A):Int)!=(↑(nl B):Int)) (aa.fork (decide ((↑(nl A):Int)<(↑(nl B):Int))) (aa.leaf ak.ret ([mag A,mag B,tuple [],int IntKind.i64 (-1:Int)],[])) (aa.leaf ak.ret ([mag A,mag B,tuple [],int IntKind.i64 (1:Int)],[]))) (aa.leaf ak.normal ([mag A,mag B,int IntKind.i64 (IntKind.i64.wrap ((↑(nl A):Int)-(1:Int))),int IntKind.i64 (0:Int)],[]))):=by kernel_rfl
theorem RE {A B k:Nat}:aJ T [] [20,31,40] 30 [0,1,5,4] [part (au pG) [1,1,0,1,0,0]] ⟨aB [0,1,5,4] [.mag A,.mag B,.int .i64 ((k:Int)-1),.int .i64 0],[],0⟩=
  some (aa.fork (decide ((↑k:Int)-(1:Int)≥(0:Int))) (aa.ag [(0:Int)≤(↑k:Int)-(1:Int)∧((↑k:Int)-(1:Int)).toNat<nl A,(0:Int)≤(↑k:Int)-(1:Int)∧((↑k:Int)-(1:Int)).toNat<nl B] (aa.fork (decide ((↑(az A ((↑k:Int)-(1:Int)).toNat):Int)<(↑(az B ((↑k:Int)-(1:Int)).toNat):Int))) (aa.leaf ak.ret ([mag A,mag B,int IntKind.i64 ((↑k:Int)-(1:Int)),int IntKind.i64 (-1:Int)],[])) (aa.ag [(0:Int)≤(↑k:Int)-(1:Int)∧((↑k:Int)-(1:Int)).toNat<nl A,(0:Int)≤(↑k:Int)-(1:Int)∧((↑k:Int)-(1:Int)).toNat<nl B] (aa.fork (decide ((↑(az A ((↑k:Int)-(1:Int)).toNat):Int)>(↑(az B ((↑k:Int)-(1:Int)).toNat):Int))) (aa.leaf ak.ret ([mag A,mag B,int IntKind.i64 ((↑k:Int)-(1:Int)),int IntKind.i64 (1:Int)],[])) (aa.leaf ak.normal ([mag A,mag B,int IntKind.i64 (IntKind.i64.wrap ((↑k:Int)-(1:Int)-(1:Int))),int IntKind.i64 (0:Int)],[])))))) (aa.leaf (ak.exit 0) ([mag A,mag B,int IntKind.i64 ((↑k:Int)-(1:Int)),int IntKind.i64 (0:Int)],[]))):=by kernel_rfl
theorem Sm {A B k:Nat}:bY T [] [] 30 pG (behind (au pG) [1,1,0,1]) ⟨aB [0,1,5,4] [.mag A,.mag B,.int .i64 ((k:Int)-1),.int .i64 0],[],0⟩=
  some (aa.leaf ak.ret [int IntKind.i64 (0:Int)]):=by kernel_rfl
theorem abV {n:Nat} {z:Nat→Nat}:aJ T [] [7] 30 [3,4,2] (before (au pF) [1,1,1,0,1]) ⟨aN 0 [.aj 1 n (ay z)],[],0⟩=
  some (aa.fork ((↑n:Int)==(0:Int)) (aa.leaf ak.ret ([tuple [],tuple [],int IntKind.i64 (0:Int)],[])) (aa.ag [(0:Int)≤IntKind.i64.wrap ((↑n:Int)-(1:Int))∧(IntKind.i64.wrap ((↑n:Int)-(1:Int))).toNat<n] (aa.leaf ak.normal ([int IntKind.i64 (IntKind.i64.wrap ((32:Int)*IntKind.i64.wrap ((↑n:Int)-(1:Int)))),int IntKind.u32 (↑(z (IntKind.i64.wrap ((↑n:Int)-(1:Int))).toNat):Int),int IntKind.i64 (0:Int)],[])))):=by kernel_rfl
theorem Xb {x y:Nat}:aJ T [] [19] 30 [3,4,2] [part (au pF) [1,1,1,0,1,0,0]] ⟨aB [3,4,2] [.int .i64 x,.int .u32 y,.int .i64 0],[],0⟩=
  some (aa.fork ((↑y:Int)!=(0:Int)) (aa.ag [(0:Int)≤(1:Int)] (aa.leaf ak.normal ([int IntKind.i64 (IntKind.i64.wrap ((↑x:Int)+(1:Int))),int IntKind.u32 ((↑y:Int).fdiv ((2:Int)^min (Int.toNat (1:Int)) IntKind.u32.bits)),int IntKind.i64 (0:Int)],[]))) (aa.leaf (ak.exit 0) ([int IntKind.i64 (↑x:Int),int IntKind.u32 (↑y:Int),int IntKind.i64 (0:Int)],[]))):=by kernel_rfl
theorem aiF {x y:Nat}:bY T [] [] 30 pF (behind (au pF) [1,1,1,0,1]) ⟨aB [3,4,2] [.int .i64 x,.int .u32 y,.int .i64 0],[],0⟩=
  some (aa.leaf ak.ret [int IntKind.i64 (↑x:Int)]):=by kernel_rfl
theorem aiM {n:Nat} {z:Nat→Nat} (hz:∀i,i<n→z i<2^32) (hn:n<2^40) (K:Nat):aA P nr K [.aj 1 n (ay z)] [] (aG (.mag (val n z)) []):=by
 refine gk hT ZN rfl (of_decide_eq_true (by kernel_rfl)) rfl (fun _ c h0=>?_) K []
 refine aq.hole [1,1,0] (by kernel_rfl) (aD.bk hT bp hm 30 [0,3] Xq (by kernel_rfl) fun s' hv=>b7 ?_)
 refine aq.gv (i:=0) (y:=part (au k7) [1,1,0,0,0]) (by kernel_rfl) [0,3] 0 (h0 _) (fun k:Nat=>[.aj 1 n (ay z),.int .i64 k]) (fun _=>[]) (fun _=>rfl) (fun _=>trivial)
  (fun k=>k≤n∧∀i,k≤i→i<n→z i=0) id n hv ⟨Nat.le_refl _,fun i h1 h2=>by omega⟩ ?_
 rintro j ⟨hj,hzj⟩
 refine aq.bk hT bp hm 30 [0,3] af3 (by kernel_rfl) ?_
 have fin:(j=0∨z (j-1)≠0)→∀s',aY [0,3] s'=some ([.aj 1 n (ay z),.int .i64 j],[])→aD P c k7.ntmps (behind (au k7) [1,1,0]) s' (de c (Fin T k7 (.mag (val n z)))):=by
  intro hj0 s' hv
  refine aD.jr hT bp hm 30 hv (h0 0) rfl trivial W6 (by kernel_rfl) (by kernel_rfl) ?_
  simp only[aa.all,ax,Int.toNat_natCast,Int.toNat_zero,Nat.zero_add,Nat.sub_zero,Nat.add_zero]
  have e:val n z=val j z:=lY hj hzj
  refine⟨⟨by omega,by omega,by omega⟩,kG (by rw[e,Cz (fun i hi=>hz i (by omega)) hj0]) fun i hi=>?_⟩
  rw[if_neg (by omega),e,pE (fun j hj=>hz j (by omega)) hi]
  rfl
 have hw:0<j→IntKind.i64.wrap ((j:Int)-1)=((j-1:Nat):Int):=fun h=>by rw[wrap_i64 (by omega) (by omega)];omega
 refine⟨fun hb=>?_,fun hb=>?_⟩
 ·have h1:0<j:=by simpa using hb
  rw[hw h1]
  have hj1:j-1<n:=by omega
  refine⟨⟨hb,by omega,by rw[Int.toNat_natCast];exact hj1⟩,fun hc s' hv=>?_,fun hc s' hv=>?_⟩
  ·refine⟨j-1,hv,⟨by omega,fun i h1 h2=>?_⟩,by simp;omega⟩
   by_cases hi:i=j-1
   ·subst hi;simpa using hc
   ·exact hzj i (by omega) h2
  ·exact eO (fin (.inr (by simpa using hc)) s' hv)
 ·have h1:j=0:=by simpa using hb
  refine⟨hb,fun hc=>by simp at hc,fun hc s' hv=>eO (fin (.inl h1) s' hv)⟩
theorem wF:∀K args pre r,uq K args pre=some r→aA P nr K args pre r:=
 bX (tA fun _ _ K hz need=>aiM hz need K)
theorem eB:aW P ek:=aH wF bp
theorem U8 {x:Nat} (hx:x<2^64) (K:Nat):aA P oO K [.int .u64 x] [] (aG (.mag x) []):=by
 refine bJ hT eB hm X8 rfl (of_decide_eq_true (by kernel_rfl)) rfl 30 Zb (fun _=>?_) K []
 simp only[aa.all,ax,ki]
 refine⟨⟨by omega,by omega,fun i hi=>?_,by omega⟩,cX (congrArg AV.mag ?_)⟩
 ·match i,hi with
  |0,_=>exact⟨x%2^32,by omega,by simp[nth,iZ]⟩
  |1,_=>exact⟨x/4294967296,by omega,by simp[nth,kD];omega⟩
 ·rw[val_two]
  simp[nth,numOf,kD]
  omega
def yc:Spec:=bE fun l=>match l with
 |[.int .u64 x]=>some (aG (.mag x.toNat) [0≤x∧x<2^64])
 |_=>none
theorem Bt:∀K args pre r,yc K args pre=some r→aA P oO K args pre r:=by
 refine bX fun K args r hk hs _=>?_
 split at hs
 ·simp only[Option.some.injEq]at hs
  subst hs
  intro need
  obtain⟨h1,h2⟩:=need
  rename_i x
  obtain⟨y,rfl⟩:=Int.eq_ofNat_of_zero_le h1
  exact U8 (x:=y) (by omega) K trivial
 ·simp at hs
def fy (A:Nat):Bool:=decide (A<18446744073709551616)
theorem WH {A:Nat} (K:Nat):aA P tX K [.mag A] [] (aG (.tuple [.int .u64 (if fy A then A else 0:Nat),.bool (fy A)]) []):=by
 refine bJ hT eB hm aic rfl (of_decide_eq_true (by kernel_rfl)) rfl 30 ahx (fun _=>?_) K []
 simp only[aa.all,ax,beq_iff_eq,beq_eq_false_iff_ne,ne_eq,Int.toNat_zero,show Int.toNat 1=1 from rfl]
 have hv:=fu (N:=A)
 have l0:=cZ (N:=A) (i:=0)
 have l1:=cZ (N:=A) (i:=1)
 have yes:∀{x:Int},A<2^64→x=(A:Nat)→dI [.int .u64 x,.bool true] (.tuple [.int .u64 (if fy A then A else 0:Nat),.bool (fy A)]):=fun h hx=>by
  have:fy A=true:=by unfold fy;simpa using h
  rw[this,if_pos rfl]
  exact⟨bt hx,.refl _,trivial⟩
 refine⟨fun hb=>yes ?_ ?_,fun hb=>⟨fun h1=>⟨by omega,yes ?_ ?_⟩,fun h1=>⟨fun h2=>⟨⟨by omega,by omega,by omega⟩,yes ?_ ?_⟩,fun h2=>?_⟩⟩⟩
 ·have:A=0:=iL.1 (by omega)
  omega
 ·have:A=0:=iL.1 (by omega)
  rw[this];rfl
 ·exact oU (by omega)
 ·rw[show nl A=1 by omega,val,val]at hv
  rw[bO (by omega) (by omega)]
  simp at hv;omega
 ·exact oU (by omega)
 ·rw[show nl A=2 by omega,val,val,val]at hv
  have e1:IntKind.u64.wrap (az A 0:Int)=((az A 0:Nat):Int):=bO (by omega) (by omega)
  have e2:IntKind.u64.wrap (az A 1:Int)=((az A 1:Nat):Int):=bO (by omega) (by omega)
  have e3:IntKind.u64.wrap ((az A 1:Int)*2^min (Int.toNat 32) IntKind.u64.bits)=((az A 1*4294967296:Nat):Int):=by
   rw[yO,bO (by omega) (by omega)];omega
  rw[e1,e2,e3,sk (by omega) (by omega)]
  congr 1
  rw[Nat.or_comm,show 4294967296=2^32 from rfl,qm l0]
  simp at hv;omega
 ·have:fy A=false:=by
   unfold fy
   simp only[decide_eq_false_iff_not]
   intro h
   have:nl A≤2:=cT.2 h
   omega
  rw[this]
  exact⟨.refl _,.refl _,trivial⟩
def II:Spec:=bE fun l=>match l with
 |[a]=>match ir a with
  |some A=>some (aG (.tuple [.int .u64 (if fy A then A else 0:Nat),.bool (fy A)]) [])
  |none=>none
 |_=>none
theorem JW:∀K args pre r,II K args pre=some r→aA P tX K args pre r:=by
 refine bX fun K args r hk hs _=>?_
 split at hs
 ·split at hs
  ·rename_i A hA
   simp only[Option.some.injEq]at hs
   subst hs
   exact fO (WH K) hk ⟨kr hA,trivial⟩ []
  ·simp at hs
 ·simp at hs
theorem ad0 {A B:Nat} (hA:nl A<2^40) (hB:nl B<2^40) (K:Nat):aA P pI K [.mag A,.mag B] [] (aG (.int .i64 (cH A B)) []):=by
 refine gk hT af5 rfl (of_decide_eq_true (by kernel_rfl)) rfl (fun _ c h0=>?_) K []
 refine aq.hole [1,1,0,1] (by kernel_rfl) (aD.bk hT bp hm 30 [0,1,5,4] Zk (by kernel_rfl) ?_)
 simp only[aa.all,ax,decide_eq_true_eq,decide_eq_false_iff_not,bne_iff_ne,ne_eq,Int.natCast_inj,bne_eq_false_iff_eq]
 refine⟨fun hb=>⟨fun hb2 s' hv=>eM (.inl ?_),fun hb2 s' hv=>eM (.inl ?_)⟩,fun hb s' hv=>b7 ?_⟩
 ·have h1:A<B:=B1 (by omega)
  exact fJ (us:=[.int .i64 (-1)]) (.inr rfl) hv (by kernel_rfl) (bt (by simp[cH,h1]))
 ·have h1:B<A:=B1 (by omega)
  exact fJ (us:=[.int .i64 1]) (.inr rfl) hv (by kernel_rfl) (bt (by simp[cH,h1];omega))
 refine aq.gv (i:=0) (y:=part (au pG) [1,1,0,1,0,0]) (by kernel_rfl) [0,1,5,4] 0 (h0 _) (fun k:Nat=>[.mag A,.mag B,.int .i64 ((k:Int)-1),.int .i64 0]) (fun _=>[]) (fun _=>rfl) (fun _=>trivial)
  (fun k=>k≤nl A∧∀j,k≤j→j<nl A→az A j=az B j) id (nl A) (dh hv (by rw[wrap_i64 (by omega) (by omega)]) rfl) ⟨by simp,fun j h1 h2=>by omega⟩ ?_
 rintro k ⟨hk,hlim⟩
 refine aq.bk hT bp hm 30 [0,1,5,4] RE (by kernel_rfl) ?_
 simp only[aa.all,ax,decide_eq_true_eq,decide_eq_false_iff_not]
 refine⟨fun hb2=>?_,fun hb2 s' hv=>eO ?_⟩
 ·obtain⟨j,rfl⟩:∃j,k=j+1:=⟨k-1,by omega⟩
  have e:(((j+1:Nat):Int)-1).toNat=j:=by omega
  rw[e]
  refine⟨⟨by omega,by omega⟩,fun hlt s' hv=>Oy (eM (.inl ?_)),fun hlt=>⟨⟨by omega,by omega⟩,fun hgt s' hv=>Oy (eM (.inl ?_)),fun hgt s' hv=>?_⟩⟩
  ·have h1:A<B:=Dc hb (k:=j) (by omega) (fun i h1 h2=>hlim i (by omega) h2) (by omega)
   exact fJ (us:=[.int .i64 (-1)]) (.inr rfl) hv (by kernel_rfl) (bt (by simp[cH,h1]))
  ·have h1:B<A:=Dc hb.symm (k:=j) (by omega) (fun i h1 h2=>(hlim i (by omega) (by omega)).symm) (by omega)
   exact fJ (us:=[.int .i64 1]) (.inr rfl) hv (by kernel_rfl) (bt (by simp[cH,h1];omega))
  ·refine⟨j,dh hv (by rw[wrap_i64 (by omega) (by omega)];congr 4;omega) rfl,⟨by omega,fun i h1 h2=>?_⟩,by simp⟩
   by_cases hi:i=j
   ·subst hi;omega
   ·exact hlim i (by omega) h2
 ·have hk0:k=0:=by omega
  have hAB:A=B:=IA hb fun i hi=>hlim i (by omega) hi
  exact b7 (aD.jr hT bp hm 30 hv (h0 0) rfl trivial Sm (by kernel_rfl) (by kernel_rfl) (bt (by simp[cH,hAB])))
def mN (g:Nat→Nat→AV) (l:Nat→Nat→List Prop):Spec:=bE fun a=>match a with
 |[x,y]=>match ir x,ir y with
  |some A,some B=>some (aG (g A B) (l A B))
  |_,_=>none
 |_=>none
theorem pO {f:FuncId} {g:Nat→Nat→AV} {l:Nat→Nat→List Prop} (h:∀{A B:Nat},ax (l A B)→∀K,aA P f K [.mag A,.mag B] [] (aG (g A B) [])):∀K args pre r,mN g l K args pre=some r→aA P f K args pre r:=by
 refine bX fun K args r hk hs _=>?_
 split at hs
 ·split at hs
  ·rename_i A B hA hB
   simp only[Option.some.injEq]at hs
   subst hs
   exact fun need=>fO (h need K) hk ⟨kr hA,kr hB,trivial⟩ [] trivial
  ·simp at hs
 ·simp at hs
abbrev Gd (A B:Nat):List Prop:=[nl A<2^40,nl B<2^40]
def vw:Spec:=mN (fun A B=>.int .i64 (cH A B)) Gd
theorem D6:∀K args pre r,vw K args pre=some r→aA P pI K args pre r:=pO fun h=>ad0 h.1 h.2
theorem Xt {n:Nat} {z:Nat→Nat} (hz:∀i,i<n→z i<2^32) (hn:n<2^40) (hnl:nl (val n z)=n) (K:Nat):aA P zI K [.aj 1 n (ay z)] [] (aG (.int .i64 (bu (val n z):Nat)) []):=by
 refine gk hT acB rfl (of_decide_eq_true (by kernel_rfl)) rfl (fun _ c h0=>?_) K []
 refine aq.hole [1,1,1,0,1] (by kernel_rfl) (aD.bk hT bp hm 30 [3,4,2] abV (by kernel_rfl) ?_)
 simp only[aa.all,ax,beq_iff_eq,beq_eq_false_iff_ne,ne_eq]
 refine⟨fun hb s' hv=>eM (.inl ?_),fun hb=>?_⟩
 ·have h1:n=0:=by omega
  have h2:val n z=0:=by rw[h1];rfl
  exact fJ (us:=[.int .i64 0]) (.inr rfl) hv (by kernel_rfl) (bt (by rw[h2];rfl))
 have w1:IntKind.i64.wrap ((n:Int)-1)=((n-1:Nat):Int):=dP (by omega) (by omega)
 have w2:IntKind.i64.wrap (32*((n-1:Nat):Int))=((32*(n-1):Nat):Int):=dP (by omega) (by omega)
 rw[w1,w2]
 simp only[Int.toNat_natCast]
 refine⟨by omega,fun s' hv=>b7 ?_⟩
 have hzt:=hz (n-1) (by omega)
 have htot:bu (val n z)=32*(n-1)+bu (z (n-1)):=by
  have h0:val n z≠0:=fB.1 (by omega)
  rw[Qi h0,hnl,pE hz (by omega)]
 refine aq.gv (i:=0) (y:=part (au pF) [1,1,1,0,1,0,0]) (by kernel_rfl) [3,4,2] 0 (h0 _) (fun p:Nat×Nat=>[.int .i64 (p.1:Nat),.int .u32 (p.2:Nat),.int .i64 0]) (fun _=>[]) (fun _=>rfl) (fun _=>trivial)
  (fun p=>p.1+bu p.2=bu (val n z)∧p.2<2^32) (fun p=>p.2) (32*(n-1),z (n-1)) hv ⟨htot.symm,hzt⟩ ?_
 rintro⟨x,y⟩ ⟨hxy,hy⟩
 simp only at hxy hy
 have hb32:bu (z (n-1))≤32:=iH.2 hzt
 refine aq.bk hT bp hm 30 [3,4,2] Xb (by kernel_rfl) ?_
 rw[Bl (by decide) (by decide)]
 simp only[aa.all,ax,bne_iff_ne,ne_eq,bne_eq_false_iff_eq,show Int.toNat 1=1 from rfl]
 refine⟨fun hc=>⟨by omega,fun s' hv=>?_⟩,fun hc s' hv=>eO (b7 ?_)⟩
 ·have hy0:0<y:=by omega
  have e:bu y=1+bu (y/2):=by
   by_cases h1:y=1
   ·rw[h1];decide
   ·exact tn (k:=1) (by omega)
  have hd:y/2<y:=by omega
  exact⟨(x+1,y/2),dh hv (by rw[dP (a:=(x:Int)+1) (n:=x+1) (by omega) (by omega)]) rfl,⟨by simp only;omega,by simp only;omega⟩,by simp only;omega⟩
 ·have hy0:y=0:=by omega
  refine aD.jr hT bp hm 30 hv (h0 0) rfl trivial aiF (by kernel_rfl) (by kernel_rfl) (bt ?_)
  rw[hy0]at hxy
  simp[bu]at hxy
  rw[hxy];simp[bu]
def Lu:Spec:=bE (kQ fun N n=>aG (.int .i64 (bu N:Nat)) [n<2^40,nl N=n])
theorem Vv:∀K args pre r,Lu K args pre=some r→aA P zI K args pre r:=
 bX (tA fun _ _ K hz need=>Xt hz need.1 need.2 K)
end Go.Am.B
