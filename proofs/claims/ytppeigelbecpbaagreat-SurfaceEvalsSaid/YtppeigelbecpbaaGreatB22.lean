/- ref01: Trim, Of, small, Cmp, Bits. -/
import Derived.Test.YtppeigelbecpbaaGreatB21
set_option linter.unusedVariables false
namespace Go.Am.B
open Go Go.Am.N AV
theorem acj:aO P l6 kj (aq kj):=aP PS (by kernel_rfl) (by kernel_rfl) (by kernel_rfl)
theorem acL:aO P nR wv (aq wv):=aP Zr (by kernel_rfl) (by kernel_rfl) (by kernel_rfl)
theorem Q9:aO P rB wI (aq wI):=aP Va (by kernel_rfl) (by kernel_rfl) (by kernel_rfl)
theorem Qr:aO P mE nJ (aq nJ):=aP Ui (by kernel_rfl) (by kernel_rfl) (by kernel_rfl)
theorem X0:aO P th mG (aq mG):=aP acK (by kernel_rfl) (by kernel_rfl) (by kernel_rfl)
theorem acd {n:Nat} {z:Nat→Nat}:aG T [] [] 30 [0,3] (before (aq kj) [1,1,0]) ⟨aM 0 [.ag 1 n (au z)],[],0⟩=
  some (aa.leaf aj.normal ([ag 1 n (au z),int IntKind.i64 (↑n:Int)],[])):=by kernel_rfl
theorem adU {n k:Nat} {z:Nat→Nat}:aG T [] [8,15] 30 [0,3] [part (aq kj) [1,1,0,0,0]] ⟨aB [0,3] [.ag 1 n (au z),.int .i64 k],[],0⟩=
  some (aa.fork (decide ((↑k:Int)>(0:Int))) (aa.af [decide ((↑k:Int)>(0:Int))=true,(0:Int)≤IntKind.i64.wrap ((↑k:Int)-(1:Int))∧(IntKind.i64.wrap ((↑k:Int)-(1:Int))).toNat<n] (aa.fork (bif true then(↑(z (IntKind.i64.wrap ((↑k:Int)-(1:Int))).toNat):Int)==(0:Int)else false) (aa.leaf aj.normal ([ag 1 n (au z),int IntKind.i64 (IntKind.i64.wrap ((↑k:Int)-(1:Int)))],[])) (aa.leaf (aj.exit 0) ([ag 1 n (au z),int IntKind.i64 (↑k:Int)],[])))) (aa.af [decide ((↑k:Int)>(0:Int))=false] (aa.fork false (aa.leaf aj.normal ([ag 1 n (au z),int IntKind.i64 (IntKind.i64.wrap ((↑k:Int)-(1:Int)))],[])) (aa.leaf (aj.exit 0) ([ag 1 n (au z),int IntKind.i64 (↑k:Int)],[]))))):=by kernel_rfl
theorem aex {n k:Nat} {z:Nat→Nat}:bZ T [] [] 30 kj (behind (aq kj) [1,1,0]) ⟨aB [0,3] [.ag 1 n (au z),.int .i64 k],[],0⟩=
  some (aa.af [(0:Nat)*1≤2^24,(0:Int)≤(0:Int)∧(0:Int)≤(↑k:Int)∧(↑k:Int)≤(↑k:Int)∧(↑k:Int)≤(↑n:Int),((0:Nat)+((↑k:Int).toNat-Int.toNat (0:Int)))*((4:Nat)+1)*2≤2^47] (aa.leaf aj.ret [ag 1 ((0:Nat)+((↑k:Int).toNat-Int.toNat (0:Int))) fun(i:Nat)↦if i+0<0 then nth [] (int IntKind.u32 (0:Int)) (i+0)else au z (i+0-0+Int.toNat (0:Int))])):=by kernel_rfl
def ry:Spec:=bA (jA fun N n=>aF (.mag N) [n<2^40])
def dI:aS:=[(l6,ry)]
theorem afy {n:Nat}:bu T dI [] 30 wv (aq wv) ⟨aM 0 [.int .u64 n],[],0⟩=
  some (aa.af [(0:Int)≤(32:Int),(2:Nat)*1≤2^24,cT 2 fun(i:Nat)↦nth [int IntKind.u32 (IntKind.u32.wrap (↑n:Int)),int IntKind.u32 (IntKind.u32.wrap ((↑n:Int).fdiv ((2:Int)^min (Int.toNat (32:Int)) IntKind.u64.bits)))] (int IntKind.u32 (0:Int)) (i+0),(2:Nat)<2^40] (aa.leaf aj.ret [mag (val 2 fun(i:Nat)↦numOf (nth [int IntKind.u32 (IntKind.u32.wrap (↑n:Int)),int IntKind.u32 (IntKind.u32.wrap ((↑n:Int).fdiv ((2:Int)^min (Int.toNat (32:Int)) IntKind.u64.bits)))] (int IntKind.u32 (0:Int)) (i+0)))])):=by kernel_rfl
theorem abD {A:Nat}:bu T dI [6,8,14] 30 wI (aq wI) ⟨aM 0 [.mag A],[],0⟩=
  some (aa.fork ((↑(nl A):Int)==(0:Int)) (aa.leaf aj.ret [int IntKind.u64 (0:Int),AV.bool true]) (aa.fork ((↑(nl A):Int)==(1:Int)) (aa.af [(0:Int)≤(0:Int)∧Int.toNat (0:Int)<nl A] (aa.leaf aj.ret [int IntKind.u64 (IntKind.u64.wrap (↑(ay A (Int.toNat (0:Int))):Int)),AV.bool true])) (aa.fork ((↑(nl A):Int)==(2:Int)) (aa.af [(0:Int)≤(0:Int)∧Int.toNat (0:Int)<nl A,(0:Int)≤(1:Int)∧Int.toNat (1:Int)<nl A,(0:Int)≤(32:Int)] (aa.leaf aj.ret [int IntKind.u64 (IntKind.u64.wrap (↑(BitVec.ofInt IntKind.u64.bits (IntKind.u64.wrap (↑(ay A (Int.toNat (0:Int))):Int))|||BitVec.ofInt IntKind.u64.bits (IntKind.u64.wrap (IntKind.u64.wrap (↑(ay A (Int.toNat (1:Int))):Int)*(2:Int)^min (Int.toNat (32:Int)) IntKind.u64.bits))).toNat:Int)),AV.bool true])) (aa.leaf aj.ret [int IntKind.u64 (0:Int),AV.bool false])))):=by kernel_rfl
theorem afG {A B:Nat}:aG T [] [10,15] 30 [0,1,5,4] (before (aq nJ) [1,1,0,1]) ⟨aM 0 [.mag A,.mag B],[],0⟩=
  some (aa.fork ((↑(nl A):Int)!=(↑(nl B):Int)) (aa.fork (decide ((↑(nl A):Int)<(↑(nl B):Int))) (aa.leaf aj.ret ([mag A,mag B,tuple [],int IntKind.i64 (-1:Int)],[])) (aa.leaf aj.ret ([mag A,mag B,tuple [],int IntKind.i64 (1:Int)],[]))) (aa.leaf aj.normal ([mag A,mag B,int IntKind.i64 (IntKind.i64.wrap ((↑(nl A):Int)-(1:Int))),int IntKind.i64 (0:Int)],[]))):=by kernel_rfl
theorem aa7 {A B k:Nat}:aG T [] [20,31,40] 30 [0,1,5,4] [part (aq nJ) [1,1,0,1,0,0]] ⟨aB [0,1,5,4] [.mag A,.mag B,.int .i64 ((k:Int)-1),.int .i64 0],[],0⟩=
  some (aa.fork (decide ((↑k:Int)-(1:Int)≥(0:Int))) (aa.af [(0:Int)≤(↑k:Int)-(1:Int)∧((↑k:Int)-(1:Int)).toNat<nl A,(0:Int)≤(↑k:Int)-(1:Int)∧((↑k:Int)-(1:Int)).toNat<nl B] (aa.fork (decide ((↑(ay A ((↑k:Int)-(1:Int)).toNat):Int)<(↑(ay B ((↑k:Int)-(1:Int)).toNat):Int))) (aa.leaf aj.ret ([mag A,mag B,int IntKind.i64 ((↑k:Int)-(1:Int)),int IntKind.i64 (-1:Int)],[])) (aa.af [(0:Int)≤(↑k:Int)-(1:Int)∧((↑k:Int)-(1:Int)).toNat<nl A,(0:Int)≤(↑k:Int)-(1:Int)∧((↑k:Int)-(1:Int)).toNat<nl B] (aa.fork (decide ((↑(ay A ((↑k:Int)-(1:Int)).toNat):Int)>(↑(ay B ((↑k:Int)-(1:Int)).toNat):Int))) (aa.leaf aj.ret ([mag A,mag B,int IntKind.i64 ((↑k:Int)-(1:Int)),int IntKind.i64 (1:Int)],[])) (aa.leaf aj.normal ([mag A,mag B,int IntKind.i64 (IntKind.i64.wrap ((↑k:Int)-(1:Int)-(1:Int))),int IntKind.i64 (0:Int)],[])))))) (aa.leaf (aj.exit 0) ([mag A,mag B,int IntKind.i64 ((↑k:Int)-(1:Int)),int IntKind.i64 (0:Int)],[]))):=by kernel_rfl
theorem abq {A B k:Nat}:bZ T [] [] 30 nJ (behind (aq nJ) [1,1,0,1]) ⟨aB [0,1,5,4] [.mag A,.mag B,.int .i64 ((k:Int)-1),.int .i64 0],[],0⟩=
  some (aa.leaf aj.ret [int IntKind.i64 (0:Int)]):=by kernel_rfl
theorem XQ {n:Nat} {z:Nat→Nat}:aG T [] [7] 30 [3,4,2] (before (aq mG) [1,1,1,0,1]) ⟨aM 0 [.ag 1 n (au z)],[],0⟩=
  some (aa.fork ((↑n:Int)==(0:Int)) (aa.leaf aj.ret ([tuple [],tuple [],int IntKind.i64 (0:Int)],[])) (aa.af [(0:Int)≤IntKind.i64.wrap ((↑n:Int)-(1:Int))∧(IntKind.i64.wrap ((↑n:Int)-(1:Int))).toNat<n] (aa.leaf aj.normal ([int IntKind.i64 (IntKind.i64.wrap ((32:Int)*IntKind.i64.wrap ((↑n:Int)-(1:Int)))),int IntKind.u32 (↑(z (IntKind.i64.wrap ((↑n:Int)-(1:Int))).toNat):Int),int IntKind.i64 (0:Int)],[])))):=by kernel_rfl
theorem aaI {x y:Nat}:aG T [] [19] 30 [3,4,2] [part (aq mG) [1,1,1,0,1,0,0]] ⟨aB [3,4,2] [.int .i64 x,.int .u32 y,.int .i64 0],[],0⟩=
  some (aa.fork ((↑y:Int)!=(0:Int)) (aa.af [(0:Int)≤(1:Int)] (aa.leaf aj.normal ([int IntKind.i64 (IntKind.i64.wrap ((↑x:Int)+(1:Int))),int IntKind.u32 ((↑y:Int).fdiv ((2:Int)^min (Int.toNat (1:Int)) IntKind.u32.bits)),int IntKind.i64 (0:Int)],[]))) (aa.leaf (aj.exit 0) ([int IntKind.i64 (↑x:Int),int IntKind.u32 (↑y:Int),int IntKind.i64 (0:Int)],[]))):=by kernel_rfl
theorem Wh {x y:Nat}:bZ T [] [] 30 mG (behind (aq mG) [1,1,1,0,1]) ⟨aB [3,4,2] [.int .i64 x,.int .u32 y,.int .i64 0],[],0⟩=
  some (aa.leaf aj.ret [int IntKind.i64 (↑x:Int)]):=by kernel_rfl
theorem T8 {n:Nat} {z:Nat→Nat} (hz:∀i,i<n→z i<2^32) (hn:n<2^40) (K:Nat):az P l6 K [.ag 1 n (au z)] [] (aF (.mag (val n z)) []):=by
 refine eB hT acj rfl (of_decide_eq_true (by kernel_rfl)) rfl (fun _ c h0=>?_) K []
 refine ak.hole [1,1,0] (by kernel_rfl) (aC.bf hT aX hm 30 [0,3] acd (by kernel_rfl) fun s' hv=>bX ?_)
 refine ak.fR (i:=0) (y:=part (aq kj) [1,1,0,0,0]) (by kernel_rfl) [0,3] 0 (h0 _) (fun k:Nat=>[.ag 1 n (au z),.int .i64 k]) (fun _=>[]) (fun _=>rfl) (fun _=>trivial)
  (fun k=>k≤n∧∀i,k≤i→i<n→z i=0) id n hv ⟨Nat.le_refl _,fun i h1 h2=>by omega⟩ ?_
 rintro j ⟨hj,hzj⟩
 refine ak.bf hT aX hm 30 [0,3] adU (by kernel_rfl) ?_
 have fin:(j=0∨z (j-1)≠0)→∀s',aU [0,3] s'=some ([.ag 1 n (au z),.int .i64 j],[])→aC P c kj.ntmps (behind (aq kj) [1,1,0]) s' (dm c (Fin T kj (.mag (val n z)))):=by
  intro hj0 s' hv
  refine aC.iM hT aX hm 30 hv (h0 0) rfl trivial aex (by kernel_rfl) (by kernel_rfl) ?_
  simp only[aa.all,ax,Int.toNat_natCast,Int.toNat_zero,Nat.zero_add,Nat.sub_zero,Nat.add_zero]
  have e:val n z=val j z:=kO hj hzj
  refine⟨⟨by omega,by omega,by omega⟩,jL (by rw[e,An (fun i hi=>hz i (by omega)) hj0]) fun i hi=>?_⟩
  rw[if_neg (by omega),e,nI (fun j hj=>hz j (by omega)) hi]
  rfl
 have hw:0<j→IntKind.i64.wrap ((j:Int)-1)=((j-1:Nat):Int):=fun h=>by rw[wrap_i64 (by omega) (by omega)];omega
 refine⟨fun hb=>?_,fun hb=>?_⟩
 ·have h1:0<j:=by simpa using hb
  rw[hw h1]
  have hj1:j-1<n:=by omega
  refine⟨⟨hb,by omega,by rw[Int.toNat_natCast];exact hj1⟩,fun hc s' hv=>?_,fun hc s' hv=>?_⟩
  ·refine⟨j-1,hv,⟨by omega,fun i h1 h2=>?_⟩,by simp;omega⟩
   by_cases hi:i=j-1
   ·subst hi;simpa using hc
   ·exact hzj i (by omega) h2
  ·exact ef (fin (.inr (by simpa using hc)) s' hv)
 ·have h1:j=0:=by simpa using hb
  refine⟨hb,fun hc=>by simp at hc,fun hc s' hv=>ef (fin (.inl h1) s' hv)⟩
theorem x4:∀K args pre r,ry K args pre=some r→az P l6 K args pre r:=
 bS (qx fun _ _ K hz need=>T8 hz need K)
theorem dP:aW P dI:=aD x4 aX
theorem Si {x:Nat} (hx:x<2^64) (K:Nat):az P nR K [.int .u64 x] [] (aF (.mag x) []):=by
 refine bC hT dP hm acL rfl (of_decide_eq_true (by kernel_rfl)) rfl 30 afy (fun _=>?_) K []
 simp only[aa.all,ax,jw]
 refine⟨⟨by omega,by omega,fun i hi=>?_,by omega⟩,de (congrArg AV.mag ?_)⟩
 ·match i,hi with
  |0,_=>exact⟨x%2^32,by omega,by simp[nth,ij]⟩
  |1,_=>exact⟨x/4294967296,by omega,by simp[nth,jC];omega⟩
 ·rw[val_two]
  simp[nth,numOf,jC]
  omega
def vC:Spec:=bA fun l=>match l with
 |[.int .u64 x]=>some (aF (.mag x.toNat) [0≤x∧x<2^64])
 |_=>none
theorem zl:∀K args pre r,vC K args pre=some r→az P nR K args pre r:=by
 refine bS fun K args r hk hs _=>?_
 split at hs
 ·simp only[Option.some.injEq]at hs
  subst hs
  intro need
  obtain⟨h1,h2⟩:=need
  rename_i x
  obtain⟨y,rfl⟩:=Int.eq_ofNat_of_zero_le h1
  exact Si (x:=y) (by omega) K trivial
 ·simp at hs
def eO (A:Nat):Bool:=decide (A<18446744073709551616)
theorem afi {A:Nat} (K:Nat):az P rB K [.mag A] [] (aF (.tuple [.int .u64 (if eO A then A else 0:Nat),.bool (eO A)]) []):=by
 refine bC hT dP hm Q9 rfl (of_decide_eq_true (by kernel_rfl)) rfl 30 abD (fun _=>?_) K []
 simp only[aa.all,ax,beq_iff_eq,beq_eq_false_iff_ne,ne_eq,Int.toNat_zero,show Int.toNat 1=1 from rfl]
 have hv:=eR (N:=A)
 have l0:=cM (N:=A) (i:=0)
 have l1:=cM (N:=A) (i:=1)
 have yes:∀{x:Int},A<2^64→x=(A:Nat)→dK [.int .u64 x,.bool true] (.tuple [.int .u64 (if eO A then A else 0:Nat),.bool (eO A)]):=fun h hx=>by
  have:eO A=true:=by unfold eO;simpa using h
  rw[this,if_pos rfl]
  exact⟨br hx,.refl _,trivial⟩
 refine⟨fun hb=>yes ?_ ?_,fun hb=>⟨fun h1=>⟨by omega,yes ?_ ?_⟩,fun h1=>⟨fun h2=>⟨⟨by omega,by omega,by omega⟩,yes ?_ ?_⟩,fun h2=>?_⟩⟩⟩
 ·have:A=0:=gM.1 (by omega)
  omega
 ·have:A=0:=gM.1 (by omega)
  rw[this];rfl
 ·exact mJ (by omega)
 ·rw[show nl A=1 by omega,val,val]at hv
  rw[bH (by omega) (by omega)]
  simp at hv;omega
 ·exact mJ (by omega)
 ·rw[show nl A=2 by omega,val,val,val]at hv
  have e1:IntKind.u64.wrap (ay A 0:Int)=((ay A 0:Nat):Int):=bH (by omega) (by omega)
  have e2:IntKind.u64.wrap (ay A 1:Int)=((ay A 1:Nat):Int):=bH (by omega) (by omega)
  have e3:IntKind.u64.wrap ((ay A 1:Int)*2^min (Int.toNat 32) IntKind.u64.bits)=((ay A 1*4294967296:Nat):Int):=by
   rw[wP,bH (by omega) (by omega)];omega
  rw[e1,e2,e3,su (by omega) (by omega)]
  congr 1
  rw[Nat.or_comm,show 4294967296=2^32 from rfl,nZ l0]
  simp at hv;omega
 ·have:eO A=false:=by
   unfold eO
   simp only[decide_eq_false_iff_not]
   intro h
   have:nl A≤2:=cI.2 h
   omega
  rw[this]
  exact⟨.refl _,.refl _,trivial⟩
def EL:Spec:=bA fun l=>match l with
 |[a]=>match gC a with
  |some A=>some (aF (.tuple [.int .u64 (if eO A then A else 0:Nat),.bool (eO A)]) [])
  |none=>none
 |_=>none
theorem Mh:∀K args pre r,EL K args pre=some r→az P rB K args pre r:=by
 refine bS fun K args r hk hs _=>?_
 split at hs
 ·split at hs
  ·rename_i A hA
   simp only[Option.some.injEq]at hs
   subst hs
   exact fP (afi K) hk ⟨jB hA,trivial⟩ []
  ·simp at hs
 ·simp at hs
theorem Rj {A B:Nat} (hA:nl A<2^40) (hB:nl B<2^40) (K:Nat):az P mE K [.mag A,.mag B] [] (aF (.int .i64 (ct A B)) []):=by
 refine eB hT Qr rfl (of_decide_eq_true (by kernel_rfl)) rfl (fun _ c h0=>?_) K []
 refine ak.hole [1,1,0,1] (by kernel_rfl) (aC.bf hT aX hm 30 [0,1,5,4] afG (by kernel_rfl) ?_)
 simp only[aa.all,ax,decide_eq_true_eq,decide_eq_false_iff_not,bne_iff_ne,ne_eq,Int.natCast_inj,bne_eq_false_iff_eq]
 refine⟨fun hb=>⟨fun hb2 s' hv=>ee (.inl ?_),fun hb2 s' hv=>ee (.inl ?_)⟩,fun hb s' hv=>bX ?_⟩
 ·have h1:A<B:=AA (by omega)
  exact fk (us:=[.int .i64 (-1)]) (.inr rfl) hv (by kernel_rfl) (br (by simp[ct,h1]))
 ·have h1:B<A:=AA (by omega)
  exact fk (us:=[.int .i64 1]) (.inr rfl) hv (by kernel_rfl) (br (by simp[ct,h1];omega))
 refine ak.fR (i:=0) (y:=part (aq nJ) [1,1,0,1,0,0]) (by kernel_rfl) [0,1,5,4] 0 (h0 _) (fun k:Nat=>[.mag A,.mag B,.int .i64 ((k:Int)-1),.int .i64 0]) (fun _=>[]) (fun _=>rfl) (fun _=>trivial)
  (fun k=>k≤nl A∧∀j,k≤j→j<nl A→ay A j=ay B j) id (nl A) (cO hv (by rw[wrap_i64 (by omega) (by omega)]) rfl) ⟨by simp,fun j h1 h2=>by omega⟩ ?_
 rintro k ⟨hk,hlim⟩
 refine ak.bf hT aX hm 30 [0,1,5,4] aa7 (by kernel_rfl) ?_
 simp only[aa.all,ax,decide_eq_true_eq,decide_eq_false_iff_not]
 refine⟨fun hb2=>?_,fun hb2 s' hv=>ef ?_⟩
 ·obtain⟨j,rfl⟩:∃j,k=j+1:=⟨k-1,by omega⟩
  have e:(((j+1:Nat):Int)-1).toNat=j:=by omega
  rw[e]
  refine⟨⟨by omega,by omega⟩,fun hlt s' hv=>IX (ee (.inl ?_)),fun hlt=>⟨⟨by omega,by omega⟩,fun hgt s' hv=>IX (ee (.inl ?_)),fun hgt s' hv=>?_⟩⟩
  ·have h1:A<B:=zW hb (k:=j) (by omega) (fun i h1 h2=>hlim i (by omega) h2) (by omega)
   exact fk (us:=[.int .i64 (-1)]) (.inr rfl) hv (by kernel_rfl) (br (by simp[ct,h1]))
  ·have h1:B<A:=zW hb.symm (k:=j) (by omega) (fun i h1 h2=>(hlim i (by omega) (by omega)).symm) (by omega)
   exact fk (us:=[.int .i64 1]) (.inr rfl) hv (by kernel_rfl) (br (by simp[ct,h1];omega))
  ·refine⟨j,cO hv (by rw[wrap_i64 (by omega) (by omega)];congr 4;omega) rfl,⟨by omega,fun i h1 h2=>?_⟩,by simp⟩
   by_cases hi:i=j
   ·subst hi;omega
   ·exact hlim i (by omega) h2
 ·have hk0:k=0:=by omega
  have hAB:A=B:=Fg hb fun i hi=>hlim i (by omega) hi
  exact bX (aC.iM hT aX hm 30 hv (h0 0) rfl trivial abq (by kernel_rfl) (by kernel_rfl) (br (by simp[ct,hAB])))
def kq (g:Nat→Nat→AV) (l:Nat→Nat→List Prop):Spec:=bA fun a=>match a with
 |[x,y]=>match gC x,gC y with
  |some A,some B=>some (aF (g A B) (l A B))
  |_,_=>none
 |_=>none
theorem mD {f:FuncId} {g:Nat→Nat→AV} {l:Nat→Nat→List Prop} (h:∀{A B:Nat},ax (l A B)→∀K,az P f K [.mag A,.mag B] [] (aF (g A B) [])):∀K args pre r,kq g l K args pre=some r→az P f K args pre r:=by
 refine bS fun K args r hk hs _=>?_
 split at hs
 ·split at hs
  ·rename_i A B hA hB
   simp only[Option.some.injEq]at hs
   subst hs
   exact fun need=>fP (h need K) hk ⟨jB hA,jB hB,trivial⟩ [] trivial
  ·simp at hs
 ·simp at hs
abbrev Dh (A B:Nat):List Prop:=[nl A<2^40,nl B<2^40]
def yt:Spec:=kq (fun A B=>.int .i64 (ct A B)) Dh
theorem Al:∀K args pre r,yt K args pre=some r→az P mE K args pre r:=mD fun h=>Rj h.1 h.2
theorem abF {n:Nat} {z:Nat→Nat} (hz:∀i,i<n→z i<2^32) (hn:n<2^40) (hnl:nl (val n z)=n) (K:Nat):az P th K [.ag 1 n (au z)] [] (aF (.int .i64 (bp (val n z):Nat)) []):=by
 refine eB hT X0 rfl (of_decide_eq_true (by kernel_rfl)) rfl (fun _ c h0=>?_) K []
 refine ak.hole [1,1,1,0,1] (by kernel_rfl) (aC.bf hT aX hm 30 [3,4,2] XQ (by kernel_rfl) ?_)
 simp only[aa.all,ax,beq_iff_eq,beq_eq_false_iff_ne,ne_eq]
 refine⟨fun hb s' hv=>ee (.inl ?_),fun hb=>?_⟩
 ·have h1:n=0:=by omega
  have h2:val n z=0:=by rw[h1];rfl
  exact fk (us:=[.int .i64 0]) (.inr rfl) hv (by kernel_rfl) (br (by rw[h2];rfl))
 have w1:IntKind.i64.wrap ((n:Int)-1)=((n-1:Nat):Int):=dx (by omega) (by omega)
 have w2:IntKind.i64.wrap (32*((n-1:Nat):Int))=((32*(n-1):Nat):Int):=dx (by omega) (by omega)
 rw[w1,w2]
 simp only[Int.toNat_natCast]
 refine⟨by omega,fun s' hv=>bX ?_⟩
 have hzt:=hz (n-1) (by omega)
 have htot:bp (val n z)=32*(n-1)+bp (z (n-1)):=by
  have h0:val n z≠0:=eV.1 (by omega)
  rw[KI h0,hnl,nI hz (by omega)]
 refine ak.fR (i:=0) (y:=part (aq mG) [1,1,1,0,1,0,0]) (by kernel_rfl) [3,4,2] 0 (h0 _) (fun p:Nat×Nat=>[.int .i64 (p.1:Nat),.int .u32 (p.2:Nat),.int .i64 0]) (fun _=>[]) (fun _=>rfl) (fun _=>trivial)
  (fun p=>p.1+bp p.2=bp (val n z)∧p.2<2^32) (fun p=>p.2) (32*(n-1),z (n-1)) hv ⟨htot.symm,hzt⟩ ?_
 rintro⟨x,y⟩ ⟨hxy,hy⟩
 simp only at hxy hy
 have hb32:bp (z (n-1))≤32:=gq.2 hzt
 refine ak.bf hT aX hm 30 [3,4,2] aaI (by kernel_rfl) ?_
 rw[yd (by decide) (by decide)]
 simp only[aa.all,ax,bne_iff_ne,ne_eq,bne_eq_false_iff_eq,show Int.toNat 1=1 from rfl]
 refine⟨fun hc=>⟨by omega,fun s' hv=>?_⟩,fun hc s' hv=>ef (bX ?_)⟩
 ·have hy0:0<y:=by omega
  have e:bp y=1+bp (y/2):=by
   by_cases h1:y=1
   ·rw[h1];decide
   ·exact qS (k:=1) (by omega)
  have hd:y/2<y:=by omega
  exact⟨(x+1,y/2),cO hv (by rw[dx (a:=(x:Int)+1) (n:=x+1) (by omega) (by omega)]) rfl,⟨by simp only;omega,by simp only;omega⟩,by simp only;omega⟩
 ·have hy0:y=0:=by omega
  refine aC.iM hT aX hm 30 hv (h0 0) rfl trivial Wh (by kernel_rfl) (by kernel_rfl) (br ?_)
  rw[hy0]at hxy
  simp[bp]at hxy
  rw[hxy];simp[bp]
def IF:Spec:=bA (jA fun N n=>aF (.int .i64 (bp N:Nat)) [n<2^40,nl N=n])
theorem aba:∀K args pre r,IF K args pre=some r→az P th K args pre r:=
 bS (qx fun _ _ K hz need=>abF hz need.1 need.2 K)
end Go.Am.B
