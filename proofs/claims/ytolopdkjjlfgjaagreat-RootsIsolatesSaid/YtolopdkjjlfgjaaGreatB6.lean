/- slices.Clone, slices.Equal, natural.Mul. -/
import Derived.Test.YtolopdkjjlfgjaaGreatB5
set_option linter.unusedVariables false
namespace Go.Am.B
open Go Go.Am.N AV Proofs.Tryz IntKind
theorem agO:br 181 f181:=bu func181
theorem acV:br 117 f117:=bu func117
theorem Ra:br 119 f119:=bu func119
theorem abv {n:Nat} {b:Bool} {f:Nat->AV}:cB T [] [4] 30 f181 (aI f181) ⟨aU 0 [.eJ b 1 n f],[],0⟩=
  some (af.fork b (af.leaf aq.ret [nil]) (af.aj [(0:Nat)*1<=2^24,((0:Nat)+n)*((4:Nat)+1)*2<=2^47] (af.leaf aq.ret [ak 1 ((0:Nat)+n) fun i=>if i+0<0 then nth [] (int .u32 (0:Int)) (i+0)else f (i+0-0)]))):=ah
theorem Zj {A B:Nat}:aH T [] [10] 30 [0,1,12,13,4] (before (aI f117) [1,1,0,1]) ⟨aU 0 [.mag A,.mag B],[],0⟩=
  some (af.fork ((↑(nl A):Int)!=(↑(nl B):Int)) (af.leaf aq.ret ([mag A,mag B,tuple [],tuple [],AV.bool false],[])) (af.leaf aq.normal ([mag A,mag B,int .i64 (↑(nl A):Int),int .i64 (0:Int),AV.bool false],[]))):=ah
theorem aee {A B i:Nat}:aH T [] [14,24] 30 [0,1,12,13,4] [part (aI f117) [1,1,0,1,0,0]] ⟨aB [0,1,12,13,4] [.mag A,.mag B,.int .i64 (nl A),.int .i64 i,.bool false],[],0⟩=
  let c3:Int:=(↑(nl A):Int);let c2:Int:=(↑i:Int);let c1:List AV:=[mag A,mag B,int .i64 c3,int .i64 c2,AV.bool false];some (af.fork (decide (c2<c3)) (af.aj [(0:Int)<=c2/\c2.toNat<nl A,(0:Int)<=c2/\c2.toNat<nl B] (af.fork ((↑(aD A c2.toNat):Int)!=(↑(aD B c2.toNat):Int)) (af.leaf aq.ret (c1,[])) (af.leaf aq.normal ([mag A,mag B,int .i64 c3,int .i64 (i64.wrap (c2+1)),AV.bool false],[])))) (af.leaf (aq.exit 0) (c1,[]))):=ah
theorem SU {A B i:Nat}:cR T [] [] 30 f117 (behind (aI f117) [1,1,0,1]) ⟨aB [0,1,12,13,4] [.mag A,.mag B,.int .i64 (nl A),.int .i64 i,.bool false],[],0⟩=
  some (af.leaf aq.ret [AV.bool true]):=ah
theorem VR {n m:Nat} {z y:Nat->Nat}:aH T G1 [] 30 [1,5,17,18,19] (before (aI f119) [1,1,0,1]) ⟨aU 0 [.ak 1 n (aA z),.ak 1 m (aA y)],[],0⟩=
  let c1:Int:=i64.wrap ((↑n:Int)+(↑m:Int));some (af.aj [(0:Int)<=c1/\c1<=c1/\c1<=2^47/\c1*(↑(4:Nat):Int)<=2^47] (af.leaf aq.normal ([ak 1 m fun a=>int .u32 (↑(y a):Int),own 24576 1 0 c1.toNat,ak 1 n fun a=>int .u32 (↑(z a):Int),int .i64 (↑n:Int),int .i64 (0:Int)],[(24576,ax.mk true true 1 c1.toNat fun x=>int .u32 (0:Int))]))):=ah
theorem agW {n m i:Nat} {z y o:Nat->Nat}:aH T G1 [20] 30 [1,5,17,18,19] (before (part (aI f119) [1,1,0,1,0,0]) [1,1,0]) ⟨aB [1,5,17,18,19] [.ak 1 m (aA y),.own 7 1 0 (n+m),.ak 1 n (aA z),.int .i64 n,.int .i64 i],[(7,⟨true,true,1,n+m,aA o⟩)],8⟩=
  let c1:List AV×aE:=([ak 1 m fun a=>int .u32 (↑(y a):Int),own 7 1 0 (n+m),ak 1 n fun a=>int .u32 (↑(z a):Int),int .i64 (↑n:Int),int .i64 (↑i:Int)],[(7,ax.mk true true 1 (n+m) fun a=>int .u32 (↑(o a):Int))]);some (af.fork (decide ((↑i:Int)<(↑n:Int))) (af.leaf aq.normal c1) (af.leaf (aq.exit 0) c1)):=ah
theorem V6 {n m i:Nat} {z y o:Nat->Nat}:aH T G1 [25] 30 [1,5,17,18,19,6,7,8,26,27,28] (before (part (aI f119) [1,1,0,1,0,0,1,1,0,0]) [1,1,1,0,1]) ⟨aB [1,5,17,18,19] [.ak 1 m (aA y),.own 7 1 0 (n+m),.ak 1 n (aA z),.int .i64 n,.int .i64 i],[(7,⟨true,true,1,n+m,aA o⟩)],8⟩=
  let c8:Int:=(↑i:Int);let c7:AV:=int .i64 (↑n:Int);let c6:AV:=own 7 1 0 (n+m);let c4:AV:=ak 1 n fun a=>int .u32 (↑(z a):Int);let c2:Nat×ax:=(7,ax.mk true true 1 (n+m) fun a=>int .u32 (↑(o a):Int));let c1:AV:=ak 1 m fun a=>int .u32 (↑(y a):Int);let c5:Int:=(↑(z c8.toNat):Int);let c3:AV:=int .i64 c8;some (af.aj [(0:Int)<=c8/\c8.toNat<n] (af.fork (c5==0) (af.leaf (aq.exit 1) ([c1,c6,c4,c7,c3,c3,int .u32 c5,tuple [],tuple [],tuple [],tuple []],[c2])) (af.leaf aq.normal ([c1,c6,c4,c7,c3,c3,int .u32 c5,int .u64 (0:Int),c1,int .i64 (↑m:Int),int .i64 (0:Int)],[c2])))):=ah
theorem acT {n m i j x c:Nat} {z y o:Nat->Nat}:aH T G1 [29] 30 [1,5,17,18,19,6,7,8,26,27,28] [part (part (aI f119) [1,1,0,1,0,0,1,1,0,0]) [1,1,1,0,1,0,0]] ⟨aB [1,5,17,18,19,6,7,8,26,27,28] [.ak 1 m (aA y),.own 7 1 0 (n+m),.ak 1 n (aA z),.int .i64 n,.int .i64 i,.int .i64 i,.int .u32 x,.int .u64 c,.ak 1 m (aA y),.int .i64 m,.int .i64 j],[(7,⟨true,true,1,n+m,aA o⟩)],8⟩=
  let c12:AV:=int .i64 (↑n:Int);let c11:AV:=int .u32 (↑x:Int);let c10:AV:=int .i64 (↑m:Int);let c8:AV:=own 7 1 0 (n+m);let c7:Int:=(↑j:Int);let c6:AV:=ak 1 n fun a=>int .u32 (↑(z a):Int);let c4:AV:=int .i64 (↑i:Int);let c3:AV:=ak 1 m fun a=>int .u32 (↑(y a):Int);let c1:Int:=i64.wrap ((↑i:Int)+c7);let c5:Nat:=c1.toNat+0;let c9:List Prop:=[(0:Int)<=c1/\c1.toNat<n+m,c5<n+m];let c2:Int:=u64.wrap ((↑c:Int)+u64.wrap (u64.wrap (u64.wrap (↑x:Int)*u64.wrap (↑(y c7.toNat):Int))+u64.wrap (↑(o c5):Int)));some (af.fork (decide (c7<(↑m:Int))) (af.aj [(0:Int)<=c7/\c7.toNat<m] (af.aj c9 (af.aj c9 (af.aj [(0:Int)<=32] (af.leaf aq.normal ([c3,c8,c6,c12,c4,c4,c11,int .u64 (c2.fdiv ((2:Int)^min (Int.toNat (32:Int)) u64.bits)),c3,c10,int .i64 (i64.wrap (c7+1))],[(7,ax.mk true true 1 (n+m) fun j=>if(j==c5)=true then int .u32 (u32.wrap c2)else aA o j)])))))) (af.leaf (aq.exit 2) ([c3,c8,c6,c12,c4,c4,c11,int .u64 (↑c:Int),c3,c10,int .i64 c7],[(7,ax.mk true true 1 (n+m) fun a=>int .u32 (↑(o a):Int))]))):=ah
theorem aao {n m i j x c:Nat} {z y o:Nat->Nat}:aH T G1 [] 30 [1,5,17,18,19] (behind (part (aI f119) [1,1,0,1,0,0,1,1,0,0]) [1,1,1,0,1]) ⟨aB [1,5,17,18,19,6,7,8,26,27,28] [.ak 1 m (aA y),.own 7 1 0 (n+m),.ak 1 n (aA z),.int .i64 n,.int .i64 i,.int .i64 i,.int .u32 x,.int .u64 c,.ak 1 m (aA y),.int .i64 m,.int .i64 j],[(7,⟨true,true,1,n+m,aA o⟩)],8⟩=
  let c1:Int:=i64.wrap ((↑i:Int)+(↑m:Int));let c2:Nat:=c1.toNat+0;some (af.aj [(0:Int)<=c1/\c1.toNat<n+m,c2<n+m] (af.leaf aq.normal ([ak 1 m fun a=>int .u32 (↑(y a):Int),own 7 1 0 (n+m),ak 1 n fun a=>int .u32 (↑(z a):Int),int .i64 (↑n:Int),int .i64 (↑i:Int)],[(7,ax.mk true true 1 (n+m) fun j=>if(j==c2)=true then int .u32 (u32.wrap (↑c:Int))else aA o j)]))):=ah
theorem Xy {n m i:Nat} {z y o:Nat->Nat}:aH T G1 [] 30 [1,5,17,18,19] (behind (part (aI f119) [1,1,0,1,0,0]) [1,1,0]) ⟨aB [1,5,17,18,19] [.ak 1 m (aA y),.own 7 1 0 (n+m),.ak 1 n (aA z),.int .i64 n,.int .i64 i],[(7,⟨true,true,1,n+m,aA o⟩)],8⟩=
  some (af.leaf aq.normal ([ak 1 m fun a=>int .u32 (↑(y a):Int),own 7 1 0 (n+m),ak 1 n fun a=>int .u32 (↑(z a):Int),int .i64 (↑n:Int),int .i64 (i64.wrap ((↑i:Int)+1))],[(7,ax.mk true true 1 (n+m) fun a=>int .u32 (↑(o a):Int))])):=ah
theorem RR {n m i:Nat} {z y o:Nat->Nat}:cR T G1 [] 30 f119 (behind (aI f119) [1,1,0,1]) ⟨aB [1,5,17,18,19] [.ak 1 m (aA y),.own 7 1 0 (n+m),.ak 1 n (aA z),.int .i64 n,.int .i64 i],[(7,⟨true,true,1,n+m,aA o⟩)],8⟩=
  some (af.aj [fe (n+m) fun i=>aA o (i+0),n+m<2^62] (af.leaf aq.ret [mag (val (n+m) fun i=>numOf (aA o (i+0)))])):=ah
theorem D3 {n:Nat} {f:Nat->AV} (hn:n<2^40) (K:Nat):aS P 181 K [.ak 1 n f] [] (aM (.ak 1 n f) []):=by
 refine Gm fun b hb=>?_
 refine cF hT cG hm agO rfl aZ rfl 30 abv (fun _=>?_) K []
 simp only[af.all,az]
 refine⟨fun h=>?_,fun h=>⟨⟨aa,aa⟩,uZ aa fun i hi=>by simp⟩⟩
 rw[hb h]
 exact lS aa
def Ct:Spec:=cw fun l=>match l with
 |[.mag N]=>some (aM (.mag N) [nl N<2^40])
 |[.nil]=>some (aM (.mag 0) [])
 |[.ak es n f]=>if es==1 then some (aM (.ak 1 n f) [n<2^40])else none
 |_=>none
theorem D4:bf P Ct 181:=by
 refine dc fun K args r hk hs _=>?_
 split at hs
 ·rename_i N
  simp only[ay]at hs
  subst hs
  intro need
  have:=gT (args:=[.mag N]) (D3 (n:=nl N) (f:=fun i=>.int .u32 (aD N i)) need K) rfl ⟨PX rfl fun i hi=>rfl,trivial⟩ []
  exact ON (l':=[]) this id rfl rfl (kY rfl fun i hi=>rfl) trivial
 ·simp only[ay]at hs
  subst hs
  intro need
  have:=gT (args:=[.nil]) (D3 (n:=0) (f:=fun _=>.nil) aa K) rfl ⟨lS aa,trivial⟩ []
  exact ON (l':=[]) this id rfl rfl (kY (by simp[nl]) fun i hi=>aa) trivial
 ·rename_i es n f
  split at hs
  ·rename_i he
   have he:es=1:=by simpa using he
   subst he
   simp only[ay]at hs
   subst hs
   exact fun need=>D3 need K trivial
  ·simp at hs
 ·simp at hs
theorem afr {A B:Nat} (hA:nl A<2^40) (hB:nl B<2^40) (K:Nat) (pre:aE):aS P 117 K [.mag A,.mag B] pre (aM (.bool (decide (A=B))) []):=by
 refine kI hT acV rfl aZ rfl (fun _ c h0=>?_) K pre
 refine au.hole [1,1,0,1] ah (aF.bL hT cG hm 30 [0,1,12,13,4] Zj ah ?_)
 simp only[af.all,bne_iff_ne,ne_eq,Int.natCast_inj,bne_eq_false_iff_eq]
 refine⟨fun hb s' hv=>?_,fun hb s' hv=>?_⟩
 ·exact iG (us:=[.bool false]) (.inr rfl) hv ah (jS (decide_eq_false fun h=>hb (by rw[h])).symm)
 refine au.iX (i:=0) (y:=part (aI f117) [1,1,0,1,0,0]) ah
  (fun i:Nat=>⟨aB [0,1,12,13,4] [.mag A,.mag B,.int .i64 (nl A),.int .i64 i,.bool false],[],0⟩)
  (fun i=>i<=nl A/\∀j,j<i->aD A j=aD B j) (fun i=>nl A-i) 0
  (eA [] hv h0 rfl ⟨aP,aP,aP,aP,aP,trivial⟩ trivial) ⟨aa,fun j h=>aa⟩ ?_
 rintro i ⟨hi,hlim⟩
 refine au.bL hT cG hm 30 [0,1,12,13,4] aee ah ?_
 simp only[af.all,az,bD,bI,bne_iff_ne,ne_eq,Int.natCast_inj,bne_eq_false_iff_eq,bG]
 refine⟨fun h1=>⟨⟨aa,aa⟩,fun hne s' hv=>?_,fun heq s' hv=>?_⟩,fun h1 s' hv=>?_⟩
 ·exact iG (us:=[.bool false]) (.inr rfl) hv ah (jS (decide_eq_false fun h=>hne (by rw[h])).symm)
 ·refine⟨i+1,eA [] hv h0 rfl ⟨aP,aP,aP,⟨rfl,iA (by rw[wrap_i64 aa aa];omega)⟩,aP,trivial⟩ trivial,⟨aa,fun j hj=>?_⟩,aa⟩
  by_cases h:j=i
  ·subst h;exact heq
  ·exact hlim j aa
 ·have hAB:A=B:=Gt hb fun j hj=>hlim j aa
  exact aF.weak ah (eA (vs:=[.mag A,.mag B,.int .i64 (nl A),.int .i64 i,.bool false]) (ps:=[]) (nx:=0) [] hv h0 rfl ⟨aP,aP,aP,aP,aP,trivial⟩ trivial)
   (aF.fin hT cG hm 30 SU ah (jS (decide_eq_true hAB).symm))
def jK:AV->Option Nat
 |.mag N=>some N
 |.nil=>some 0
 |_=>none
theorem mB {a:AV} {N:Nat} (h:jK a=some N):bg a (.mag N):=by
 cases a<;>simp only[jK,reduceCtorEq,ay]at h
 case mag M=>subst h;exact .refl _
 case nil=>subst h;exact lT
def FI:Spec:=cw fun l=>match l with
 |[a,b]=>match jK a,jK b with
  |some A,some B=>some (aM (.bool (decide (A=B))) [nl A<2^40,nl B<2^40])
  |_,_=>none
 |_=>none
theorem OC:bf P FI 117:=by
 refine dc fun K args r hk hs _=>?_
 split at hs
 ·split at hs
  ·rename_i A B hA hB
   simp only[ay]at hs
   subst hs
   exact fun need=>gT (afr need.1 need.2 K []) hk ⟨mB hA,mB hB,trivial⟩ [] trivial
  ·simp at hs
 ·simp at hs
abbrev qi:List Nat:=[1,5,17,18,19]
abbrev sL (n m:Nat) (z y:Nat->Nat) (K i:Nat):List AV:=[.ak 1 m (aA y),.own K 1 0 (n+m),.ak 1 n (aA z),.int .i64 n,.int .i64 i]
abbrev GJ:List Nat:=[1,5,17,18,19,6,7,8,26,27,28]
abbrev Og (n m:Nat) (z y:Nat->Nat) (K i x c j:Nat):List AV:=[.ak 1 m (aA y),.own K 1 0 (n+m),.ak 1 n (aA z),.int .i64 n,.int .i64 i,.int .i64 i,.int .u32 x,.int .u64 c,.ak 1 m (aA y),.int .i64 m,.int .i64 j]
theorem agu {n m:Nat} {z y:Nat->Nat} (hz:∀i,i<n->z i<2^32) (hy:∀i,i<m->y i<2^32) (hn:n<2^40) (hm':m<2^40) (K:Nat) (pre:aE):
  aS P 119 K [.ak 1 n (aA z),.ak 1 m (aA y)] pre (aM (.mag (val n z*val m y)) []):=by
 refine kI hT Ra rfl aZ rfl (fun _ c0 h0=>?_) K pre
 refine au.hole [1,1,0,1] ah (aF.bL hT iM hm 30 qi VR ah ?_)
 have hw:i64.wrap ((n:Int)+(m:Int))=((n+m:Nat):Int):=by rw[wrap_i64 aa aa];omega
 simp only[af.all,az,hw,bG]
 refine⟨aa,fun s' hv=>?_⟩
 refine au.iX (i:=0) (y:=part (aI f119) [1,1,0,1,0,0]) ah
  (fun p:Nat×(Nat->Nat)=>⟨aB qi (sL n m z y 7 p.1),[(7,⟨true,true,1,n+m,aA p.2⟩)],8⟩)
  (fun p=>p.1<=n/\(∀j,j<n+m->p.2 j<2^32)/\(∀j,p.1+m<=j->p.2 j=0)/\val (n+m) p.2=val p.1 z*val m y)
  (fun p=>n-p.1) (0,fun _=>0)
  (eA [(7,24576)] hv h0 rfl ⟨aP,⟨rfl,ec rfl rfl rfl⟩,aP,aP,aP,trivial⟩
   ⟨⟨_,_,rfl,rfl,gC rfl fun j _=>rfl⟩,trivial⟩)
  ⟨by simp,fun j _=>by simp,fun j _=>rfl,?_⟩ ?_
 ·simp only
  rw[oG (k:=0) aa fun _ _ _=>rfl]
  simp[val]
 rintro⟨i,o⟩ ⟨hi,ho,ho0,hval⟩
 simp only at hi ho ho0 hval
 have next:∀{o':Nat->Nat} {s':aK},i<n->bA qi s'=some (sL n m z y 7 i,[(7,⟨true,true,1,n+m,aA o'⟩)])->(∀j,j<n+m->o' j<2^32)->(∀j,i+1+m<=j->o' j=0)->
   val (n+m) o'=val (i+1) z*val m y->∀{QF:aq->aK->Prop},
   aF P c0 f119.ntmps (behind (part (aI f119) [1,1,0,1,0,0]) [1,1,0]) s' (fF (fun s'=>∃k:Nat×(Nat->Nat),(∃ρ,Le c0 ρ s' ⟨aB qi (sL n m z y 7 k.1),[(7,⟨true,true,1,n+m,aA k.2⟩)],8⟩)/\
    (k.1<=n/\(∀j,j<n+m->k.2 j<2^32)/\(∀j,k.1+m<=j->k.2 j=0)/\val (n+m) k.2=val k.1 z*val m y)/\n-k.1<n-i) QF):=by
  intro o' s' hin hv g1 g2 g3 QF
  refine aF.weak ah (eA (vs:=sL n m z y 7 i) (ps:=[(7,⟨true,true,1,n+m,aA o'⟩)]) (nx:=8) [(7,7)] hv h0 rfl ⟨aP,⟨rfl,ec rfl rfl rfl⟩,aP,aP,aP,trivial⟩
    ⟨⟨_,_,rfl,rfl,gC rfl fun j _=>rfl⟩,trivial⟩)
   (aF.bL hT iM hm 30 qi Xy ah ?_)
  intro s' hv
  exact⟨(i+1,o'),eA [(7,7)] hv h0 rfl ⟨aP,⟨rfl,ec rfl rfl rfl⟩,aP,aP,⟨rfl,iA (by rw[wrap_i64 aa aa];simp only;omega)⟩,trivial⟩
    ⟨⟨_,_,rfl,rfl,gC rfl fun j _=>rfl⟩,trivial⟩,⟨by simp only;omega,g1,g2,g3⟩,by simp only;omega⟩
 refine au.hole [1,1,0] ah (aF.bL hT iM hm 30 qi agW ah ?_)
 simp only[af.all,bD,bI]
 refine⟨fun h1 s' hv=>?_,fun h1 s' hv=>?_⟩
 ·have hin:i<n:=aa
  have hzi:=hz i hin
  refine au.nB (eA (vs:=sL n m z y 7 i) (ps:=[(7,⟨true,true,1,n+m,aA o⟩)]) (nx:=8) [(7,7)] hv h0 rfl ⟨aP,⟨rfl,ec rfl rfl rfl⟩,aP,aP,aP,trivial⟩
    ⟨⟨_,_,rfl,rfl,gC rfl fun j _=>rfl⟩,trivial⟩) ?_
  refine au.qF (i:=1) (y:=part (aI f119) [1,1,0,1,0,0,1,1,0,0]) ah ?_
  refine au.hole [1,1,1,0,1] ah (aF.bL hT iM hm 30 GJ V6 ah ?_)
  simp only[af.all,az,bG,beq_iff_eq,beq_eq_false_iff_ne,ne_eq]
  refine⟨aa,fun hz0 s' hv=>?_,fun hz0 s' hv=>?_⟩
  ·refine gv ?_
   exact(next hin (kB (ls:=qi) (l:=[6,7,8,26,27,28]) (vs:=sL n m z y 7 i) hv rfl rfl) ho (fun j hj=>ho0 j aa) (by rw[hval,val,show z i=0 by omega];simp))
  refine au.iX (i:=2) (y:=part (part (aI f119) [1,1,0,1,0,0,1,1,0,0]) [1,1,1,0,1,0,0]) ah
   (fun p:Nat×Nat×(Nat->Nat)=>⟨aB GJ (Og n m z y 7 i (z i) p.2.1 p.1),[(7,⟨true,true,1,n+m,aA p.2.2⟩)],8⟩)
   (fun p=>p.1<=m/\p.2.1<2^32/\(∀j,j<n+m->p.2.2 j<2^32)/\(∀j,i+m<=j->p.2.2 j=0)/\val (n+m) p.2.2+p.2.1*2^(32*(i+p.1))=val i z*val m y+z i*val p.1 y*2^(32*i))
   (fun p=>m-p.1) (0,0,o)
   (eA [(7,7)] hv h0 rfl ⟨aP,⟨rfl,ec rfl rfl rfl⟩,aP,aP,aP,aP,aP,aP,aP,aP,aP,trivial⟩
    ⟨⟨_,_,rfl,rfl,gC rfl fun j _=>rfl⟩,trivial⟩)
   ⟨by simp,by simp,ho,ho0,by simp[val,hval]⟩ ?_
  rintro⟨j,c,o⟩ ⟨hj,hc,ho,ho0,hval⟩
  simp only at hj hc ho ho0 hval
  refine au.bL hT iM hm 30 GJ acT ah ?_
  have hij:i64.wrap ((i:Int)+(j:Int))=((i+j:Nat):Int):=by rw[wrap_i64 aa aa];omega
  simp only[af.all,az,bD,bI,hij,bG,Nat.add_zero,beq_iff_eq]
  refine⟨fun h2=>?_,fun h2 s' hv=>gv ?_⟩
  ·have hjm:j<m:=aa
   obtain⟨m1,m2,m3⟩:=Nk hc hzi (hy j hjm) (ho (i+j) aa)
   rw[m1]
   refine⟨aa,aa,aa,aa,fun s' hv=>⟨(j+1,(c+z i*y j+o (i+j))/4294967296,cQ o (i+j) ((c+z i*y j+o (i+j))%4294967296)),?_,⟨by simp only;omega,m3,jn aa ho,fun k hk=>?_,?_⟩,by simp only;omega⟩⟩
   ·refine eA [(7,7)] hv h0 rfl ⟨aP,⟨rfl,ec rfl rfl rfl⟩,aP,aP,aP,aP,aP,⟨rfl,iA ?_⟩,aP,aP,⟨rfl,iA ?_⟩,trivial⟩
     ⟨⟨_,_,rfl,rfl,gC rfl fun k _=>iQ (by rw[kz]) k⟩,trivial⟩
    ·rw[mO];simp only;omega
    ·rw[wrap_i64 aa aa];simp only;omega
   ·exact(gG aa).trans (ho0 k hk)
   ·simp only
    rw[show 32*(i+(j+1))=32*((i+j)+1) by omega,je,val]
    have hset:=Hx (o:=o) (x:=(c+z i*y j+o (i+j))%4294967296) (show i+j<n+m by omega)
    exact JA rfl (Nat.div_add_mod _ _) hset (by rw[<-Nat.pow_add];congr 1;omega) hval
  ·have hjm:j=m:=aa
   subst hjm
   refine aF.weak ah (eA (vs:=Og n j z y 7 i (z i) c j) (ps:=[(7,⟨true,true,1,n+j,aA o⟩)]) (nx:=8) [(7,7)] hv h0 rfl
     ⟨aP,⟨rfl,ec rfl rfl rfl⟩,aP,aP,aP,aP,aP,aP,aP,aP,aP,trivial⟩
     ⟨⟨_,_,rfl,rfl,gC rfl fun j _=>rfl⟩,trivial⟩)
    (aF.bL hT iM hm 30 qi aao ah ?_)
   simp only[af.all,az,hij,bG,Nat.add_zero,beq_iff_eq]
   refine⟨aa,fun s' hv=>?_⟩
   have hf:(fun k=>if k=i+j then AV.int .u32 (u32.wrap (c:Int))else aA o k)=aA (cQ o (i+j) c):=by
    funext k
    exact iQ (wrap_u32 aa aa) k
   rw[hf]at hv
   refine next hin hv (jn hc ho) (fun k hk=>(gG aa).trans (ho0 k aa)) ?_
   rw[rZ aa (ho0 _ aa),hval,val,Nat.add_mul,Nat.mul_assoc,Nat.mul_assoc,Nat.mul_comm (val j y)]
 ·have hin:i=n:=aa
  subst hin
  refine su (gv ?_)
  refine(aF.weak ah (eA (vs:=sL i m z y 7 i) (ps:=[(7,⟨true,true,1,i+m,aA o⟩)]) (nx:=8) [(7,7)] hv h0 rfl ⟨aP,⟨rfl,ec rfl rfl rfl⟩,aP,aP,aP,trivial⟩
    ⟨⟨_,_,rfl,rfl,gC rfl fun j _=>rfl⟩,trivial⟩)
   (aF.fin hT iM hm 30 RR ah ?_))
  simp only[af.all,az,Nat.add_zero,kq]
  exact⟨⟨iu ho,aa⟩,eU (congrArg AV.mag hval)⟩
def Mr (A n B m:Nat):dZ:=aM (.mag (A*B)) [n<2^40,m<2^40]
theorem abh:bf P (cw (jy Mr)) 119:=
 dc (wg fun _ _ _ _ K hz hy need=>agu hz hy need.1 need.2 K [])
end Go.Am.B
