/- slices.Clone, slices.Equal, natural.Mul. -/
import Derived.Test.YtolopdkjjlfgjaaGreatB5
set_option linter.unusedVariables false
namespace Go.Am.B
open Go Go.Am.N AV Proofs.Tryz IntKind
theorem ad8:bC 181 f181:=bD func181
theorem abw:bC 117 f117:=bD func117
theorem adv:bC 119 f119:=bD func119
theorem XX {n:Nat} {b:Bool} {f:Nat->AV}:cy T [] [4] 30 f181 (aJ f181) ⟨bf 0 [.eJ b 1 n f],[],0⟩=
  some (af.fork b (af.leaf au.ret [nil]) (af.aj [(0:Nat)*1<=2^24,((0:Nat)+n)*((4:Nat)+1)*2<=2^47] (af.leaf au.ret [az 1 ((0:Nat)+n) fun i=>if i+0<0 then nth [] (int .u32 (0:Int)) (i+0)else f (i+0-0)]))):=ah
theorem adz {A B:Nat}:aK T [] [10] 30 [0,1,12,13,4] (before (aJ f117) [1,1,0,1]) ⟨bf 0 [.mag A,.mag B],[],0⟩=
  some (af.fork ((↑(nl A):Int)!=(↑(nl B):Int)) (af.leaf au.ret ([mag A,mag B,tuple [],tuple [],AV.bool false],[])) (af.leaf au.normal ([mag A,mag B,int .i64 (↑(nl A):Int),int .i64 (0:Int),AV.bool false],[]))):=ah
theorem ae7 {A B i:Nat}:aK T [] [14,24] 30 [0,1,12,13,4] [part (aJ f117) [1,1,0,1,0,0]] ⟨aH [0,1,12,13,4] [.mag A,.mag B,.int .i64 (nl A),.int .i64 i,.bool false],[],0⟩=
  let c3:Int:=(↑(nl A):Int);let c2:Int:=(↑i:Int);let c1:List AV:=[mag A,mag B,int .i64 c3,int .i64 c2,AV.bool false];some (af.fork (decide (c2<c3)) (af.aj [(0:Int)<=c2/\c2.toNat<nl A,(0:Int)<=c2/\c2.toNat<nl B] (af.fork ((↑(aE A c2.toNat):Int)!=(↑(aE B c2.toNat):Int)) (af.leaf au.ret (c1,[])) (af.leaf au.normal ([mag A,mag B,int .i64 c3,int .i64 (i64.wrap (c2+1)),AV.bool false],[])))) (af.leaf (au.exit 0) (c1,[]))):=ah
theorem adf {A B i:Nat}:dJ T [] [] 30 f117 (behind (aJ f117) [1,1,0,1]) ⟨aH [0,1,12,13,4] [.mag A,.mag B,.int .i64 (nl A),.int .i64 i,.bool false],[],0⟩=
  some (af.leaf au.ret [AV.bool true]):=ah
theorem WB {n m:Nat} {z y:Nat->Nat}:aK T G1 [] 30 [1,5,17,18,19] (before (aJ f119) [1,1,0,1]) ⟨bf 0 [.az 1 n (aD z),.az 1 m (aD y)],[],0⟩=
  let c1:Int:=i64.wrap ((↑n:Int)+(↑m:Int));some (af.aj [(0:Int)<=c1/\c1<=c1/\c1<=2^47/\c1*(↑(4:Nat):Int)<=2^47] (af.leaf au.normal ([az 1 m fun a=>int .u32 (↑(y a):Int),own 24576 1 0 c1.toNat,az 1 n fun a=>int .u32 (↑(z a):Int),int .i64 (↑n:Int),int .i64 (0:Int)],[(24576,aC.mk true true 1 c1.toNat fun x=>int .u32 (0:Int))]))):=ah
theorem adH {n m i:Nat} {z y o:Nat->Nat}:aK T G1 [20] 30 [1,5,17,18,19] (before (part (aJ f119) [1,1,0,1,0,0]) [1,1,0]) ⟨aH [1,5,17,18,19] [.az 1 m (aD y),.own 7 1 0 (n+m),.az 1 n (aD z),.int .i64 n,.int .i64 i],[(7,⟨true,true,1,n+m,aD o⟩)],8⟩=
  let c1:List AV×aG:=([az 1 m fun a=>int .u32 (↑(y a):Int),own 7 1 0 (n+m),az 1 n fun a=>int .u32 (↑(z a):Int),int .i64 (↑n:Int),int .i64 (↑i:Int)],[(7,aC.mk true true 1 (n+m) fun a=>int .u32 (↑(o a):Int))]);some (af.fork (decide ((↑i:Int)<(↑n:Int))) (af.leaf au.normal c1) (af.leaf (au.exit 0) c1)):=ah
theorem VV {n m i:Nat} {z y o:Nat->Nat}:aK T G1 [25] 30 [1,5,17,18,19,6,7,8,26,27,28] (before (part (aJ f119) [1,1,0,1,0,0,1,1,0,0]) [1,1,1,0,1]) ⟨aH [1,5,17,18,19] [.az 1 m (aD y),.own 7 1 0 (n+m),.az 1 n (aD z),.int .i64 n,.int .i64 i],[(7,⟨true,true,1,n+m,aD o⟩)],8⟩=
  let c8:Int:=(↑i:Int);let c7:AV:=int .i64 (↑n:Int);let c6:AV:=own 7 1 0 (n+m);let c4:AV:=az 1 n fun a=>int .u32 (↑(z a):Int);let c2:Nat×aC:=(7,aC.mk true true 1 (n+m) fun a=>int .u32 (↑(o a):Int));let c1:AV:=az 1 m fun a=>int .u32 (↑(y a):Int);let c5:Int:=(↑(z c8.toNat):Int);let c3:AV:=int .i64 c8;some (af.aj [(0:Int)<=c8/\c8.toNat<n] (af.fork (c5==0) (af.leaf (au.exit 1) ([c1,c6,c4,c7,c3,c3,int .u32 c5,tuple [],tuple [],tuple [],tuple []],[c2])) (af.leaf au.normal ([c1,c6,c4,c7,c3,c3,int .u32 c5,int .u64 (0:Int),c1,int .i64 (↑m:Int),int .i64 (0:Int)],[c2])))):=ah
theorem TF {n m i j x c:Nat} {z y o:Nat->Nat}:aK T G1 [29] 30 [1,5,17,18,19,6,7,8,26,27,28] [part (part (aJ f119) [1,1,0,1,0,0,1,1,0,0]) [1,1,1,0,1,0,0]] ⟨aH [1,5,17,18,19,6,7,8,26,27,28] [.az 1 m (aD y),.own 7 1 0 (n+m),.az 1 n (aD z),.int .i64 n,.int .i64 i,.int .i64 i,.int .u32 x,.int .u64 c,.az 1 m (aD y),.int .i64 m,.int .i64 j],[(7,⟨true,true,1,n+m,aD o⟩)],8⟩=
  let c12:AV:=int .i64 (↑n:Int);let c11:AV:=int .u32 (↑x:Int);let c10:AV:=int .i64 (↑m:Int);let c8:AV:=own 7 1 0 (n+m);let c7:Int:=(↑j:Int);let c6:AV:=az 1 n fun a=>int .u32 (↑(z a):Int);let c4:AV:=int .i64 (↑i:Int);let c3:AV:=az 1 m fun a=>int .u32 (↑(y a):Int);let c1:Int:=i64.wrap ((↑i:Int)+c7);let c5:Nat:=c1.toNat+0;let c9:List Prop:=[(0:Int)<=c1/\c1.toNat<n+m,c5<n+m];let c2:Int:=u64.wrap ((↑c:Int)+u64.wrap (u64.wrap (u64.wrap (↑x:Int)*u64.wrap (↑(y c7.toNat):Int))+u64.wrap (↑(o c5):Int)));some (af.fork (decide (c7<(↑m:Int))) (af.aj [(0:Int)<=c7/\c7.toNat<m] (af.aj c9 (af.aj c9 (af.aj [(0:Int)<=32] (af.leaf au.normal ([c3,c8,c6,c12,c4,c4,c11,int .u64 (c2.fdiv ((2:Int)^min (Int.toNat (32:Int)) u64.bits)),c3,c10,int .i64 (i64.wrap (c7+1))],[(7,aC.mk true true 1 (n+m) fun j=>if(j==c5)=true then int .u32 (u32.wrap c2)else aD o j)])))))) (af.leaf (au.exit 2) ([c3,c8,c6,c12,c4,c4,c11,int .u64 (↑c:Int),c3,c10,int .i64 c7],[(7,aC.mk true true 1 (n+m) fun a=>int .u32 (↑(o a):Int))]))):=ah
theorem TZ {n m i j x c:Nat} {z y o:Nat->Nat}:aK T G1 [] 30 [1,5,17,18,19] (behind (part (aJ f119) [1,1,0,1,0,0,1,1,0,0]) [1,1,1,0,1]) ⟨aH [1,5,17,18,19,6,7,8,26,27,28] [.az 1 m (aD y),.own 7 1 0 (n+m),.az 1 n (aD z),.int .i64 n,.int .i64 i,.int .i64 i,.int .u32 x,.int .u64 c,.az 1 m (aD y),.int .i64 m,.int .i64 j],[(7,⟨true,true,1,n+m,aD o⟩)],8⟩=
  let c1:Int:=i64.wrap ((↑i:Int)+(↑m:Int));let c2:Nat:=c1.toNat+0;some (af.aj [(0:Int)<=c1/\c1.toNat<n+m,c2<n+m] (af.leaf au.normal ([az 1 m fun a=>int .u32 (↑(y a):Int),own 7 1 0 (n+m),az 1 n fun a=>int .u32 (↑(z a):Int),int .i64 (↑n:Int),int .i64 (↑i:Int)],[(7,aC.mk true true 1 (n+m) fun j=>if(j==c2)=true then int .u32 (u32.wrap (↑c:Int))else aD o j)]))):=ah
theorem Tv {n m i:Nat} {z y o:Nat->Nat}:aK T G1 [] 30 [1,5,17,18,19] (behind (part (aJ f119) [1,1,0,1,0,0]) [1,1,0]) ⟨aH [1,5,17,18,19] [.az 1 m (aD y),.own 7 1 0 (n+m),.az 1 n (aD z),.int .i64 n,.int .i64 i],[(7,⟨true,true,1,n+m,aD o⟩)],8⟩=
  some (af.leaf au.normal ([az 1 m fun a=>int .u32 (↑(y a):Int),own 7 1 0 (n+m),az 1 n fun a=>int .u32 (↑(z a):Int),int .i64 (↑n:Int),int .i64 (i64.wrap ((↑i:Int)+1))],[(7,aC.mk true true 1 (n+m) fun a=>int .u32 (↑(o a):Int))])):=ah
theorem Te {n m i:Nat} {z y o:Nat->Nat}:dJ T G1 [] 30 f119 (behind (aJ f119) [1,1,0,1]) ⟨aH [1,5,17,18,19] [.az 1 m (aD y),.own 7 1 0 (n+m),.az 1 n (aD z),.int .i64 n,.int .i64 i],[(7,⟨true,true,1,n+m,aD o⟩)],8⟩=
  some (af.aj [fu (n+m) fun i=>aD o (i+0),n+m<2^62] (af.leaf au.ret [mag (val (n+m) fun i=>numOf (aD o (i+0)))])):=ah
theorem Dt {n:Nat} {f:Nat->AV} (hn:n<2^40) (K:Nat):aY P 181 K [.az 1 n f] [] (aT (.az 1 n f) []):=by
 refine EW fun b hb=>?_
 refine cB hT cK hm ad8 rfl br rfl 30 XX (fun _=>?_) K []
 simp only[af.all,aF]
 refine⟨fun h=>?_,fun h=>⟨⟨aa,aa⟩,zj aa fun i hi=>by simp⟩⟩
 rw[hb h]
 exact mC aa
def Ai:Spec:=cw fun l=>match l with
 |[.mag N]=>some (aT (.mag N) [nl N<2^40])
 |[.nil]=>some (aT (.mag 0) [])
 |[.az es n f]=>if es==1 then some (aT (.az 1 n f) [n<2^40])else none
 |_=>none
theorem Gm:bF P Ai 181:=by
 refine cY fun K args r hk hs _=>?_
 split at hs
 ·rename_i N
  simp only[aB]at hs
  subst hs
  intro need
  have:=je (args:=[.mag N]) (Dt (n:=nl N) (f:=fun i=>.int .u32 (aE N i)) need K) rfl ⟨Ht rfl fun i hi=>rfl,trivial⟩ []
  exact LZ (l':=[]) this id rfl rfl (l8 rfl fun i hi=>rfl) trivial
 ·simp only[aB]at hs
  subst hs
  intro need
  have:=je (args:=[.nil]) (Dt (n:=0) (f:=fun _=>.nil) aa K) rfl ⟨mC aa,trivial⟩ []
  exact LZ (l':=[]) this id rfl rfl (l8 (by simp[nl]) fun i hi=>aa) trivial
 ·rename_i es n f
  split at hs
  ·rename_i he
   have he:es=1:=by simpa using he
   subst he
   simp only[aB]at hs
   subst hs
   exact fun need=>Dt need K trivial
  ·simp at hs
 ·simp at hs
theorem X9 {A B:Nat} (hA:nl A<2^40) (hB:nl B<2^40) (K:Nat) (pre:aG):aY P 117 K [.mag A,.mag B] pre (aT (.bool (decide (A=B))) []):=by
 refine lO hT abw rfl br rfl (fun _ c h0=>?_) K pre
 refine aA.hole [1,1,0,1] ah (aI.bM hT cK hm 30 [0,1,12,13,4] adz ah ?_)
 simp only[af.all,bne_iff_ne,ne_eq,Int.natCast_inj,bne_eq_false_iff_eq]
 refine⟨fun hb s' hv=>?_,fun hb s' hv=>?_⟩
 ·exact iS (us:=[.bool false]) (.inr rfl) hv ah (iV (decide_eq_false fun h=>hb (by rw[h])).symm)
 refine aA.jG (i:=0) (y:=part (aJ f117) [1,1,0,1,0,0]) ah
  (fun i:Nat=>⟨aH [0,1,12,13,4] [.mag A,.mag B,.int .i64 (nl A),.int .i64 i,.bool false],[],0⟩)
  (fun i=>i<=nl A/\∀j,j<i->aE A j=aE B j) (fun i=>nl A-i) 0
  (eC [] hv h0 rfl ⟨aU,aU,aU,aU,aU,trivial⟩ trivial) ⟨aa,fun j h=>aa⟩ ?_
 rintro i ⟨hi,hlim⟩
 refine aA.bM hT cK hm 30 [0,1,12,13,4] ae7 ah ?_
 simp only[af.all,aF,bI,bO,bne_iff_ne,ne_eq,Int.natCast_inj,bne_eq_false_iff_eq,bJ]
 refine⟨fun h1=>⟨⟨aa,aa⟩,fun hne s' hv=>?_,fun heq s' hv=>?_⟩,fun h1 s' hv=>?_⟩
 ·exact iS (us:=[.bool false]) (.inr rfl) hv ah (iV (decide_eq_false fun h=>hne (by rw[h])).symm)
 ·refine⟨i+1,eC [] hv h0 rfl ⟨aU,aU,aU,⟨rfl,iI (by rw[wrap_i64 aa aa];omega)⟩,aU,trivial⟩ trivial,⟨aa,fun j hj=>?_⟩,aa⟩
  by_cases h:j=i
  ·subst h;exact heq
  ·exact hlim j aa
 ·have hAB:A=B:=D0 hb fun j hj=>hlim j aa
  exact aI.weak ah (eC (vs:=[.mag A,.mag B,.int .i64 (nl A),.int .i64 i,.bool false]) (ps:=[]) (nx:=0) [] hv h0 rfl ⟨aU,aU,aU,aU,aU,trivial⟩ trivial)
   (aI.fin hT cK hm 30 adf ah (iV (decide_eq_true hAB).symm))
def kj:AV->Option Nat
 |.mag N=>some N
 |.nil=>some 0
 |_=>none
theorem mX {a:AV} {N:Nat} (h:kj a=some N):bg a (.mag N):=by
 cases a<;>simp only[kj,reduceCtorEq,aB]at h
 case mag M=>subst h;exact .refl _
 case nil=>subst h;exact mM
def E4:Spec:=cw fun l=>match l with
 |[a,b]=>match kj a,kj b with
  |some A,some B=>some (aT (.bool (decide (A=B))) [nl A<2^40,nl B<2^40])
  |_,_=>none
 |_=>none
theorem Pc:bF P E4 117:=by
 refine cY fun K args r hk hs _=>?_
 split at hs
 ·split at hs
  ·rename_i A B hA hB
   simp only[aB]at hs
   subst hs
   exact fun need=>je (X9 need.1 need.2 K []) hk ⟨mX hA,mX hB,trivial⟩ [] trivial
  ·simp at hs
 ·simp at hs
abbrev qZ:List Nat:=[1,5,17,18,19]
abbrev rM (n m:Nat) (z y:Nat->Nat) (K i:Nat):List AV:=[.az 1 m (aD y),.own K 1 0 (n+m),.az 1 n (aD z),.int .i64 n,.int .i64 i]
abbrev GK:List Nat:=[1,5,17,18,19,6,7,8,26,27,28]
abbrev IZ (n m:Nat) (z y:Nat->Nat) (K i x c j:Nat):List AV:=[.az 1 m (aD y),.own K 1 0 (n+m),.az 1 n (aD z),.int .i64 n,.int .i64 i,.int .i64 i,.int .u32 x,.int .u64 c,.az 1 m (aD y),.int .i64 m,.int .i64 j]
theorem X4 {n m:Nat} {z y:Nat->Nat} (hz:∀i,i<n->z i<2^32) (hy:∀i,i<m->y i<2^32) (hn:n<2^40) (hm':m<2^40) (K:Nat) (pre:aG):
  aY P 119 K [.az 1 n (aD z),.az 1 m (aD y)] pre (aT (.mag (val n z*val m y)) []):=by
 refine lO hT adv rfl br rfl (fun _ c0 h0=>?_) K pre
 refine aA.hole [1,1,0,1] ah (aI.bM hT iY hm 30 qZ WB ah ?_)
 have hw:i64.wrap ((n:Int)+(m:Int))=((n+m:Nat):Int):=by rw[wrap_i64 aa aa];omega
 simp only[af.all,aF,hw,bJ]
 refine⟨aa,fun s' hv=>?_⟩
 refine aA.jG (i:=0) (y:=part (aJ f119) [1,1,0,1,0,0]) ah
  (fun p:Nat×(Nat->Nat)=>⟨aH qZ (rM n m z y 7 p.1),[(7,⟨true,true,1,n+m,aD p.2⟩)],8⟩)
  (fun p=>p.1<=n/\(∀j,j<n+m->p.2 j<2^32)/\(∀j,p.1+m<=j->p.2 j=0)/\val (n+m) p.2=val p.1 z*val m y)
  (fun p=>n-p.1) (0,fun _=>0)
  (eC [(7,24576)] hv h0 rfl ⟨aU,⟨rfl,e9 rfl rfl rfl⟩,aU,aU,aU,trivial⟩
   ⟨⟨_,_,rfl,rfl,gV rfl fun j _=>rfl⟩,trivial⟩)
  ⟨by simp,fun j _=>by simp,fun j _=>rfl,?_⟩ ?_
 ·simp only
  rw[oM (k:=0) aa fun _ _ _=>rfl]
  simp[val]
 rintro⟨i,o⟩ ⟨hi,ho,ho0,hval⟩
 simp only at hi ho ho0 hval
 have next:∀{o':Nat->Nat} {s':aL},i<n->bp qZ s'=some (rM n m z y 7 i,[(7,⟨true,true,1,n+m,aD o'⟩)])->(∀j,j<n+m->o' j<2^32)->(∀j,i+1+m<=j->o' j=0)->
   val (n+m) o'=val (i+1) z*val m y->∀{QF:au->aL->Prop},
   aI P c0 f119.ntmps (behind (part (aJ f119) [1,1,0,1,0,0]) [1,1,0]) s' (fM (fun s'=>∃k:Nat×(Nat->Nat),(∃ρ,Le c0 ρ s' ⟨aH qZ (rM n m z y 7 k.1),[(7,⟨true,true,1,n+m,aD k.2⟩)],8⟩)/\
    (k.1<=n/\(∀j,j<n+m->k.2 j<2^32)/\(∀j,k.1+m<=j->k.2 j=0)/\val (n+m) k.2=val k.1 z*val m y)/\n-k.1<n-i) QF):=by
  intro o' s' hin hv g1 g2 g3 QF
  refine aI.weak ah (eC (vs:=rM n m z y 7 i) (ps:=[(7,⟨true,true,1,n+m,aD o'⟩)]) (nx:=8) [(7,7)] hv h0 rfl ⟨aU,⟨rfl,e9 rfl rfl rfl⟩,aU,aU,aU,trivial⟩
    ⟨⟨_,_,rfl,rfl,gV rfl fun j _=>rfl⟩,trivial⟩)
   (aI.bM hT iY hm 30 qZ Tv ah ?_)
  intro s' hv
  exact⟨(i+1,o'),eC [(7,7)] hv h0 rfl ⟨aU,⟨rfl,e9 rfl rfl rfl⟩,aU,aU,⟨rfl,iI (by rw[wrap_i64 aa aa];simp only;omega)⟩,trivial⟩
    ⟨⟨_,_,rfl,rfl,gV rfl fun j _=>rfl⟩,trivial⟩,⟨by simp only;omega,g1,g2,g3⟩,by simp only;omega⟩
 refine aA.hole [1,1,0] ah (aI.bM hT iY hm 30 qZ adH ah ?_)
 simp only[af.all,bI,bO]
 refine⟨fun h1 s' hv=>?_,fun h1 s' hv=>?_⟩
 ·have hin:i<n:=aa
  have hzi:=hz i hin
  refine aA.mE (eC (vs:=rM n m z y 7 i) (ps:=[(7,⟨true,true,1,n+m,aD o⟩)]) (nx:=8) [(7,7)] hv h0 rfl ⟨aU,⟨rfl,e9 rfl rfl rfl⟩,aU,aU,aU,trivial⟩
    ⟨⟨_,_,rfl,rfl,gV rfl fun j _=>rfl⟩,trivial⟩) ?_
  refine aA.qI (i:=1) (y:=part (aJ f119) [1,1,0,1,0,0,1,1,0,0]) ah ?_
  refine aA.hole [1,1,1,0,1] ah (aI.bM hT iY hm 30 GK VV ah ?_)
  simp only[af.all,aF,bJ,beq_iff_eq,beq_eq_false_iff_ne,ne_eq]
  refine⟨aa,fun hz0 s' hv=>?_,fun hz0 s' hv=>?_⟩
  ·refine gD ?_
   exact(next hin (kK (ls:=qZ) (l:=[6,7,8,26,27,28]) (vs:=rM n m z y 7 i) hv rfl rfl) ho (fun j hj=>ho0 j aa) (by rw[hval,val,show z i=0 by omega];simp))
  refine aA.jG (i:=2) (y:=part (part (aJ f119) [1,1,0,1,0,0,1,1,0,0]) [1,1,1,0,1,0,0]) ah
   (fun p:Nat×Nat×(Nat->Nat)=>⟨aH GK (IZ n m z y 7 i (z i) p.2.1 p.1),[(7,⟨true,true,1,n+m,aD p.2.2⟩)],8⟩)
   (fun p=>p.1<=m/\p.2.1<2^32/\(∀j,j<n+m->p.2.2 j<2^32)/\(∀j,i+m<=j->p.2.2 j=0)/\val (n+m) p.2.2+p.2.1*2^(32*(i+p.1))=val i z*val m y+z i*val p.1 y*2^(32*i))
   (fun p=>m-p.1) (0,0,o)
   (eC [(7,7)] hv h0 rfl ⟨aU,⟨rfl,e9 rfl rfl rfl⟩,aU,aU,aU,aU,aU,aU,aU,aU,aU,trivial⟩
    ⟨⟨_,_,rfl,rfl,gV rfl fun j _=>rfl⟩,trivial⟩)
   ⟨by simp,by simp,ho,ho0,by simp[val,hval]⟩ ?_
  rintro⟨j,c,o⟩ ⟨hj,hc,ho,ho0,hval⟩
  simp only at hj hc ho ho0 hval
  refine aA.bM hT iY hm 30 GK TF ah ?_
  have hij:i64.wrap ((i:Int)+(j:Int))=((i+j:Nat):Int):=by rw[wrap_i64 aa aa];omega
  simp only[af.all,aF,bI,bO,hij,bJ,Nat.add_zero,beq_iff_eq]
  refine⟨fun h2=>?_,fun h2 s' hv=>gD ?_⟩
  ·have hjm:j<m:=aa
   obtain⟨m1,m2,m3⟩:=Nr hc hzi (hy j hjm) (ho (i+j) aa)
   rw[m1]
   refine⟨aa,aa,aa,aa,fun s' hv=>⟨(j+1,(c+z i*y j+o (i+j))/4294967296,cP o (i+j) ((c+z i*y j+o (i+j))%4294967296)),?_,⟨by simp only;omega,m3,jE aa ho,fun k hk=>?_,?_⟩,by simp only;omega⟩⟩
   ·refine eC [(7,7)] hv h0 rfl ⟨aU,⟨rfl,e9 rfl rfl rfl⟩,aU,aU,aU,aU,aU,⟨rfl,iI ?_⟩,aU,aU,⟨rfl,iI ?_⟩,trivial⟩
     ⟨⟨_,_,rfl,rfl,gV rfl fun k _=>jg (by rw[k9]) k⟩,trivial⟩
    ·rw[nk];simp only;omega
    ·rw[wrap_i64 aa aa];simp only;omega
   ·exact(g8 aa).trans (ho0 k hk)
   ·simp only
    rw[show 32*(i+(j+1))=32*((i+j)+1) by omega,jn,val]
    have hset:=FO (o:=o) (x:=(c+z i*y j+o (i+j))%4294967296) (show i+j<n+m by omega)
    exact Ph rfl (Nat.div_add_mod _ _) hset (by rw[<-Nat.pow_add];congr 1;omega) hval
  ·have hjm:j=m:=aa
   subst hjm
   refine aI.weak ah (eC (vs:=IZ n j z y 7 i (z i) c j) (ps:=[(7,⟨true,true,1,n+j,aD o⟩)]) (nx:=8) [(7,7)] hv h0 rfl
     ⟨aU,⟨rfl,e9 rfl rfl rfl⟩,aU,aU,aU,aU,aU,aU,aU,aU,aU,trivial⟩
     ⟨⟨_,_,rfl,rfl,gV rfl fun j _=>rfl⟩,trivial⟩)
    (aI.bM hT iY hm 30 qZ TZ ah ?_)
   simp only[af.all,aF,hij,bJ,Nat.add_zero,beq_iff_eq]
   refine⟨aa,fun s' hv=>?_⟩
   have hf:(fun k=>if k=i+j then AV.int .u32 (u32.wrap (c:Int))else aD o k)=aD (cP o (i+j) c):=by
    funext k
    exact jg (wrap_u32 aa aa) k
   rw[hf]at hv
   refine next hin hv (jE hc ho) (fun k hk=>(g8 aa).trans (ho0 k aa)) ?_
   rw[tN aa (ho0 _ aa),hval,val,Nat.add_mul,Nat.mul_assoc,Nat.mul_assoc,Nat.mul_comm (val j y)]
 ·have hin:i=n:=aa
  subst hin
  refine sP (gD ?_)
  refine(aI.weak ah (eC (vs:=rM i m z y 7 i) (ps:=[(7,⟨true,true,1,i+m,aD o⟩)]) (nx:=8) [(7,7)] hv h0 rfl ⟨aU,⟨rfl,e9 rfl rfl rfl⟩,aU,aU,aU,trivial⟩
    ⟨⟨_,_,rfl,rfl,gV rfl fun j _=>rfl⟩,trivial⟩)
   (aI.fin hT iY hm 30 Te ah ?_))
  simp only[af.all,aF,Nat.add_zero,kX]
  exact⟨⟨iJ ho,aa⟩,fo (congrArg AV.mag hval)⟩
def OY (A n B m:Nat):en:=aT (.mag (A*B)) [n<2^40,m<2^40]
theorem aeD:bF P (cw (jH OY)) 119:=
 cY (vj fun _ _ _ _ K hz hy need=>X4 hz hy need.1 need.2 K [])
end Go.Am.B
