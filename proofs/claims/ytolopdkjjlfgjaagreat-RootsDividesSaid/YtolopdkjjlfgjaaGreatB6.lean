/- slices.Clone, slices.Equal, natural.Mul. -/
import Derived.Test.YtolopdkjjlfgjaaGreatB5
set_option linter.unusedVariables false
namespace Go.Am.B
open Go Go.Am.N AV Proofs.Tryz IntKind
theorem aaa:aX 181 f181:=aZ func181
theorem OP:aX 117 f117:=aZ func117
theorem aes:aX 119 f119:=aZ func119
theorem Nx {n:Nat} {b:Bool} {f:Nat->AV}:bR T [] [4] 30 f181 (aH f181) ⟨aT 0 [.dU b 1 n f],[],0⟩=
  some (af.fork b (af.leaf aq.ret [nil]) (af.aj [(0:Nat)*1<=2^24,((0:Nat)+n)*((4:Nat)+1)*2<=2^47] (af.leaf aq.ret [ak 1 ((0:Nat)+n) fun i=>if i+0<0 then nth [] (int .u32 (0:Int)) (i+0)else f (i+0-0)]))):=ah
theorem OZ {A B:Nat}:aG T [] [10] 30 [0,1,12,13,4] (before (aH f117) [1,1,0,1]) ⟨aT 0 [.mag A,.mag B],[],0⟩=
  some (af.fork ((↑(nl A):Int)!=(↑(nl B):Int)) (af.leaf aq.ret ([mag A,mag B,tuple [],tuple [],AV.bool false],[])) (af.leaf aq.normal ([mag A,mag B,int .i64 (↑(nl A):Int),int .i64 (0:Int),AV.bool false],[]))):=ah
theorem abJ {A B i:Nat}:aG T [] [14,24] 30 [0,1,12,13,4] [part (aH f117) [1,1,0,1,0,0]] ⟨aC [0,1,12,13,4] [.mag A,.mag B,.int .i64 (nl A),.int .i64 i,.bool false],[],0⟩=
  let c3:Int:=(↑(nl A):Int);let c2:Int:=(↑i:Int);let c1:List AV:=[mag A,mag B,int .i64 c3,int .i64 c2,AV.bool false];some (af.fork (decide (c2<c3)) (af.aj [(0:Int)<=c2/\c2.toNat<nl A,(0:Int)<=c2/\c2.toNat<nl B] (af.fork ((↑(aD A c2.toNat):Int)!=(↑(aD B c2.toNat):Int)) (af.leaf aq.ret (c1,[])) (af.leaf aq.normal ([mag A,mag B,int .i64 c3,int .i64 (i64.wrap (c2+1)),AV.bool false],[])))) (af.leaf (aq.exit 0) (c1,[]))):=ah
theorem Tw {A B i:Nat}:cA T [] [] 30 f117 (behind (aH f117) [1,1,0,1]) ⟨aC [0,1,12,13,4] [.mag A,.mag B,.int .i64 (nl A),.int .i64 i,.bool false],[],0⟩=
  some (af.leaf aq.ret [AV.bool true]):=ah
theorem Tf {n m:Nat} {z y:Nat->Nat}:aG T G1 [] 30 [1,5,17,18,19] (before (aH f119) [1,1,0,1]) ⟨aT 0 [.ak 1 n (aB z),.ak 1 m (aB y)],[],0⟩=
  let c1:Int:=i64.wrap ((↑n:Int)+(↑m:Int));some (af.aj [(0:Int)<=c1/\c1<=c1/\c1<=2^47/\c1*(↑(4:Nat):Int)<=2^47] (af.leaf aq.normal ([ak 1 m fun a=>int .u32 (↑(y a):Int),own 24576 1 0 c1.toNat,ak 1 n fun a=>int .u32 (↑(z a):Int),int .i64 (↑n:Int),int .i64 (0:Int)],[(24576,ax.mk true true 1 c1.toNat fun x=>int .u32 (0:Int))]))):=ah
theorem SB {n m i:Nat} {z y o:Nat->Nat}:aG T G1 [20] 30 [1,5,17,18,19] (before (part (aH f119) [1,1,0,1,0,0]) [1,1,0]) ⟨aC [1,5,17,18,19] [.ak 1 m (aB y),.own 7 1 0 (n+m),.ak 1 n (aB z),.int .i64 n,.int .i64 i],[(7,⟨true,true,1,n+m,aB o⟩)],8⟩=
  let c1:List AV×aE:=([ak 1 m fun a=>int .u32 (↑(y a):Int),own 7 1 0 (n+m),ak 1 n fun a=>int .u32 (↑(z a):Int),int .i64 (↑n:Int),int .i64 (↑i:Int)],[(7,ax.mk true true 1 (n+m) fun a=>int .u32 (↑(o a):Int))]);some (af.fork (decide ((↑i:Int)<(↑n:Int))) (af.leaf aq.normal c1) (af.leaf (aq.exit 0) c1)):=ah
theorem adp {n m i:Nat} {z y o:Nat->Nat}:aG T G1 [25] 30 [1,5,17,18,19,6,7,8,26,27,28] (before (part (aH f119) [1,1,0,1,0,0,1,1,0,0]) [1,1,1,0,1]) ⟨aC [1,5,17,18,19] [.ak 1 m (aB y),.own 7 1 0 (n+m),.ak 1 n (aB z),.int .i64 n,.int .i64 i],[(7,⟨true,true,1,n+m,aB o⟩)],8⟩=
  let c8:Int:=(↑i:Int);let c7:AV:=int .i64 (↑n:Int);let c6:AV:=own 7 1 0 (n+m);let c4:AV:=ak 1 n fun a=>int .u32 (↑(z a):Int);let c2:Nat×ax:=(7,ax.mk true true 1 (n+m) fun a=>int .u32 (↑(o a):Int));let c1:AV:=ak 1 m fun a=>int .u32 (↑(y a):Int);let c5:Int:=(↑(z c8.toNat):Int);let c3:AV:=int .i64 c8;some (af.aj [(0:Int)<=c8/\c8.toNat<n] (af.fork (c5==0) (af.leaf (aq.exit 1) ([c1,c6,c4,c7,c3,c3,int .u32 c5,tuple [],tuple [],tuple [],tuple []],[c2])) (af.leaf aq.normal ([c1,c6,c4,c7,c3,c3,int .u32 c5,int .u64 (0:Int),c1,int .i64 (↑m:Int),int .i64 (0:Int)],[c2])))):=ah
theorem VS {n m i j x c:Nat} {z y o:Nat->Nat}:aG T G1 [29] 30 [1,5,17,18,19,6,7,8,26,27,28] [part (part (aH f119) [1,1,0,1,0,0,1,1,0,0]) [1,1,1,0,1,0,0]] ⟨aC [1,5,17,18,19,6,7,8,26,27,28] [.ak 1 m (aB y),.own 7 1 0 (n+m),.ak 1 n (aB z),.int .i64 n,.int .i64 i,.int .i64 i,.int .u32 x,.int .u64 c,.ak 1 m (aB y),.int .i64 m,.int .i64 j],[(7,⟨true,true,1,n+m,aB o⟩)],8⟩=
  let c12:AV:=int .i64 (↑n:Int);let c11:AV:=int .u32 (↑x:Int);let c10:AV:=int .i64 (↑m:Int);let c8:AV:=own 7 1 0 (n+m);let c7:Int:=(↑j:Int);let c6:AV:=ak 1 n fun a=>int .u32 (↑(z a):Int);let c4:AV:=int .i64 (↑i:Int);let c3:AV:=ak 1 m fun a=>int .u32 (↑(y a):Int);let c1:Int:=i64.wrap ((↑i:Int)+c7);let c5:Nat:=c1.toNat+0;let c9:List Prop:=[(0:Int)<=c1/\c1.toNat<n+m,c5<n+m];let c2:Int:=u64.wrap ((↑c:Int)+u64.wrap (u64.wrap (u64.wrap (↑x:Int)*u64.wrap (↑(y c7.toNat):Int))+u64.wrap (↑(o c5):Int)));some (af.fork (decide (c7<(↑m:Int))) (af.aj [(0:Int)<=c7/\c7.toNat<m] (af.aj c9 (af.aj c9 (af.aj [(0:Int)<=32] (af.leaf aq.normal ([c3,c8,c6,c12,c4,c4,c11,int .u64 (c2.fdiv ((2:Int)^min (Int.toNat (32:Int)) u64.bits)),c3,c10,int .i64 (i64.wrap (c7+1))],[(7,ax.mk true true 1 (n+m) fun j=>if(j==c5)=true then int .u32 (u32.wrap c2)else aB o j)])))))) (af.leaf (aq.exit 2) ([c3,c8,c6,c12,c4,c4,c11,int .u64 (↑c:Int),c3,c10,int .i64 c7],[(7,ax.mk true true 1 (n+m) fun a=>int .u32 (↑(o a):Int))]))):=ah
theorem aez {n m i j x c:Nat} {z y o:Nat->Nat}:aG T G1 [] 30 [1,5,17,18,19] (behind (part (aH f119) [1,1,0,1,0,0,1,1,0,0]) [1,1,1,0,1]) ⟨aC [1,5,17,18,19,6,7,8,26,27,28] [.ak 1 m (aB y),.own 7 1 0 (n+m),.ak 1 n (aB z),.int .i64 n,.int .i64 i,.int .i64 i,.int .u32 x,.int .u64 c,.ak 1 m (aB y),.int .i64 m,.int .i64 j],[(7,⟨true,true,1,n+m,aB o⟩)],8⟩=
  let c1:Int:=i64.wrap ((↑i:Int)+(↑m:Int));let c2:Nat:=c1.toNat+0;some (af.aj [(0:Int)<=c1/\c1.toNat<n+m,c2<n+m] (af.leaf aq.normal ([ak 1 m fun a=>int .u32 (↑(y a):Int),own 7 1 0 (n+m),ak 1 n fun a=>int .u32 (↑(z a):Int),int .i64 (↑n:Int),int .i64 (↑i:Int)],[(7,ax.mk true true 1 (n+m) fun j=>if(j==c2)=true then int .u32 (u32.wrap (↑c:Int))else aB o j)]))):=ah
theorem O0 {n m i:Nat} {z y o:Nat->Nat}:aG T G1 [] 30 [1,5,17,18,19] (behind (part (aH f119) [1,1,0,1,0,0]) [1,1,0]) ⟨aC [1,5,17,18,19] [.ak 1 m (aB y),.own 7 1 0 (n+m),.ak 1 n (aB z),.int .i64 n,.int .i64 i],[(7,⟨true,true,1,n+m,aB o⟩)],8⟩=
  some (af.leaf aq.normal ([ak 1 m fun a=>int .u32 (↑(y a):Int),own 7 1 0 (n+m),ak 1 n fun a=>int .u32 (↑(z a):Int),int .i64 (↑n:Int),int .i64 (i64.wrap ((↑i:Int)+1))],[(7,ax.mk true true 1 (n+m) fun a=>int .u32 (↑(o a):Int))])):=ah
theorem Sg {n m i:Nat} {z y o:Nat->Nat}:cA T G1 [] 30 f119 (behind (aH f119) [1,1,0,1]) ⟨aC [1,5,17,18,19] [.ak 1 m (aB y),.own 7 1 0 (n+m),.ak 1 n (aB z),.int .i64 n,.int .i64 i],[(7,⟨true,true,1,n+m,aB o⟩)],8⟩=
  some (af.aj [ej (n+m) fun i=>aB o (i+0),n+m<2^62] (af.leaf aq.ret [mag (val (n+m) fun i=>numOf (aB o (i+0)))])):=ah
theorem DE {n:Nat} {f:Nat->AV} (hn:n<2^40) (K:Nat):aP P 181 K [.ak 1 n f] [] (aK (.ak 1 n f) []):=by
 refine ES fun b hb=>?_
 refine bZ hT b9 hm aaa rfl aW rfl 30 Nx (fun _=>?_) K []
 simp only[af.all,aA]
 refine⟨fun h=>?_,fun h=>⟨⟨aa,aa⟩,tH aa fun i hi=>by simp⟩⟩
 rw[hb h]
 exact jS aa
def zC:Spec:=bU fun l=>match l with
 |[.mag N]=>some (aK (.mag N) [nl N<2^40])
 |[.nil]=>some (aK (.mag 0) [])
 |[.ak es n f]=>if es==1 then some (aK (.ak 1 n f) [n<2^40])else none
 |_=>none
theorem EE:bf P zC 181:=by
 refine cJ fun K args r hk hs _=>?_
 split at hs
 ·rename_i N
  simp only[ay]at hs
  subst hs
  intro need
  have:=gD (args:=[.mag N]) (DE (n:=nl N) (f:=fun i=>.int .u32 (aD N i)) need K) rfl ⟨Jo rfl fun i hi=>rfl,trivial⟩ []
  exact FH (l':=[]) this id rfl rfl (jY rfl fun i hi=>rfl) trivial
 ·simp only[ay]at hs
  subst hs
  intro need
  have:=gD (args:=[.nil]) (DE (n:=0) (f:=fun _=>.nil) aa K) rfl ⟨jS aa,trivial⟩ []
  exact FH (l':=[]) this id rfl rfl (jY (by simp[nl]) fun i hi=>aa) trivial
 ·rename_i es n f
  split at hs
  ·rename_i he
   have he:es=1:=by simpa using he
   subst he
   simp only[ay]at hs
   subst hs
   exact fun need=>DE need K trivial
  ·simp at hs
 ·simp at hs
theorem S7 {A B:Nat} (hA:nl A<2^40) (hB:nl B<2^40) (K:Nat) (pre:aE):aP P 117 K [.mag A,.mag B] pre (aK (.bool (decide (A=B))) []):=by
 refine jC hT OP rfl aW rfl (fun _ c h0=>?_) K pre
 refine au.hole [1,1,0,1] ah (aF.bD hT b9 hm 30 [0,1,12,13,4] OZ ah ?_)
 simp only[af.all,bne_iff_ne,ne_eq,Int.natCast_inj,bne_eq_false_iff_eq]
 refine⟨fun hb s' hv=>?_,fun hb s' hv=>?_⟩
 ·exact gF (us:=[.bool false]) (.inr rfl) hv ah (iB (decide_eq_false fun h=>hb (by rw[h])).symm)
 refine au.g7 (i:=0) (y:=part (aH f117) [1,1,0,1,0,0]) ah
  (fun i:Nat=>⟨aC [0,1,12,13,4] [.mag A,.mag B,.int .i64 (nl A),.int .i64 i,.bool false],[],0⟩)
  (fun i=>i<=nl A/\∀j,j<i->aD A j=aD B j) (fun i=>nl A-i) 0
  (dI [] hv h0 rfl ⟨aO,aO,aO,aO,aO,trivial⟩ trivial) ⟨aa,fun j h=>aa⟩ ?_
 rintro i ⟨hi,hlim⟩
 refine au.bD hT b9 hm 30 [0,1,12,13,4] abJ ah ?_
 simp only[af.all,aA,bw,bB,bne_iff_ne,ne_eq,Int.natCast_inj,bne_eq_false_iff_eq,bu]
 refine⟨fun h1=>⟨⟨aa,aa⟩,fun hne s' hv=>?_,fun heq s' hv=>?_⟩,fun h1 s' hv=>?_⟩
 ·exact gF (us:=[.bool false]) (.inr rfl) hv ah (iB (decide_eq_false fun h=>hne (by rw[h])).symm)
 ·refine⟨i+1,dI [] hv h0 rfl ⟨aO,aO,aO,⟨rfl,gA (by rw[wrap_i64 aa aa];omega)⟩,aO,trivial⟩ trivial,⟨aa,fun j hj=>?_⟩,aa⟩
  by_cases h:j=i
  ·subst h;exact heq
  ·exact hlim j aa
 ·have hAB:A=B:=Di hb fun j hj=>hlim j aa
  exact aF.weak ah (dI (vs:=[.mag A,.mag B,.int .i64 (nl A),.int .i64 i,.bool false]) (ps:=[]) (nx:=0) [] hv h0 rfl ⟨aO,aO,aO,aO,aO,trivial⟩ trivial)
   (aF.fin hT b9 hm 30 Tw ah (iB (decide_eq_true hAB).symm))
def iY:AV->Option Nat
 |.mag N=>some N
 |.nil=>some 0
 |_=>none
theorem kG {a:AV} {N:Nat} (h:iY a=some N):bA a (.mag N):=by
 cases a<;>simp only[iY,reduceCtorEq,ay]at h
 case mag M=>subst h;exact .refl _
 case nil=>subst h;exact kz
def Da:Spec:=bU fun l=>match l with
 |[a,b]=>match iY a,iY b with
  |some A,some B=>some (aK (.bool (decide (A=B))) [nl A<2^40,nl B<2^40])
  |_,_=>none
 |_=>none
theorem FY:bf P Da 117:=by
 refine cJ fun K args r hk hs _=>?_
 split at hs
 ·split at hs
  ·rename_i A B hA hB
   simp only[ay]at hs
   subst hs
   exact fun need=>gD (S7 need.1 need.2 K []) hk ⟨kG hA,kG hB,trivial⟩ [] trivial
  ·simp at hs
 ·simp at hs
abbrev pN:List Nat:=[1,5,17,18,19]
abbrev qz (n m:Nat) (z y:Nat->Nat) (K i:Nat):List AV:=[.ak 1 m (aB y),.own K 1 0 (n+m),.ak 1 n (aB z),.int .i64 n,.int .i64 i]
abbrev Bz:List Nat:=[1,5,17,18,19,6,7,8,26,27,28]
abbrev MC (n m:Nat) (z y:Nat->Nat) (K i x c j:Nat):List AV:=[.ak 1 m (aB y),.own K 1 0 (n+m),.ak 1 n (aB z),.int .i64 n,.int .i64 i,.int .i64 i,.int .u32 x,.int .u64 c,.ak 1 m (aB y),.int .i64 m,.int .i64 j]
theorem PW {n m:Nat} {z y:Nat->Nat} (hz:∀i,i<n->z i<2^32) (hy:∀i,i<m->y i<2^32) (hn:n<2^40) (hm':m<2^40) (K:Nat) (pre:aE):
  aP P 119 K [.ak 1 n (aB z),.ak 1 m (aB y)] pre (aK (.mag (val n z*val m y)) []):=by
 refine jC hT aes rfl aW rfl (fun _ c0 h0=>?_) K pre
 refine au.hole [1,1,0,1] ah (aF.bD hT gL hm 30 pN Tf ah ?_)
 have hw:i64.wrap ((n:Int)+(m:Int))=((n+m:Nat):Int):=by rw[wrap_i64 aa aa];omega
 simp only[af.all,aA,hw,bu]
 refine⟨aa,fun s' hv=>?_⟩
 refine au.g7 (i:=0) (y:=part (aH f119) [1,1,0,1,0,0]) ah
  (fun p:Nat×(Nat->Nat)=>⟨aC pN (qz n m z y 7 p.1),[(7,⟨true,true,1,n+m,aB p.2⟩)],8⟩)
  (fun p=>p.1<=n/\(∀j,j<n+m->p.2 j<2^32)/\(∀j,p.1+m<=j->p.2 j=0)/\val (n+m) p.2=val p.1 z*val m y)
  (fun p=>n-p.1) (0,fun _=>0)
  (dI [(7,24576)] hv h0 rfl ⟨aO,⟨rfl,dH rfl rfl rfl⟩,aO,aO,aO,trivial⟩
   ⟨⟨_,_,rfl,rfl,fG rfl fun j _=>rfl⟩,trivial⟩)
  ⟨by simp,fun j _=>by simp,fun j _=>rfl,?_⟩ ?_
 ·simp only
  rw[lX (k:=0) aa fun _ _ _=>rfl]
  simp[val]
 rintro⟨i,o⟩ ⟨hi,ho,ho0,hval⟩
 simp only at hi ho ho0 hval
 have next:∀{o':Nat->Nat} {s':aJ},i<n->bk pN s'=some (qz n m z y 7 i,[(7,⟨true,true,1,n+m,aB o'⟩)])->(∀j,j<n+m->o' j<2^32)->(∀j,i+1+m<=j->o' j=0)->
   val (n+m) o'=val (i+1) z*val m y->∀{QF:aq->aJ->Prop},
   aF P c0 f119.ntmps (behind (part (aH f119) [1,1,0,1,0,0]) [1,1,0]) s' (eG (fun s'=>∃k:Nat×(Nat->Nat),(∃ρ,Le c0 ρ s' ⟨aC pN (qz n m z y 7 k.1),[(7,⟨true,true,1,n+m,aB k.2⟩)],8⟩)/\
    (k.1<=n/\(∀j,j<n+m->k.2 j<2^32)/\(∀j,k.1+m<=j->k.2 j=0)/\val (n+m) k.2=val k.1 z*val m y)/\n-k.1<n-i) QF):=by
  intro o' s' hin hv g1 g2 g3 QF
  refine aF.weak ah (dI (vs:=qz n m z y 7 i) (ps:=[(7,⟨true,true,1,n+m,aB o'⟩)]) (nx:=8) [(7,7)] hv h0 rfl ⟨aO,⟨rfl,dH rfl rfl rfl⟩,aO,aO,aO,trivial⟩
    ⟨⟨_,_,rfl,rfl,fG rfl fun j _=>rfl⟩,trivial⟩)
   (aF.bD hT gL hm 30 pN O0 ah ?_)
  intro s' hv
  exact⟨(i+1,o'),dI [(7,7)] hv h0 rfl ⟨aO,⟨rfl,dH rfl rfl rfl⟩,aO,aO,⟨rfl,gA (by rw[wrap_i64 aa aa];simp only;omega)⟩,trivial⟩
    ⟨⟨_,_,rfl,rfl,fG rfl fun j _=>rfl⟩,trivial⟩,⟨by simp only;omega,g1,g2,g3⟩,by simp only;omega⟩
 refine au.hole [1,1,0] ah (aF.bD hT gL hm 30 pN SB ah ?_)
 simp only[af.all,bw,bB]
 refine⟨fun h1 s' hv=>?_,fun h1 s' hv=>?_⟩
 ·have hin:i<n:=aa
  have hzi:=hz i hin
  refine au.kY (dI (vs:=qz n m z y 7 i) (ps:=[(7,⟨true,true,1,n+m,aB o⟩)]) (nx:=8) [(7,7)] hv h0 rfl ⟨aO,⟨rfl,dH rfl rfl rfl⟩,aO,aO,aO,trivial⟩
    ⟨⟨_,_,rfl,rfl,fG rfl fun j _=>rfl⟩,trivial⟩) ?_
  refine au.oy (i:=1) (y:=part (aH f119) [1,1,0,1,0,0,1,1,0,0]) ah ?_
  refine au.hole [1,1,1,0,1] ah (aF.bD hT gL hm 30 Bz adp ah ?_)
  simp only[af.all,aA,bu,beq_iff_eq,beq_eq_false_iff_ne,ne_eq]
  refine⟨aa,fun hz0 s' hv=>?_,fun hz0 s' hv=>?_⟩
  ·refine fz ?_
   exact(next hin (jB (ls:=pN) (l:=[6,7,8,26,27,28]) (vs:=qz n m z y 7 i) hv rfl rfl) ho (fun j hj=>ho0 j aa) (by rw[hval,val,show z i=0 by omega];simp))
  refine au.g7 (i:=2) (y:=part (part (aH f119) [1,1,0,1,0,0,1,1,0,0]) [1,1,1,0,1,0,0]) ah
   (fun p:Nat×Nat×(Nat->Nat)=>⟨aC Bz (MC n m z y 7 i (z i) p.2.1 p.1),[(7,⟨true,true,1,n+m,aB p.2.2⟩)],8⟩)
   (fun p=>p.1<=m/\p.2.1<2^32/\(∀j,j<n+m->p.2.2 j<2^32)/\(∀j,i+m<=j->p.2.2 j=0)/\val (n+m) p.2.2+p.2.1*2^(32*(i+p.1))=val i z*val m y+z i*val p.1 y*2^(32*i))
   (fun p=>m-p.1) (0,0,o)
   (dI [(7,7)] hv h0 rfl ⟨aO,⟨rfl,dH rfl rfl rfl⟩,aO,aO,aO,aO,aO,aO,aO,aO,aO,trivial⟩
    ⟨⟨_,_,rfl,rfl,fG rfl fun j _=>rfl⟩,trivial⟩)
   ⟨by simp,by simp,ho,ho0,by simp[val,hval]⟩ ?_
  rintro⟨j,c,o⟩ ⟨hj,hc,ho,ho0,hval⟩
  simp only at hj hc ho ho0 hval
  refine au.bD hT gL hm 30 Bz VS ah ?_
  have hij:i64.wrap ((i:Int)+(j:Int))=((i+j:Nat):Int):=by rw[wrap_i64 aa aa];omega
  simp only[af.all,aA,bw,bB,hij,bu,Nat.add_zero,beq_iff_eq]
  refine⟨fun h2=>?_,fun h2 s' hv=>fz ?_⟩
  ·have hjm:j<m:=aa
   obtain⟨m1,m2,m3⟩:=Lx hc hzi (hy j hjm) (ho (i+j) aa)
   rw[m1]
   refine⟨aa,aa,aa,aa,fun s' hv=>⟨(j+1,(c+z i*y j+o (i+j))/4294967296,cy o (i+j) ((c+z i*y j+o (i+j))%4294967296)),?_,⟨by simp only;omega,m3,ij aa ho,fun k hk=>?_,?_⟩,by simp only;omega⟩⟩
   ·refine dI [(7,7)] hv h0 rfl ⟨aO,⟨rfl,dH rfl rfl rfl⟩,aO,aO,aO,aO,aO,⟨rfl,gA ?_⟩,aO,aO,⟨rfl,gA ?_⟩,trivial⟩
     ⟨⟨_,_,rfl,rfl,fG rfl fun k _=>gT (by rw[jw]) k⟩,trivial⟩
    ·rw[kU];simp only;omega
    ·rw[wrap_i64 aa aa];simp only;omega
   ·exact(fN aa).trans (ho0 k hk)
   ·simp only
    rw[show 32*(i+(j+1))=32*((i+j)+1) by omega,gX,val]
    have hset:=CT (o:=o) (x:=(c+z i*y j+o (i+j))%4294967296) (show i+j<n+m by omega)
    exact MW rfl (Nat.div_add_mod _ _) hset (by rw[<-Nat.pow_add];congr 1;omega) hval
  ·have hjm:j=m:=aa
   subst hjm
   refine aF.weak ah (dI (vs:=MC n j z y 7 i (z i) c j) (ps:=[(7,⟨true,true,1,n+j,aB o⟩)]) (nx:=8) [(7,7)] hv h0 rfl
     ⟨aO,⟨rfl,dH rfl rfl rfl⟩,aO,aO,aO,aO,aO,aO,aO,aO,aO,trivial⟩
     ⟨⟨_,_,rfl,rfl,fG rfl fun j _=>rfl⟩,trivial⟩)
    (aF.bD hT gL hm 30 pN aez ah ?_)
   simp only[af.all,aA,hij,bu,Nat.add_zero,beq_iff_eq]
   refine⟨aa,fun s' hv=>?_⟩
   have hf:(fun k=>if k=i+j then AV.int .u32 (u32.wrap (c:Int))else aB o k)=aB (cy o (i+j) c):=by
    funext k
    exact gT (wrap_u32 aa aa) k
   rw[hf]at hv
   refine next hin hv (ij hc ho) (fun k hk=>(fN aa).trans (ho0 k aa)) ?_
   rw[qG aa (ho0 _ aa),hval,val,Nat.add_mul,Nat.mul_assoc,Nat.mul_assoc,Nat.mul_comm (val j y)]
 ·have hin:i=n:=aa
  subst hin
  refine pV (fz ?_)
  refine(aF.weak ah (dI (vs:=qz i m z y 7 i) (ps:=[(7,⟨true,true,1,i+m,aB o⟩)]) (nx:=8) [(7,7)] hv h0 rfl ⟨aO,⟨rfl,dH rfl rfl rfl⟩,aO,aO,aO,trivial⟩
    ⟨⟨_,_,rfl,rfl,fG rfl fun j _=>rfl⟩,trivial⟩)
   (aF.fin hT gL hm 30 Sg ah ?_))
  simp only[af.all,aA,Nat.add_zero,jz]
  exact⟨⟨gy ho,aa⟩,ef (congrArg AV.mag hval)⟩
def L6 (A n B m:Nat):dD:=aK (.mag (A*B)) [n<2^40,m<2^40]
theorem TN:bf P (bU (iJ L6)) 119:=
 cJ (sn fun _ _ _ _ K hz hy need=>PW hz hy need.1 need.2 K [])
end Go.Am.B
