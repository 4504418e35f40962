/- slices.Clone, slices.Equal, natural.Mul. -/
import Derived.Test.YtgfjdngnneoeoaaGreatB5
set_option linter.unusedVariables false
namespace Go.Am.B
open Go Go.Am.N AV Proofs.Tryz IntKind
theorem Qs:aX 169 f169:=aM func169
theorem ahP:aX 83 f83:=aM func83
theorem Xf:aX 87 f87:=aM func87
theorem Q0 {n:Nat} {b:Bool} {f:Nat->AV}:bF T [] [4] 30 f169 (aF f169) ⟨aS 0 [.eB b 1 n f],[],0⟩=
  some (ag.fork b (ag.leaf aq.ret [nil]) (ag.aj [(0:Nat)*1<=2^24,((0:Nat)+n)*((4:Nat)+1)*2<=2^47] (ag.leaf aq.ret [ak 1 ((0:Nat)+n) fun i=>if i+0<0 then nth [] (int .u32 (0:Int)) (i+0)else f (i+0-0)]))):=ah
theorem aij {A B:Nat}:aL T [] [10] 30 [0,1,12,13,4] (before (aF f83) [1,1,0,1]) ⟨aS 0 [.mag A,.mag B],[],0⟩=
  some (ag.fork ((↑(nl A):Int)!=(↑(nl B):Int)) (ag.leaf aq.ret ([mag A,mag B,tuple [],tuple [],AV.bool false],[])) (ag.leaf aq.normal ([mag A,mag B,int .i64 (↑(nl A):Int),int .i64 (0:Int),AV.bool false],[]))):=ah
theorem aaD {A B i:Nat}:aL T [] [14,24] 30 [0,1,12,13,4] [part (aF f83) [1,1,0,1,0,0]] ⟨aG [0,1,12,13,4] [.mag A,.mag B,.int .i64 (nl A),.int .i64 i,.bool false],[],0⟩=
  let c3:Int:=(↑(nl A):Int);let c2:Int:=(↑i:Int);let c1:List AV:=[mag A,mag B,int .i64 c3,int .i64 c2,AV.bool false];some (ag.fork (decide (c2<c3)) (ag.aj [(0:Int)<=c2/\c2.toNat<nl A,(0:Int)<=c2/\c2.toNat<nl B] (ag.fork ((↑(aB A c2.toNat):Int)!=(↑(aB B c2.toNat):Int)) (ag.leaf aq.ret (c1,[])) (ag.leaf aq.normal ([mag A,mag B,int .i64 c3,int .i64 (i64.wrap (c2+1)),AV.bool false],[])))) (ag.leaf (aq.exit 0) (c1,[]))):=ah
theorem air {A B i:Nat}:cP T [] [] 30 f83 (behind (aF f83) [1,1,0,1]) ⟨aG [0,1,12,13,4] [.mag A,.mag B,.int .i64 (nl A),.int .i64 i,.bool false],[],0⟩=
  some (ag.leaf aq.ret [AV.bool true]):=ah
theorem Xj {n m:Nat} {z y:Nat->Nat}:aL T G1 [] 30 [1,5,17,18,19] (before (aF f87) [1,1,0,1]) ⟨aS 0 [.ak 1 n (aA z),.ak 1 m (aA y)],[],0⟩=
  let c1:Int:=i64.wrap ((↑n:Int)+(↑m:Int));some (ag.aj [(0:Int)<=c1/\c1<=c1/\c1<=2^47/\c1*(↑(4:Nat):Int)<=2^47] (ag.leaf aq.normal ([ak 1 m fun a=>int .u32 (↑(y a):Int),own 24576 1 0 c1.toNat,ak 1 n fun a=>int .u32 (↑(z a):Int),int .i64 (↑n:Int),int .i64 (0:Int)],[(24576,az.mk true true 1 c1.toNat fun x=>int .u32 (0:Int))]))):=ah
theorem Zn {n m i:Nat} {z y o:Nat->Nat}:aL T G1 [20] 30 [1,5,17,18,19] (before (part (aF f87) [1,1,0,1,0,0]) [1,1,0]) ⟨aG [1,5,17,18,19] [.ak 1 m (aA y),.own 7 1 0 (n+m),.ak 1 n (aA z),.int .i64 n,.int .i64 i],[(7,⟨true,true,1,n+m,aA o⟩)],8⟩=
  let c1:List AV×aD:=([ak 1 m fun a=>int .u32 (↑(y a):Int),own 7 1 0 (n+m),ak 1 n fun a=>int .u32 (↑(z a):Int),int .i64 (↑n:Int),int .i64 (↑i:Int)],[(7,az.mk true true 1 (n+m) fun a=>int .u32 (↑(o a):Int))]);some (ag.fork (decide ((↑i:Int)<(↑n:Int))) (ag.leaf aq.normal c1) (ag.leaf (aq.exit 0) c1)):=ah
theorem SZ {n m i:Nat} {z y o:Nat->Nat}:aL T G1 [25] 30 [1,5,17,18,19,6,7,8,26,27,28] (before (part (aF f87) [1,1,0,1,0,0,1,1,0,0]) [1,1,1,0,1]) ⟨aG [1,5,17,18,19] [.ak 1 m (aA y),.own 7 1 0 (n+m),.ak 1 n (aA z),.int .i64 n,.int .i64 i],[(7,⟨true,true,1,n+m,aA o⟩)],8⟩=
  let c8:Int:=(↑i:Int);let c7:AV:=int .i64 (↑n:Int);let c6:AV:=own 7 1 0 (n+m);let c4:AV:=ak 1 n fun a=>int .u32 (↑(z a):Int);let c2:Nat×az:=(7,az.mk true true 1 (n+m) fun a=>int .u32 (↑(o a):Int));let c1:AV:=ak 1 m fun a=>int .u32 (↑(y a):Int);let c5:Int:=(↑(z c8.toNat):Int);let c3:AV:=int .i64 c8;some (ag.aj [(0:Int)<=c8/\c8.toNat<n] (ag.fork (c5==0) (ag.leaf (aq.exit 1) ([c1,c6,c4,c7,c3,c3,int .u32 c5,tuple [],tuple [],tuple [],tuple []],[c2])) (ag.leaf aq.normal ([c1,c6,c4,c7,c3,c3,int .u32 c5,int .u64 (0:Int),c1,int .i64 (↑m:Int),int .i64 (0:Int)],[c2])))):=ah
theorem abX {n m i j x c:Nat} {z y o:Nat->Nat}:aL T G1 [29] 30 [1,5,17,18,19,6,7,8,26,27,28] [part (part (aF f87) [1,1,0,1,0,0,1,1,0,0]) [1,1,1,0,1,0,0]] ⟨aG [1,5,17,18,19,6,7,8,26,27,28] [.ak 1 m (aA y),.own 7 1 0 (n+m),.ak 1 n (aA z),.int .i64 n,.int .i64 i,.int .i64 i,.int .u32 x,.int .u64 c,.ak 1 m (aA y),.int .i64 m,.int .i64 j],[(7,⟨true,true,1,n+m,aA o⟩)],8⟩=
  let c12:AV:=int .i64 (↑n:Int);let c11:AV:=int .u32 (↑x:Int);let c10:AV:=int .i64 (↑m:Int);let c8:AV:=own 7 1 0 (n+m);let c7:Int:=(↑j:Int);let c6:AV:=ak 1 n fun a=>int .u32 (↑(z a):Int);let c4:AV:=int .i64 (↑i:Int);let c3:AV:=ak 1 m fun a=>int .u32 (↑(y a):Int);let c1:Int:=i64.wrap ((↑i:Int)+c7);let c5:Nat:=c1.toNat+0;let c9:List Prop:=[(0:Int)<=c1/\c1.toNat<n+m,c5<n+m];let c2:Int:=u64.wrap ((↑c:Int)+u64.wrap (u64.wrap (u64.wrap (↑x:Int)*u64.wrap (↑(y c7.toNat):Int))+u64.wrap (↑(o c5):Int)));some (ag.fork (decide (c7<(↑m:Int))) (ag.aj [(0:Int)<=c7/\c7.toNat<m] (ag.aj c9 (ag.aj c9 (ag.aj [(0:Int)<=32] (ag.leaf aq.normal ([c3,c8,c6,c12,c4,c4,c11,int .u64 (c2.fdiv ((2:Int)^min (Int.toNat (32:Int)) u64.bits)),c3,c10,int .i64 (i64.wrap (c7+1))],[(7,az.mk true true 1 (n+m) fun j=>if(j==c5)=true then int .u32 (u32.wrap c2)else aA o j)])))))) (ag.leaf (aq.exit 2) ([c3,c8,c6,c12,c4,c4,c11,int .u64 (↑c:Int),c3,c10,int .i64 c7],[(7,az.mk true true 1 (n+m) fun a=>int .u32 (↑(o a):Int))]))):=ah
theorem Zd {n m i j x c:Nat} {z y o:Nat->Nat}:aL T G1 [] 30 [1,5,17,18,19] (behind (part (aF f87) [1,1,0,1,0,0,1,1,0,0]) [1,1,1,0,1]) ⟨aG [1,5,17,18,19,6,7,8,26,27,28] [.ak 1 m (aA y),.own 7 1 0 (n+m),.ak 1 n (aA z),.int .i64 n,.int .i64 i,.int .i64 i,.int .u32 x,.int .u64 c,.ak 1 m (aA y),.int .i64 m,.int .i64 j],[(7,⟨true,true,1,n+m,aA o⟩)],8⟩=
  let c1:Int:=i64.wrap ((↑i:Int)+(↑m:Int));let c2:Nat:=c1.toNat+0;some (ag.aj [(0:Int)<=c1/\c1.toNat<n+m,c2<n+m] (ag.leaf aq.normal ([ak 1 m fun a=>int .u32 (↑(y a):Int),own 7 1 0 (n+m),ak 1 n fun a=>int .u32 (↑(z a):Int),int .i64 (↑n:Int),int .i64 (↑i:Int)],[(7,az.mk true true 1 (n+m) fun j=>if(j==c2)=true then int .u32 (u32.wrap (↑c:Int))else aA o j)]))):=ah
theorem Vm {n m i:Nat} {z y o:Nat->Nat}:aL T G1 [] 30 [1,5,17,18,19] (behind (part (aF f87) [1,1,0,1,0,0]) [1,1,0]) ⟨aG [1,5,17,18,19] [.ak 1 m (aA y),.own 7 1 0 (n+m),.ak 1 n (aA z),.int .i64 n,.int .i64 i],[(7,⟨true,true,1,n+m,aA o⟩)],8⟩=
  some (ag.leaf aq.normal ([ak 1 m fun a=>int .u32 (↑(y a):Int),own 7 1 0 (n+m),ak 1 n fun a=>int .u32 (↑(z a):Int),int .i64 (↑n:Int),int .i64 (i64.wrap ((↑i:Int)+1))],[(7,az.mk true true 1 (n+m) fun a=>int .u32 (↑(o a):Int))])):=ah
theorem aeD {n m i:Nat} {z y o:Nat->Nat}:cP T G1 [] 30 f87 (behind (aF f87) [1,1,0,1]) ⟨aG [1,5,17,18,19] [.ak 1 m (aA y),.own 7 1 0 (n+m),.ak 1 n (aA z),.int .i64 n,.int .i64 i],[(7,⟨true,true,1,n+m,aA o⟩)],8⟩=
  some (ag.aj [eo (n+m) fun i=>aA o (i+0),n+m<2^62] (ag.leaf aq.ret [mag (val (n+m) fun i=>numOf (aA o (i+0)))])):=ah
theorem CE {n:Nat} {f:Nat->AV} (hn:n<2^40) (K:Nat):aN P 169 K [.ak 1 n f] [] (aH (.ak 1 n f) []):=by
 refine agY fun b hb=>?_
 refine bM hT bD hm Qs rfl aW rfl 30 Q0 (fun _=>?_) K []
 simp only[ag.all,au]
 refine⟨fun h=>?_,fun h=>⟨⟨aa,aa⟩,tO aa fun i hi=>by simp⟩⟩
 rw[hb h]
 exact lf aa
def y7:Spec:=bX fun l=>match l with
 |[.mag N]=>some (aH (.mag N) [nl N<2^40])
 |[.nil]=>some (aH (.mag 0) [])
 |[.ak es n f]=>if es==1 then some (aH (.ak 1 n f) [n<2^40])else none
 |_=>none
theorem Ce:bf P y7 169:=by
 refine cM fun K args r hk hs _=>?_
 split at hs
 ·rename_i N
  simp only[ax]at hs
  subst hs
  intro need
  have:=eR (args:=[.mag N]) (CE (n:=nl N) (f:=fun i=>.int .u32 (aB N i)) need K) rfl ⟨KK rfl fun i hi=>rfl,trivial⟩ []
  exact nR (l':=[]) this id rfl rfl (lz rfl fun i hi=>rfl) trivial
 ·simp only[ax]at hs
  subst hs
  intro need
  have:=eR (args:=[.nil]) (CE (n:=0) (f:=fun _=>.nil) aa K) rfl ⟨lf aa,trivial⟩ []
  exact nR (l':=[]) this id rfl rfl (lz (by simp[nl]) fun i hi=>aa) trivial
 ·rename_i es n f
  split at hs
  ·rename_i he
   have he:es=1:=by simpa using he
   subst he
   simp only[ax]at hs
   subst hs
   exact fun need=>CE need K trivial
  ·simp at hs
 ·simp at hs
theorem WY {A B:Nat} (hA:nl A<2^40) (hB:nl B<2^40) (K:Nat) (pre:aD):aN P 83 K [.mag A,.mag B] pre (aH (.bool (decide (A=B))) []):=by
 refine jN hT ahP rfl aW rfl (fun _ c h0=>?_) K pre
 refine ay.hole [1,1,0,1] ah (aI.bH hT bD hm 30 [0,1,12,13,4] aij ah ?_)
 simp only[ag.all,bne_iff_ne,ne_eq,Int.natCast_inj,bne_eq_false_iff_eq]
 refine⟨fun hb s' hv=>?_,fun hb s' hv=>?_⟩
 ·exact gU (us:=[.bool false]) (.inr rfl) hv ah (gZ (decide_eq_false fun h=>hb (by rw[h])).symm)
 refine ay.ji (i:=0) (y:=part (aF f83) [1,1,0,1,0,0]) ah
  (fun i:Nat=>⟨aG [0,1,12,13,4] [.mag A,.mag B,.int .i64 (nl A),.int .i64 i,.bool false],[],0⟩)
  (fun i=>i<=nl A/\∀j,j<i->aB A j=aB B j) (fun i=>nl A-i) 0
  (dI [] hv h0 rfl ⟨aP,aP,aP,aP,aP,trivial⟩ trivial) ⟨aa,fun j h=>aa⟩ ?_
 rintro i ⟨hi,hlim⟩
 refine ay.bH hT bD hm 30 [0,1,12,13,4] aaD ah ?_
 simp only[ag.all,au,bz,bG,bne_iff_ne,ne_eq,Int.natCast_inj,bne_eq_false_iff_eq,br]
 refine⟨fun h1=>⟨⟨aa,aa⟩,fun hne s' hv=>?_,fun heq s' hv=>?_⟩,fun h1 s' hv=>?_⟩
 ·exact gU (us:=[.bool false]) (.inr rfl) hv ah (gZ (decide_eq_false fun h=>hne (by rw[h])).symm)
 ·refine⟨i+1,dI [] hv h0 rfl ⟨aP,aP,aP,⟨rfl,gF (by rw[wrap_i64 aa aa];omega)⟩,aP,trivial⟩ trivial,⟨aa,fun j hj=>?_⟩,aa⟩
  by_cases h:j=i
  ·subst h;exact heq
  ·exact hlim j aa
 ·have hAB:A=B:=De hb fun j hj=>hlim j aa
  exact aI.weak ah (dI (vs:=[.mag A,.mag B,.int .i64 (nl A),.int .i64 i,.bool false]) (ps:=[]) (nx:=0) [] hv h0 rfl ⟨aP,aP,aP,aP,aP,trivial⟩ trivial)
   (aI.fin hT bD hm 30 air ah (gZ (decide_eq_true hAB).symm))
def jr:AV->Option Nat
 |.mag N=>some N
 |.nil=>some 0
 |_=>none
theorem lJ {a:AV} {N:Nat} (h:jr a=some N):bp a (.mag N):=by
 cases a<;>simp only[jr,reduceCtorEq,ax]at h
 case mag M=>subst h;exact .refl _
 case nil=>subst h;exact kO
def E3:Spec:=bX fun l=>match l with
 |[a,b]=>match jr a,jr b with
  |some A,some B=>some (aH (.bool (decide (A=B))) [nl A<2^40,nl B<2^40])
  |_,_=>none
 |_=>none
theorem Jc:bf P E3 83:=by
 refine cM fun K args r hk hs _=>?_
 split at hs
 ·split at hs
  ·rename_i A B hA hB
   simp only[ax]at hs
   subst hs
   exact fun need=>eR (WY need.1 need.2 K []) hk ⟨lJ hA,lJ hB,trivial⟩ [] trivial
  ·simp at hs
 ·simp at hs
abbrev o7:List Nat:=[1,5,17,18,19]
abbrev qP (n m:Nat) (z y:Nat->Nat) (K i:Nat):List AV:=[.ak 1 m (aA y),.own K 1 0 (n+m),.ak 1 n (aA z),.int .i64 n,.int .i64 i]
abbrev D4:List Nat:=[1,5,17,18,19,6,7,8,26,27,28]
abbrev HN (n m:Nat) (z y:Nat->Nat) (K i x c j:Nat):List AV:=[.ak 1 m (aA y),.own K 1 0 (n+m),.ak 1 n (aA z),.int .i64 n,.int .i64 i,.int .i64 i,.int .u32 x,.int .u64 c,.ak 1 m (aA y),.int .i64 m,.int .i64 j]
theorem Ud {n m:Nat} {z y:Nat->Nat} (hz:∀i,i<n->z i<2^32) (hy:∀i,i<m->y i<2^32) (hn:n<2^40) (hm':m<2^40) (K:Nat) (pre:aD):
  aN P 87 K [.ak 1 n (aA z),.ak 1 m (aA y)] pre (aH (.mag (val n z*val m y)) []):=by
 refine jN hT Xf rfl aW rfl (fun _ c0 h0=>?_) K pre
 refine ay.hole [1,1,0,1] ah (aI.bH hT gX hm 30 o7 Xj ah ?_)
 have hw:i64.wrap ((n:Int)+(m:Int))=((n+m:Nat):Int):=by rw[wrap_i64 aa aa];omega
 simp only[ag.all,au,hw,br]
 refine⟨aa,fun s' hv=>?_⟩
 refine ay.ji (i:=0) (y:=part (aF f87) [1,1,0,1,0,0]) ah
  (fun p:Nat×(Nat->Nat)=>⟨aG o7 (qP n m z y 7 p.1),[(7,⟨true,true,1,n+m,aA p.2⟩)],8⟩)
  (fun p=>p.1<=n/\(∀j,j<n+m->p.2 j<2^32)/\(∀j,p.1+m<=j->p.2 j=0)/\val (n+m) p.2=val p.1 z*val m y)
  (fun p=>n-p.1) (0,fun _=>0)
  (dI [(7,24576)] hv h0 rfl ⟨aP,⟨rfl,dx rfl rfl rfl⟩,aP,aP,aP,trivial⟩
   ⟨⟨_,_,rfl,rfl,fP rfl fun j _=>rfl⟩,trivial⟩)
  ⟨by simp,fun j _=>by simp,fun j _=>rfl,?_⟩ ?_
 ·simp only
  rw[m7 (k:=0) aa fun _ _ _=>rfl]
  simp[val]
 rintro⟨i,o⟩ ⟨hi,ho,ho0,hval⟩
 simp only at hi ho ho0 hval
 have next:∀{o':Nat->Nat} {s':aK},i<n->bB o7 s'=some (qP n m z y 7 i,[(7,⟨true,true,1,n+m,aA o'⟩)])->(∀j,j<n+m->o' j<2^32)->(∀j,i+1+m<=j->o' j=0)->
   val (n+m) o'=val (i+1) z*val m y->∀{QF:aq->aK->Prop},
   aI P c0 f87.ntmps (behind (part (aF f87) [1,1,0,1,0,0]) [1,1,0]) s' (ey (fun s'=>∃k:Nat×(Nat->Nat),(∃ρ,Le c0 ρ s' ⟨aG o7 (qP n m z y 7 k.1),[(7,⟨true,true,1,n+m,aA k.2⟩)],8⟩)/\
    (k.1<=n/\(∀j,j<n+m->k.2 j<2^32)/\(∀j,k.1+m<=j->k.2 j=0)/\val (n+m) k.2=val k.1 z*val m y)/\n-k.1<n-i) QF):=by
  intro o' s' hin hv g1 g2 g3 QF
  refine aI.weak ah (dI (vs:=qP n m z y 7 i) (ps:=[(7,⟨true,true,1,n+m,aA o'⟩)]) (nx:=8) [(7,7)] hv h0 rfl ⟨aP,⟨rfl,dx rfl rfl rfl⟩,aP,aP,aP,trivial⟩
    ⟨⟨_,_,rfl,rfl,fP rfl fun j _=>rfl⟩,trivial⟩)
   (aI.bH hT gX hm 30 o7 Vm ah ?_)
  intro s' hv
  exact⟨(i+1,o'),dI [(7,7)] hv h0 rfl ⟨aP,⟨rfl,dx rfl rfl rfl⟩,aP,aP,⟨rfl,gF (by rw[wrap_i64 aa aa];simp only;omega)⟩,trivial⟩
    ⟨⟨_,_,rfl,rfl,fP rfl fun j _=>rfl⟩,trivial⟩,⟨by simp only;omega,g1,g2,g3⟩,by simp only;omega⟩
 refine ay.hole [1,1,0] ah (aI.bH hT gX hm 30 o7 Zn ah ?_)
 simp only[ag.all,bz,bG]
 refine⟨fun h1 s' hv=>?_,fun h1 s' hv=>?_⟩
 ·have hin:i<n:=aa
  have hzi:=hz i hin
  refine ay.lD (dI (vs:=qP n m z y 7 i) (ps:=[(7,⟨true,true,1,n+m,aA o⟩)]) (nx:=8) [(7,7)] hv h0 rfl ⟨aP,⟨rfl,dx rfl rfl rfl⟩,aP,aP,aP,trivial⟩
    ⟨⟨_,_,rfl,rfl,fP rfl fun j _=>rfl⟩,trivial⟩) ?_
  refine ay.o9 (i:=1) (y:=part (aF f87) [1,1,0,1,0,0,1,1,0,0]) ah ?_
  refine ay.hole [1,1,1,0,1] ah (aI.bH hT gX hm 30 D4 SZ ah ?_)
  simp only[ag.all,au,br,beq_iff_eq,beq_eq_false_iff_ne,ne_eq]
  refine⟨aa,fun hz0 s' hv=>?_,fun hz0 s' hv=>?_⟩
  ·refine fK ?_
   exact(next hin (jI (ls:=o7) (l:=[6,7,8,26,27,28]) (vs:=qP n m z y 7 i) hv rfl rfl) ho (fun j hj=>ho0 j aa) (by rw[hval,val,show z i=0 by omega];simp))
  refine ay.ji (i:=2) (y:=part (part (aF f87) [1,1,0,1,0,0,1,1,0,0]) [1,1,1,0,1,0,0]) ah
   (fun p:Nat×Nat×(Nat->Nat)=>⟨aG D4 (HN n m z y 7 i (z i) p.2.1 p.1),[(7,⟨true,true,1,n+m,aA p.2.2⟩)],8⟩)
   (fun p=>p.1<=m/\p.2.1<2^32/\(∀j,j<n+m->p.2.2 j<2^32)/\(∀j,i+m<=j->p.2.2 j=0)/\val (n+m) p.2.2+p.2.1*2^(32*(i+p.1))=val i z*val m y+z i*val p.1 y*2^(32*i))
   (fun p=>m-p.1) (0,0,o)
   (dI [(7,7)] hv h0 rfl ⟨aP,⟨rfl,dx rfl rfl rfl⟩,aP,aP,aP,aP,aP,aP,aP,aP,aP,trivial⟩
    ⟨⟨_,_,rfl,rfl,fP rfl fun j _=>rfl⟩,trivial⟩)
   ⟨by simp,by simp,ho,ho0,by simp[val,hval]⟩ ?_
  rintro⟨j,c,o⟩ ⟨hj,hc,ho,ho0,hval⟩
  simp only at hj hc ho ho0 hval
  refine ay.bH hT gX hm 30 D4 abX ah ?_
  have hij:i64.wrap ((i:Int)+(j:Int))=((i+j:Nat):Int):=by rw[wrap_i64 aa aa];omega
  simp only[ag.all,au,bz,bG,hij,br,Nat.add_zero,beq_iff_eq]
  refine⟨fun h2=>?_,fun h2 s' hv=>fK ?_⟩
  ·have hjm:j<m:=aa
   obtain⟨m1,m2,m3⟩:=Lz hc hzi (hy j hjm) (ho (i+j) aa)
   rw[m1]
   refine⟨aa,aa,aa,aa,fun s' hv=>⟨(j+1,(c+z i*y j+o (i+j))/4294967296,cE o (i+j) ((c+z i*y j+o (i+j))%4294967296)),?_,⟨by simp only;omega,m3,iS aa ho,fun k hk=>?_,?_⟩,by simp only;omega⟩⟩
   ·refine dI [(7,7)] hv h0 rfl ⟨aP,⟨rfl,dx rfl rfl rfl⟩,aP,aP,aP,aP,aP,⟨rfl,gF ?_⟩,aP,aP,⟨rfl,gF ?_⟩,trivial⟩
     ⟨⟨_,_,rfl,rfl,fP rfl fun k _=>hU (by rw[jP]) k⟩,trivial⟩
    ·rw[lW];simp only;omega
    ·rw[wrap_i64 aa aa];simp only;omega
   ·exact(fS aa).trans (ho0 k hk)
   ·simp only
    rw[show 32*(i+(j+1))=32*((i+j)+1) by omega,iB,val]
    have hset:=EM (o:=o) (x:=(c+z i*y j+o (i+j))%4294967296) (show i+j<n+m by omega)
    exact JY rfl (Nat.div_add_mod _ _) hset (by rw[<-Nat.pow_add];congr 1;omega) hval
  ·have hjm:j=m:=aa
   subst hjm
   refine aI.weak ah (dI (vs:=HN n j z y 7 i (z i) c j) (ps:=[(7,⟨true,true,1,n+j,aA o⟩)]) (nx:=8) [(7,7)] hv h0 rfl
     ⟨aP,⟨rfl,dx rfl rfl rfl⟩,aP,aP,aP,aP,aP,aP,aP,aP,aP,trivial⟩
     ⟨⟨_,_,rfl,rfl,fP rfl fun j _=>rfl⟩,trivial⟩)
    (aI.bH hT gX hm 30 o7 Zd ah ?_)
   simp only[ag.all,au,hij,br,Nat.add_zero,beq_iff_eq]
   refine⟨aa,fun s' hv=>?_⟩
   have hf:(fun k=>if k=i+j then AV.int .u32 (u32.wrap (c:Int))else aA o k)=aA (cE o (i+j) c):=by
    funext k
    exact hU (wrap_u32 aa aa) k
   rw[hf]at hv
   refine next hin hv (iS hc ho) (fun k hk=>(fS aa).trans (ho0 k aa)) ?_
   rw[qc aa (ho0 _ aa),hval,val,Nat.add_mul,Nat.mul_assoc,Nat.mul_assoc,Nat.mul_comm (val j y)]
 ·have hin:i=n:=aa
  subst hin
  refine qq (fK ?_)
  refine(aI.weak ah (dI (vs:=qP i m z y 7 i) (ps:=[(7,⟨true,true,1,i+m,aA o⟩)]) (nx:=8) [(7,7)] hv h0 rfl ⟨aP,⟨rfl,dx rfl rfl rfl⟩,aP,aP,aP,trivial⟩
    ⟨⟨_,_,rfl,rfl,fP rfl fun j _=>rfl⟩,trivial⟩)
   (aI.fin hT gX hm 30 aeD ah ?_))
  simp only[ag.all,au,Nat.add_zero,jO]
  exact⟨⟨gD ho,aa⟩,dX (congrArg AV.mag hval)⟩
def LP (A n B m:Nat):dw:=aH (.mag (A*B)) [n<2^40,m<2^40]
theorem aan:bf P (bX (iY LP)) 87:=
 cM (sC fun _ _ _ _ K hz hy need=>Ud hz hy need.1 need.2 K [])
end Go.Am.B
