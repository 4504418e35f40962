/- slices.Clone, slices.Equal, natural.Mul. -/
import Derived.Test.YtgfjdngnneoeoaaGreatB5
set_option linter.unusedVariables false
namespace Go.Am.B
open Go Go.Am.N AV Proofs.Tryz IntKind
theorem Wp:aW 169 f169:=aN func169
theorem ahd:aW 83 f83:=aN func83
theorem ZU:aW 87 f87:=aN func87
theorem Qe {n:Nat} {b:Bool} {f:Nat->AV}:bD T [] [4] 30 f169 (aF f169) ⟨aT 0 [.ew b 1 n f],[],0⟩=
  some (ag.fork b (ag.leaf ak.ret [nil]) (ag.aj [(0:Nat)*1<=2^24,((0:Nat)+n)*((4:Nat)+1)*2<=2^47] (ag.leaf ak.ret [aq 1 ((0:Nat)+n) fun i=>if i+0<0 then nth [] (int .u32 (0:Int)) (i+0)else f (i+0-0)]))):=ah
theorem O9 {A B:Nat}:aM T [] [10] 30 [0,1,12,13,4] (before (aF f83) [1,1,0,1]) ⟨aT 0 [.mag A,.mag B],[],0⟩=
  some (ag.fork ((↑(nl A):Int)!=(↑(nl B):Int)) (ag.leaf ak.ret ([mag A,mag B,tuple [],tuple [],AV.bool false],[])) (ag.leaf ak.normal ([mag A,mag B,int .i64 (↑(nl A):Int),int .i64 (0:Int),AV.bool false],[]))):=ah
theorem UJ {A B i:Nat}:aM T [] [14,24] 30 [0,1,12,13,4] [part (aF f83) [1,1,0,1,0,0]] ⟨aH [0,1,12,13,4] [.mag A,.mag B,.int .i64 (nl A),.int .i64 i,.bool false],[],0⟩=
  let c3:Int:=(↑(nl A):Int);let c2:Int:=(↑i:Int);let c1:List AV:=[mag A,mag B,int .i64 c3,int .i64 c2,AV.bool false];some (ag.fork (decide (c2<c3)) (ag.aj [(0:Int)<=c2/\c2.toNat<nl A,(0:Int)<=c2/\c2.toNat<nl B] (ag.fork ((↑(aB A c2.toNat):Int)!=(↑(aB B c2.toNat):Int)) (ag.leaf ak.ret (c1,[])) (ag.leaf ak.normal ([mag A,mag B,int .i64 c3,int .i64 (i64.wrap (c2+1)),AV.bool false],[])))) (ag.leaf (ak.exit 0) (c1,[]))):=ah
theorem agX {A B i:Nat}:cR T [] [] 30 f83 (behind (aF f83) [1,1,0,1]) ⟨aH [0,1,12,13,4] [.mag A,.mag B,.int .i64 (nl A),.int .i64 i,.bool false],[],0⟩=
  some (ag.leaf ak.ret [AV.bool true]):=ah
theorem aat {n m:Nat} {z y:Nat->Nat}:aM T G1 [] 30 [1,5,17,18,19] (before (aF f87) [1,1,0,1]) ⟨aT 0 [.aq 1 n (aA z),.aq 1 m (aA y)],[],0⟩=
  let c1:Int:=i64.wrap ((↑n:Int)+(↑m:Int));some (ag.aj [(0:Int)<=c1/\c1<=c1/\c1<=2^47/\c1*(↑(4:Nat):Int)<=2^47] (ag.leaf ak.normal ([aq 1 m fun a=>int .u32 (↑(y a):Int),own 24576 1 0 c1.toNat,aq 1 n fun a=>int .u32 (↑(z a):Int),int .i64 (↑n:Int),int .i64 (0:Int)],[(24576,az.mk true true 1 c1.toNat fun x=>int .u32 (0:Int))]))):=ah
theorem afR {n m i:Nat} {z y o:Nat->Nat}:aM T G1 [20] 30 [1,5,17,18,19] (before (part (aF f87) [1,1,0,1,0,0]) [1,1,0]) ⟨aH [1,5,17,18,19] [.aq 1 m (aA y),.own 7 1 0 (n+m),.aq 1 n (aA z),.int .i64 n,.int .i64 i],[(7,⟨true,true,1,n+m,aA o⟩)],8⟩=
  let c1:List AV×aD:=([aq 1 m fun a=>int .u32 (↑(y a):Int),own 7 1 0 (n+m),aq 1 n fun a=>int .u32 (↑(z a):Int),int .i64 (↑n:Int),int .i64 (↑i:Int)],[(7,az.mk true true 1 (n+m) fun a=>int .u32 (↑(o a):Int))]);some (ag.fork (decide ((↑i:Int)<(↑n:Int))) (ag.leaf ak.normal c1) (ag.leaf (ak.exit 0) c1)):=ah
theorem WN {n m i:Nat} {z y o:Nat->Nat}:aM T G1 [25] 30 [1,5,17,18,19,6,7,8,26,27,28] (before (part (aF f87) [1,1,0,1,0,0,1,1,0,0]) [1,1,1,0,1]) ⟨aH [1,5,17,18,19] [.aq 1 m (aA y),.own 7 1 0 (n+m),.aq 1 n (aA z),.int .i64 n,.int .i64 i],[(7,⟨true,true,1,n+m,aA o⟩)],8⟩=
  let c8:Int:=(↑i:Int);let c7:AV:=int .i64 (↑n:Int);let c6:AV:=own 7 1 0 (n+m);let c4:AV:=aq 1 n fun a=>int .u32 (↑(z a):Int);let c2:Nat×az:=(7,az.mk true true 1 (n+m) fun a=>int .u32 (↑(o a):Int));let c1:AV:=aq 1 m fun a=>int .u32 (↑(y a):Int);let c5:Int:=(↑(z c8.toNat):Int);let c3:AV:=int .i64 c8;some (ag.aj [(0:Int)<=c8/\c8.toNat<n] (ag.fork (c5==0) (ag.leaf (ak.exit 1) ([c1,c6,c4,c7,c3,c3,int .u32 c5,tuple [],tuple [],tuple [],tuple []],[c2])) (ag.leaf ak.normal ([c1,c6,c4,c7,c3,c3,int .u32 c5,int .u64 (0:Int),c1,int .i64 (↑m:Int),int .i64 (0:Int)],[c2])))):=ah
theorem Xb {n m i j x c:Nat} {z y o:Nat->Nat}:aM T G1 [29] 30 [1,5,17,18,19,6,7,8,26,27,28] [part (part (aF f87) [1,1,0,1,0,0,1,1,0,0]) [1,1,1,0,1,0,0]] ⟨aH [1,5,17,18,19,6,7,8,26,27,28] [.aq 1 m (aA y),.own 7 1 0 (n+m),.aq 1 n (aA z),.int .i64 n,.int .i64 i,.int .i64 i,.int .u32 x,.int .u64 c,.aq 1 m (aA y),.int .i64 m,.int .i64 j],[(7,⟨true,true,1,n+m,aA o⟩)],8⟩=
  let c12:AV:=int .i64 (↑n:Int);let c11:AV:=int .u32 (↑x:Int);let c10:AV:=int .i64 (↑m:Int);let c8:AV:=own 7 1 0 (n+m);let c7:Int:=(↑j:Int);let c6:AV:=aq 1 n fun a=>int .u32 (↑(z a):Int);let c4:AV:=int .i64 (↑i:Int);let c3:AV:=aq 1 m fun a=>int .u32 (↑(y a):Int);let c1:Int:=i64.wrap ((↑i:Int)+c7);let c5:Nat:=c1.toNat+0;let c9:List Prop:=[(0:Int)<=c1/\c1.toNat<n+m,c5<n+m];let c2:Int:=u64.wrap ((↑c:Int)+u64.wrap (u64.wrap (u64.wrap (↑x:Int)*u64.wrap (↑(y c7.toNat):Int))+u64.wrap (↑(o c5):Int)));some (ag.fork (decide (c7<(↑m:Int))) (ag.aj [(0:Int)<=c7/\c7.toNat<m] (ag.aj c9 (ag.aj c9 (ag.aj [(0:Int)<=32] (ag.leaf ak.normal ([c3,c8,c6,c12,c4,c4,c11,int .u64 (c2.fdiv ((2:Int)^min (Int.toNat (32:Int)) u64.bits)),c3,c10,int .i64 (i64.wrap (c7+1))],[(7,az.mk true true 1 (n+m) fun j=>if(j==c5)=true then int .u32 (u32.wrap c2)else aA o j)])))))) (ag.leaf (ak.exit 2) ([c3,c8,c6,c12,c4,c4,c11,int .u64 (↑c:Int),c3,c10,int .i64 c7],[(7,az.mk true true 1 (n+m) fun a=>int .u32 (↑(o a):Int))]))):=ah
theorem TU {n m i j x c:Nat} {z y o:Nat->Nat}:aM T G1 [] 30 [1,5,17,18,19] (behind (part (aF f87) [1,1,0,1,0,0,1,1,0,0]) [1,1,1,0,1]) ⟨aH [1,5,17,18,19,6,7,8,26,27,28] [.aq 1 m (aA y),.own 7 1 0 (n+m),.aq 1 n (aA z),.int .i64 n,.int .i64 i,.int .i64 i,.int .u32 x,.int .u64 c,.aq 1 m (aA y),.int .i64 m,.int .i64 j],[(7,⟨true,true,1,n+m,aA o⟩)],8⟩=
  let c1:Int:=i64.wrap ((↑i:Int)+(↑m:Int));let c2:Nat:=c1.toNat+0;some (ag.aj [(0:Int)<=c1/\c1.toNat<n+m,c2<n+m] (ag.leaf ak.normal ([aq 1 m fun a=>int .u32 (↑(y a):Int),own 7 1 0 (n+m),aq 1 n fun a=>int .u32 (↑(z a):Int),int .i64 (↑n:Int),int .i64 (↑i:Int)],[(7,az.mk true true 1 (n+m) fun j=>if(j==c2)=true then int .u32 (u32.wrap (↑c:Int))else aA o j)]))):=ah
theorem Qn {n m i:Nat} {z y o:Nat->Nat}:aM T G1 [] 30 [1,5,17,18,19] (behind (part (aF f87) [1,1,0,1,0,0]) [1,1,0]) ⟨aH [1,5,17,18,19] [.aq 1 m (aA y),.own 7 1 0 (n+m),.aq 1 n (aA z),.int .i64 n,.int .i64 i],[(7,⟨true,true,1,n+m,aA o⟩)],8⟩=
  some (ag.leaf ak.normal ([aq 1 m fun a=>int .u32 (↑(y a):Int),own 7 1 0 (n+m),aq 1 n fun a=>int .u32 (↑(z a):Int),int .i64 (↑n:Int),int .i64 (i64.wrap ((↑i:Int)+1))],[(7,az.mk true true 1 (n+m) fun a=>int .u32 (↑(o a):Int))])):=ah
theorem aaM {n m i:Nat} {z y o:Nat->Nat}:cR T G1 [] 30 f87 (behind (aF f87) [1,1,0,1]) ⟨aH [1,5,17,18,19] [.aq 1 m (aA y),.own 7 1 0 (n+m),.aq 1 n (aA z),.int .i64 n,.int .i64 i],[(7,⟨true,true,1,n+m,aA o⟩)],8⟩=
  some (ag.aj [ee (n+m) fun i=>aA o (i+0),n+m<2^62] (ag.leaf ak.ret [mag (val (n+m) fun i=>numOf (aA o (i+0)))])):=ah
theorem DV {n:Nat} {f:Nat->AV} (hn:n<2^40) (K:Nat):aO P 169 K [.aq 1 n f] [] (aI (.aq 1 n f) []):=by
 refine Uo fun b hb=>?_
 refine bJ hT bA hm Wp rfl aV rfl 30 Qe (fun _=>?_) K []
 simp only[ag.all,au]
 refine⟨fun h=>?_,fun h=>⟨⟨aa,aa⟩,tF aa fun i hi=>by simp⟩⟩
 rw[hb h]
 exact lO aa
def zD:Spec:=bY fun l=>match l with
 |[.mag N]=>some (aI (.mag N) [nl N<2^40])
 |[.nil]=>some (aI (.mag 0) [])
 |[.aq es n f]=>if es==1 then some (aI (.aq 1 n f) [n<2^40])else none
 |_=>none
theorem BO:aY P zD 169:=by
 refine cJ fun K args r hk hs _=>?_
 split at hs
 ·rename_i N
  simp only[ax]at hs
  subst hs
  intro need
  have:=eW (args:=[.mag N]) (DV (n:=nl N) (f:=fun i=>.int .u32 (aB N i)) need K) rfl ⟨Ib rfl fun i hi=>rfl,trivial⟩ []
  exact nH (l':=[]) this id rfl rfl (lp rfl fun i hi=>rfl) trivial
 ·simp only[ax]at hs
  subst hs
  intro need
  have:=eW (args:=[.nil]) (DV (n:=0) (f:=fun _=>.nil) aa K) rfl ⟨lO aa,trivial⟩ []
  exact nH (l':=[]) this id rfl rfl (lp (by simp[nl]) fun i hi=>aa) trivial
 ·rename_i es n f
  split at hs
  ·rename_i he
   have he:es=1:=by simpa using he
   subst he
   simp only[ax]at hs
   subst hs
   exact fun need=>DV need K trivial
  ·simp at hs
 ·simp at hs
theorem U1 {A B:Nat} (hA:nl A<2^40) (hB:nl B<2^40) (K:Nat) (pre:aD):aO P 83 K [.mag A,.mag B] pre (aI (.bool (decide (A=B))) []):=by
 refine jF hT ahd rfl aV rfl (fun _ c h0=>?_) K pre
 refine ay.hole [1,1,0,1] ah (aJ.bE hT bA hm 30 [0,1,12,13,4] O9 ah ?_)
 simp only[ag.all,bne_iff_ne,ne_eq,Int.natCast_inj,bne_eq_false_iff_eq]
 refine⟨fun hb s' hv=>?_,fun hb s' hv=>?_⟩
 ·exact gL (us:=[.bool false]) (.inr rfl) hv ah (gQ (decide_eq_false fun h=>hb (by rw[h])).symm)
 refine ay.iO (i:=0) (y:=part (aF f83) [1,1,0,1,0,0]) ah
  (fun i:Nat=>⟨aH [0,1,12,13,4] [.mag A,.mag B,.int .i64 (nl A),.int .i64 i,.bool false],[],0⟩)
  (fun i=>i<=nl A/\∀j,j<i->aB A j=aB B j) (fun i=>nl A-i) 0
  (dD [] hv h0 rfl ⟨aQ,aQ,aQ,aQ,aQ,trivial⟩ trivial) ⟨aa,fun j h=>aa⟩ ?_
 rintro i ⟨hi,hlim⟩
 refine ay.bE hT bA hm 30 [0,1,12,13,4] UJ ah ?_
 simp only[ag.all,au,bz,bF,bne_iff_ne,ne_eq,Int.natCast_inj,bne_eq_false_iff_eq,bw]
 refine⟨fun h1=>⟨⟨aa,aa⟩,fun hne s' hv=>?_,fun heq s' hv=>?_⟩,fun h1 s' hv=>?_⟩
 ·exact gL (us:=[.bool false]) (.inr rfl) hv ah (gQ (decide_eq_false fun h=>hne (by rw[h])).symm)
 ·refine⟨i+1,dD [] hv h0 rfl ⟨aQ,aQ,aQ,⟨rfl,gF (by rw[wrap_i64 aa aa];omega)⟩,aQ,trivial⟩ trivial,⟨aa,fun j hj=>?_⟩,aa⟩
  by_cases h:j=i
  ·subst h;exact heq
  ·exact hlim j aa
 ·have hAB:A=B:=D5 hb fun j hj=>hlim j aa
  exact aJ.weak ah (dD (vs:=[.mag A,.mag B,.int .i64 (nl A),.int .i64 i,.bool false]) (ps:=[]) (nx:=0) [] hv h0 rfl ⟨aQ,aQ,aQ,aQ,aQ,trivial⟩ trivial)
   (aJ.fin hT bA hm 30 agX ah (gQ (decide_eq_true hAB).symm))
def jh:AV->Option Nat
 |.mag N=>some N
 |.nil=>some 0
 |_=>none
theorem kY {a:AV} {N:Nat} (h:jh a=some N):bg a (.mag N):=by
 cases a<;>simp only[jh,reduceCtorEq,ax]at h
 case mag M=>subst h;exact .refl _
 case nil=>subst h;exact kP
def C7:Spec:=bY fun l=>match l with
 |[a,b]=>match jh a,jh b with
  |some A,some B=>some (aI (.bool (decide (A=B))) [nl A<2^40,nl B<2^40])
  |_,_=>none
 |_=>none
theorem IB:aY P C7 83:=by
 refine cJ fun K args r hk hs _=>?_
 split at hs
 ·split at hs
  ·rename_i A B hA hB
   simp only[ax]at hs
   subst hs
   exact fun need=>eW (U1 need.1 need.2 K []) hk ⟨kY hA,kY hB,trivial⟩ [] trivial
  ·simp at hs
 ·simp at hs
abbrev pB:List Nat:=[1,5,17,18,19]
abbrev rj (n m:Nat) (z y:Nat->Nat) (K i:Nat):List AV:=[.aq 1 m (aA y),.own K 1 0 (n+m),.aq 1 n (aA z),.int .i64 n,.int .i64 i]
abbrev Dz:List Nat:=[1,5,17,18,19,6,7,8,26,27,28]
abbrev Jf (n m:Nat) (z y:Nat->Nat) (K i x c j:Nat):List AV:=[.aq 1 m (aA y),.own K 1 0 (n+m),.aq 1 n (aA z),.int .i64 n,.int .i64 i,.int .i64 i,.int .u32 x,.int .u64 c,.aq 1 m (aA y),.int .i64 m,.int .i64 j]
theorem UE {n m:Nat} {z y:Nat->Nat} (hz:∀i,i<n->z i<2^32) (hy:∀i,i<m->y i<2^32) (hn:n<2^40) (hm':m<2^40) (K:Nat) (pre:aD):
  aO P 87 K [.aq 1 n (aA z),.aq 1 m (aA y)] pre (aI (.mag (val n z*val m y)) []):=by
 refine jF hT ZU rfl aV rfl (fun _ c0 h0=>?_) K pre
 refine ay.hole [1,1,0,1] ah (aJ.bE hT gU hm 30 pB aat ah ?_)
 have hw:i64.wrap ((n:Int)+(m:Int))=((n+m:Nat):Int):=by rw[wrap_i64 aa aa];omega
 simp only[ag.all,au,hw,bw]
 refine⟨aa,fun s' hv=>?_⟩
 refine ay.iO (i:=0) (y:=part (aF f87) [1,1,0,1,0,0]) ah
  (fun p:Nat×(Nat->Nat)=>⟨aH pB (rj n m z y 7 p.1),[(7,⟨true,true,1,n+m,aA p.2⟩)],8⟩)
  (fun p=>p.1<=n/\(∀j,j<n+m->p.2 j<2^32)/\(∀j,p.1+m<=j->p.2 j=0)/\val (n+m) p.2=val p.1 z*val m y)
  (fun p=>n-p.1) (0,fun _=>0)
  (dD [(7,24576)] hv h0 rfl ⟨aQ,⟨rfl,dw rfl rfl rfl⟩,aQ,aQ,aQ,trivial⟩
   ⟨⟨_,_,rfl,rfl,fL rfl fun j _=>rfl⟩,trivial⟩)
  ⟨by simp,fun j _=>by simp,fun j _=>rfl,?_⟩ ?_
 ·simp only
  rw[mQ (k:=0) aa fun _ _ _=>rfl]
  simp[val]
 rintro⟨i,o⟩ ⟨hi,ho,ho0,hval⟩
 simp only at hi ho ho0 hval
 have next:∀{o':Nat->Nat} {s':aL},i<n->bC pB s'=some (rj n m z y 7 i,[(7,⟨true,true,1,n+m,aA o'⟩)])->(∀j,j<n+m->o' j<2^32)->(∀j,i+1+m<=j->o' j=0)->
   val (n+m) o'=val (i+1) z*val m y->∀{QF:ak->aL->Prop},
   aJ P c0 f87.ntmps (behind (part (aF f87) [1,1,0,1,0,0]) [1,1,0]) s' (ej (fun s'=>∃k:Nat×(Nat->Nat),(∃ρ,Le c0 ρ s' ⟨aH pB (rj n m z y 7 k.1),[(7,⟨true,true,1,n+m,aA k.2⟩)],8⟩)/\
    (k.1<=n/\(∀j,j<n+m->k.2 j<2^32)/\(∀j,k.1+m<=j->k.2 j=0)/\val (n+m) k.2=val k.1 z*val m y)/\n-k.1<n-i) QF):=by
  intro o' s' hin hv g1 g2 g3 QF
  refine aJ.weak ah (dD (vs:=rj n m z y 7 i) (ps:=[(7,⟨true,true,1,n+m,aA o'⟩)]) (nx:=8) [(7,7)] hv h0 rfl ⟨aQ,⟨rfl,dw rfl rfl rfl⟩,aQ,aQ,aQ,trivial⟩
    ⟨⟨_,_,rfl,rfl,fL rfl fun j _=>rfl⟩,trivial⟩)
   (aJ.bE hT gU hm 30 pB Qn ah ?_)
  intro s' hv
  exact⟨(i+1,o'),dD [(7,7)] hv h0 rfl ⟨aQ,⟨rfl,dw rfl rfl rfl⟩,aQ,aQ,⟨rfl,gF (by rw[wrap_i64 aa aa];simp only;omega)⟩,trivial⟩
    ⟨⟨_,_,rfl,rfl,fL rfl fun j _=>rfl⟩,trivial⟩,⟨by simp only;omega,g1,g2,g3⟩,by simp only;omega⟩
 refine ay.hole [1,1,0] ah (aJ.bE hT gU hm 30 pB afR ah ?_)
 simp only[ag.all,bz,bF]
 refine⟨fun h1 s' hv=>?_,fun h1 s' hv=>?_⟩
 ·have hin:i<n:=aa
  have hzi:=hz i hin
  refine ay.lP (dD (vs:=rj n m z y 7 i) (ps:=[(7,⟨true,true,1,n+m,aA o⟩)]) (nx:=8) [(7,7)] hv h0 rfl ⟨aQ,⟨rfl,dw rfl rfl rfl⟩,aQ,aQ,aQ,trivial⟩
    ⟨⟨_,_,rfl,rfl,fL rfl fun j _=>rfl⟩,trivial⟩) ?_
  refine ay.oF (i:=1) (y:=part (aF f87) [1,1,0,1,0,0,1,1,0,0]) ah ?_
  refine ay.hole [1,1,1,0,1] ah (aJ.bE hT gU hm 30 Dz WN ah ?_)
  simp only[ag.all,au,bw,beq_iff_eq,beq_eq_false_iff_ne,ne_eq]
  refine⟨aa,fun hz0 s' hv=>?_,fun hz0 s' hv=>?_⟩
  ·refine fG ?_
   exact(next hin (jn (ls:=pB) (l:=[6,7,8,26,27,28]) (vs:=rj n m z y 7 i) hv rfl rfl) ho (fun j hj=>ho0 j aa) (by rw[hval,val,show z i=0 by omega];simp))
  refine ay.iO (i:=2) (y:=part (part (aF f87) [1,1,0,1,0,0,1,1,0,0]) [1,1,1,0,1,0,0]) ah
   (fun p:Nat×Nat×(Nat->Nat)=>⟨aH Dz (Jf n m z y 7 i (z i) p.2.1 p.1),[(7,⟨true,true,1,n+m,aA p.2.2⟩)],8⟩)
   (fun p=>p.1<=m/\p.2.1<2^32/\(∀j,j<n+m->p.2.2 j<2^32)/\(∀j,i+m<=j->p.2.2 j=0)/\val (n+m) p.2.2+p.2.1*2^(32*(i+p.1))=val i z*val m y+z i*val p.1 y*2^(32*i))
   (fun p=>m-p.1) (0,0,o)
   (dD [(7,7)] hv h0 rfl ⟨aQ,⟨rfl,dw rfl rfl rfl⟩,aQ,aQ,aQ,aQ,aQ,aQ,aQ,aQ,aQ,trivial⟩
    ⟨⟨_,_,rfl,rfl,fL rfl fun j _=>rfl⟩,trivial⟩)
   ⟨by simp,by simp,ho,ho0,by simp[val,hval]⟩ ?_
  rintro⟨j,c,o⟩ ⟨hj,hc,ho,ho0,hval⟩
  simp only at hj hc ho ho0 hval
  refine ay.bE hT gU hm 30 Dz Xb ah ?_
  have hij:i64.wrap ((i:Int)+(j:Int))=((i+j:Nat):Int):=by rw[wrap_i64 aa aa];omega
  simp only[ag.all,au,bz,bF,hij,bw,Nat.add_zero,beq_iff_eq]
  refine⟨fun h2=>?_,fun h2 s' hv=>fG ?_⟩
  ·have hjm:j<m:=aa
   obtain⟨m1,m2,m3⟩:=JK hc hzi (hy j hjm) (ho (i+j) aa)
   rw[m1]
   refine⟨aa,aa,aa,aa,fun s' hv=>⟨(j+1,(c+z i*y j+o (i+j))/4294967296,cA o (i+j) ((c+z i*y j+o (i+j))%4294967296)),?_,⟨by simp only;omega,m3,iG aa ho,fun k hk=>?_,?_⟩,by simp only;omega⟩⟩
   ·refine dD [(7,7)] hv h0 rfl ⟨aQ,⟨rfl,dw rfl rfl rfl⟩,aQ,aQ,aQ,aQ,aQ,⟨rfl,gF ?_⟩,aQ,aQ,⟨rfl,gF ?_⟩,trivial⟩
     ⟨⟨_,_,rfl,rfl,fL rfl fun k _=>gZ (by rw[jC]) k⟩,trivial⟩
    ·rw[lN];simp only;omega
    ·rw[wrap_i64 aa aa];simp only;omega
   ·exact(fR aa).trans (ho0 k hk)
   ·simp only
    rw[show 32*(i+(j+1))=32*((i+j)+1) by omega,iw,val]
    have hset:=CG (o:=o) (x:=(c+z i*y j+o (i+j))%4294967296) (show i+j<n+m by omega)
    exact JM rfl (Nat.div_add_mod _ _) hset (by rw[<-Nat.pow_add];congr 1;omega) hval
  ·have hjm:j=m:=aa
   subst hjm
   refine aJ.weak ah (dD (vs:=Jf n j z y 7 i (z i) c j) (ps:=[(7,⟨true,true,1,n+j,aA o⟩)]) (nx:=8) [(7,7)] hv h0 rfl
     ⟨aQ,⟨rfl,dw rfl rfl rfl⟩,aQ,aQ,aQ,aQ,aQ,aQ,aQ,aQ,aQ,trivial⟩
     ⟨⟨_,_,rfl,rfl,fL rfl fun j _=>rfl⟩,trivial⟩)
    (aJ.bE hT gU hm 30 pB TU ah ?_)
   simp only[ag.all,au,hij,bw,Nat.add_zero,beq_iff_eq]
   refine⟨aa,fun s' hv=>?_⟩
   have hf:(fun k=>if k=i+j then AV.int .u32 (u32.wrap (c:Int))else aA o k)=aA (cA o (i+j) c):=by
    funext k
    exact gZ (wrap_u32 aa aa) k
   rw[hf]at hv
   refine next hin hv (iG hc ho) (fun k hk=>(fR aa).trans (ho0 k aa)) ?_
   rw[p8 aa (ho0 _ aa),hval,val,Nat.add_mul,Nat.mul_assoc,Nat.mul_assoc,Nat.mul_comm (val j y)]
 ·have hin:i=n:=aa
  subst hin
  refine pY (fG ?_)
  refine(aJ.weak ah (dD (vs:=rj i m z y 7 i) (ps:=[(7,⟨true,true,1,i+m,aA o⟩)]) (nx:=8) [(7,7)] hv h0 rfl ⟨aQ,⟨rfl,dw rfl rfl rfl⟩,aQ,aQ,aQ,trivial⟩
    ⟨⟨_,_,rfl,rfl,fL rfl fun j _=>rfl⟩,trivial⟩)
   (aJ.fin hT gU hm 30 aaM ah ?_))
  simp only[ag.all,au,Nat.add_zero,jE]
  exact⟨⟨gG ho,aa⟩,dM (congrArg AV.mag hval)⟩
def Ev (A n B m:Nat):dm:=aI (.mag (A*B)) [n<2^40,m<2^40]
theorem RA:aY P (bY (iN Ev)) 87:=
 cJ (rJ fun _ _ _ _ K hz hy need=>UE hz hy need.1 need.2 K [])
end Go.Am.B
