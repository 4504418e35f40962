/- slices.Clone, slices.Equal, natural.Mul. -/
import Derived.Test.YtnniljlepppdpaaGreatB5
set_option linter.unusedVariables false
namespace Go.Am.B
open Go Go.Am.N AV
theorem ahZ:aU P tQ AF (az AF):=aT Proofs.Tryz.func255 ah ah ah
theorem aac:aU P yZ qZ (az qZ):=aT Proofs.Tryz.func211 ah ah ah
theorem Xg:aU P B7 jC (az jC):=aT Proofs.Tryz.func216 ah ah ah
theorem X2 {n:Nat} {b:Bool} {f:Nat->AV}:bP T [] [4] 30 AF (az AF) ⟨aQ 0 [.dI b 1 n f],[],0⟩=
  some (ag.fork b (ag.leaf ak.ret [nil]) (ag.aj [(0:Nat)*1<=2^24,((0:Nat)+n)*((4:Nat)+1)*2<=2^47] (ag.leaf ak.ret [aq 1 ((0:Nat)+n) fun i=>if i+0<0 then nth [] (int IntKind.u32 (0:Int)) (i+0)else f (i+0-0)]))):=ah
theorem UC {A B:Nat}:aJ T [] [10] 30 [0,1,12,13,4] (before (az qZ) [1,1,0,1]) ⟨aQ 0 [.mag A,.mag B],[],0⟩=
  some (ag.fork ((↑(nl A):Int)!=(↑(nl B):Int)) (ag.leaf ak.ret ([mag A,mag B,tuple [],tuple [],AV.bool false],[])) (ag.leaf ak.normal ([mag A,mag B,int IntKind.i64 (↑(nl A):Int),int IntKind.i64 (0:Int),AV.bool false],[]))):=ah
theorem X5 {A B i:Nat}:aJ T [] [14,24] 30 [0,1,12,13,4] [part (az qZ) [1,1,0,1,0,0]] ⟨aF [0,1,12,13,4] [.mag A,.mag B,.int .i64 (nl A),.int .i64 i,.bool false],[],0⟩=
  let c3:Int:=(↑(nl A):Int);let c2:Int:=(↑i:Int);let c1:List AV:=[mag A,mag B,int IntKind.i64 c3,int IntKind.i64 c2,AV.bool false];some (ag.fork (decide (c2<c3)) (ag.aj [(0:Int)<=c2/\c2.toNat<nl A,(0:Int)<=c2/\c2.toNat<nl B] (ag.fork ((↑(aC A c2.toNat):Int)!=(↑(aC B c2.toNat):Int)) (ag.leaf ak.ret (c1,[])) (ag.leaf ak.normal ([mag A,mag B,int IntKind.i64 c3,int IntKind.i64 (IntKind.i64.wrap (c2+(1:Int))),AV.bool false],[])))) (ag.leaf (ak.exit 0) (c1,[]))):=ah
theorem adU {A B i:Nat}:cJ T [] [] 30 qZ (behind (az qZ) [1,1,0,1]) ⟨aF [0,1,12,13,4] [.mag A,.mag B,.int .i64 (nl A),.int .i64 i,.bool false],[],0⟩=
  some (ag.leaf ak.ret [AV.bool true]):=ah
theorem RJ {n m:Nat} {z y:Nat->Nat}:aJ T G1 [] 30 [1,5,17,18,19] (before (az jC) [1,1,0,1]) ⟨aQ 0 [.aq 1 n (aB z),.aq 1 m (aB y)],[],0⟩=
  let c1:Int:=IntKind.i64.wrap ((↑n:Int)+(↑m:Int));some (ag.aj [(0:Int)<=c1/\c1<=c1/\c1<=(2:Int)^47/\c1*(↑(4:Nat):Int)<=(2:Int)^47] (ag.leaf ak.normal ([aq 1 m fun a=>int IntKind.u32 (↑(y a):Int),own 24576 1 0 c1.toNat,aq 1 n fun a=>int IntKind.u32 (↑(z a):Int),int IntKind.i64 (↑n:Int),int IntKind.i64 (0:Int)],[(24576,ax.mk true true 1 c1.toNat fun x=>int IntKind.u32 (0:Int))]))):=ah
theorem agh {n m i:Nat} {z y o:Nat->Nat}:aJ T G1 [20] 30 [1,5,17,18,19] (before (part (az jC) [1,1,0,1,0,0]) [1,1,0]) ⟨aF [1,5,17,18,19] [.aq 1 m (aB y),.own 7 1 0 (n+m),.aq 1 n (aB z),.int .i64 n,.int .i64 i],[(7,⟨true,true,1,n+m,aB o⟩)],8⟩=
  let c1:List AV×aE:=([aq 1 m fun a=>int IntKind.u32 (↑(y a):Int),own 7 1 0 (n+m),aq 1 n fun a=>int IntKind.u32 (↑(z a):Int),int IntKind.i64 (↑n:Int),int IntKind.i64 (↑i:Int)],[(7,ax.mk true true 1 (n+m) fun a=>int IntKind.u32 (↑(o a):Int))]);some (ag.fork (decide ((↑i:Int)<(↑n:Int))) (ag.leaf ak.normal c1) (ag.leaf (ak.exit 0) c1)):=ah
theorem WZ {n m i:Nat} {z y o:Nat->Nat}:aJ T G1 [25] 30 [1,5,17,18,19,6,7,8,26,27,28] (before (part (az jC) [1,1,0,1,0,0,1,1,0,0]) [1,1,1,0,1]) ⟨aF [1,5,17,18,19] [.aq 1 m (aB y),.own 7 1 0 (n+m),.aq 1 n (aB z),.int .i64 n,.int .i64 i],[(7,⟨true,true,1,n+m,aB o⟩)],8⟩=
  let c8:Int:=(↑i:Int);let c7:AV:=int IntKind.i64 (↑n:Int);let c6:AV:=own 7 1 0 (n+m);let c4:AV:=aq 1 n fun a=>int IntKind.u32 (↑(z a):Int);let c2:Nat×ax:=(7,ax.mk true true 1 (n+m) fun a=>int IntKind.u32 (↑(o a):Int));let c1:AV:=aq 1 m fun a=>int IntKind.u32 (↑(y a):Int);let c5:Int:=(↑(z c8.toNat):Int);let c3:AV:=int IntKind.i64 c8;some (ag.aj [(0:Int)<=c8/\c8.toNat<n] (ag.fork (c5==(0:Int)) (ag.leaf (ak.exit 1) ([c1,c6,c4,c7,c3,c3,int IntKind.u32 c5,tuple [],tuple [],tuple [],tuple []],[c2])) (ag.leaf ak.normal ([c1,c6,c4,c7,c3,c3,int IntKind.u32 c5,int IntKind.u64 (0:Int),c1,int IntKind.i64 (↑m:Int),int IntKind.i64 (0:Int)],[c2])))):=ah
theorem Wu {n m i j x c:Nat} {z y o:Nat->Nat}:aJ T G1 [29] 30 [1,5,17,18,19,6,7,8,26,27,28] [part (part (az jC) [1,1,0,1,0,0,1,1,0,0]) [1,1,1,0,1,0,0]] ⟨aF [1,5,17,18,19,6,7,8,26,27,28] [.aq 1 m (aB y),.own 7 1 0 (n+m),.aq 1 n (aB z),.int .i64 n,.int .i64 i,.int .i64 i,.int .u32 x,.int .u64 c,.aq 1 m (aB y),.int .i64 m,.int .i64 j],[(7,⟨true,true,1,n+m,aB o⟩)],8⟩=
  let c12:AV:=int IntKind.i64 (↑n:Int);let c11:AV:=int IntKind.u32 (↑x:Int);let c10:AV:=int IntKind.i64 (↑m:Int);let c8:AV:=own 7 1 0 (n+m);let c7:Int:=(↑j:Int);let c6:AV:=aq 1 n fun a=>int IntKind.u32 (↑(z a):Int);let c4:AV:=int IntKind.i64 (↑i:Int);let c3:AV:=aq 1 m fun a=>int IntKind.u32 (↑(y a):Int);let c1:Int:=IntKind.i64.wrap ((↑i:Int)+c7);let c5:Nat:=c1.toNat+0;let c9:List Prop:=[(0:Int)<=c1/\c1.toNat<n+m,c5<n+m];let c2:Int:=IntKind.u64.wrap ((↑c:Int)+IntKind.u64.wrap (IntKind.u64.wrap (IntKind.u64.wrap (↑x:Int)*IntKind.u64.wrap (↑(y c7.toNat):Int))+IntKind.u64.wrap (↑(o c5):Int)));some (ag.fork (decide (c7<(↑m:Int))) (ag.aj [(0:Int)<=c7/\c7.toNat<m] (ag.aj c9 (ag.aj c9 (ag.aj [(0:Int)<=(32:Int)] (ag.leaf ak.normal ([c3,c8,c6,c12,c4,c4,c11,int IntKind.u64 (c2.fdiv ((2:Int)^min (Int.toNat (32:Int)) IntKind.u64.bits)),c3,c10,int IntKind.i64 (IntKind.i64.wrap (c7+(1:Int)))],[(7,ax.mk true true 1 (n+m) fun j=>if(j==c5)=true then int IntKind.u32 (IntKind.u32.wrap c2)else aB o j)])))))) (ag.leaf (ak.exit 2) ([c3,c8,c6,c12,c4,c4,c11,int IntKind.u64 (↑c:Int),c3,c10,int IntKind.i64 c7],[(7,ax.mk true true 1 (n+m) fun a=>int IntKind.u32 (↑(o a):Int))]))):=ah
theorem ZH {n m i j x c:Nat} {z y o:Nat->Nat}:aJ T G1 [] 30 [1,5,17,18,19] (behind (part (az jC) [1,1,0,1,0,0,1,1,0,0]) [1,1,1,0,1]) ⟨aF [1,5,17,18,19,6,7,8,26,27,28] [.aq 1 m (aB y),.own 7 1 0 (n+m),.aq 1 n (aB z),.int .i64 n,.int .i64 i,.int .i64 i,.int .u32 x,.int .u64 c,.aq 1 m (aB y),.int .i64 m,.int .i64 j],[(7,⟨true,true,1,n+m,aB o⟩)],8⟩=
  let c1:Int:=IntKind.i64.wrap ((↑i:Int)+(↑m:Int));let c2:Nat:=c1.toNat+0;some (ag.aj [(0:Int)<=c1/\c1.toNat<n+m,c2<n+m] (ag.leaf ak.normal ([aq 1 m fun a=>int IntKind.u32 (↑(y a):Int),own 7 1 0 (n+m),aq 1 n fun a=>int IntKind.u32 (↑(z a):Int),int IntKind.i64 (↑n:Int),int IntKind.i64 (↑i:Int)],[(7,ax.mk true true 1 (n+m) fun j=>if(j==c2)=true then int IntKind.u32 (IntKind.u32.wrap (↑c:Int))else aB o j)]))):=ah
theorem acB {n m i:Nat} {z y o:Nat->Nat}:aJ T G1 [] 30 [1,5,17,18,19] (behind (part (az jC) [1,1,0,1,0,0]) [1,1,0]) ⟨aF [1,5,17,18,19] [.aq 1 m (aB y),.own 7 1 0 (n+m),.aq 1 n (aB z),.int .i64 n,.int .i64 i],[(7,⟨true,true,1,n+m,aB o⟩)],8⟩=
  some (ag.leaf ak.normal ([aq 1 m fun a=>int IntKind.u32 (↑(y a):Int),own 7 1 0 (n+m),aq 1 n fun a=>int IntKind.u32 (↑(z a):Int),int IntKind.i64 (↑n:Int),int IntKind.i64 (IntKind.i64.wrap ((↑i:Int)+(1:Int)))],[(7,ax.mk true true 1 (n+m) fun a=>int IntKind.u32 (↑(o a):Int))])):=ah
theorem afg {n m i:Nat} {z y o:Nat->Nat}:cJ T G1 [] 30 jC (behind (az jC) [1,1,0,1]) ⟨aF [1,5,17,18,19] [.aq 1 m (aB y),.own 7 1 0 (n+m),.aq 1 n (aB z),.int .i64 n,.int .i64 i],[(7,⟨true,true,1,n+m,aB o⟩)],8⟩=
  some (ag.aj [dN (n+m) fun i=>aB o (i+0),n+m<2^62] (ag.leaf ak.ret [mag (val (n+m) fun i=>numOf (aB o (i+0)))])):=ah
theorem Jc {n:Nat} {f:Nat->AV} (hn:n<2^40) (K:Nat):aD P tQ K [.aq 1 n f] [] (aL (.aq 1 n f) []):=by
 refine Mj fun b hb=>?_
 refine bW hT bE hm ahZ rfl aW rfl 30 X2 (fun _=>?_) K []
 simp only[ag.all,aA]
 refine⟨fun h=>?_,fun h=>⟨⟨aa,aa⟩,rU aa fun i hi=>by simp⟩⟩
 rw[hb h]
 exact jI aa
def Bn:Spec:=bM fun l=>match l with
 |[.mag N]=>some (aL (.mag N) [nl N<2^40])
 |[.nil]=>some (aL (.mag 0) [])
 |[.aq es n f]=>if es==1 then some (aL (.aq 1 n f) [n<2^40])else none
 |_=>none
theorem HE:∀K args pre r,Bn K args pre=some r->aD P tQ K args pre r:=by
 refine ct fun K args r hk hs _=>?_
 split at hs
 ·rename_i N
  simp only[au]at hs
  subst hs
  intro need
  have:=gv (args:=[.mag N]) (Jc (n:=nl N) (f:=fun i=>.int .u32 (aC N i)) need K) rfl ⟨M4 rfl fun i hi=>rfl,trivial⟩ []
  exact rL (l':=[]) this id rfl rfl (lD rfl fun i hi=>rfl) trivial
 ·simp only[au]at hs
  subst hs
  intro need
  have:=gv (args:=[.nil]) (Jc (n:=0) (f:=fun _=>.nil) aa K) rfl ⟨jI aa,trivial⟩ []
  exact rL (l':=[]) this id rfl rfl (lD (by simp[nl]) fun i hi=>aa) trivial
 ·rename_i es n f
  split at hs
  ·rename_i he
   have he:es=1:=by simpa using he
   subst he
   simp only[au]at hs
   subst hs
   exact fun need=>Jc need K trivial
  ·simp at hs
 ·simp at hs
theorem agE {A B:Nat} (hA:nl A<2^40) (hB:nl B<2^40) (K:Nat) (pre:aE):aD P yZ K [.mag A,.mag B] pre (aL (.bool (decide (A=B))) []):=by
 refine jL hT aac rfl aW rfl (fun _ c h0=>?_) K pre
 refine ay.hole [1,1,0,1] ah (aG.bz hT bE hm 30 [0,1,12,13,4] UC ah ?_)
 simp only[ag.all,bne_iff_ne,ne_eq,Int.natCast_inj,bne_eq_false_iff_eq]
 refine⟨fun hb s' hv=>?_,fun hb s' hv=>?_⟩
 ·exact gj (us:=[.bool false]) (.inr rfl) hv ah (fR (decide_eq_false fun h=>hb (by rw[h])).symm)
 refine ay.iz (i:=0) (y:=part (az qZ) [1,1,0,1,0,0]) ah
  (fun i:Nat=>⟨aF [0,1,12,13,4] [.mag A,.mag B,.int .i64 (nl A),.int .i64 i,.bool false],[],0⟩)
  (fun i=>i<=nl A/\∀j,j<i->aC A j=aC B j) (fun i=>nl A-i) 0
  (dr [] hv h0 rfl ⟨⟨rfl,aK rfl⟩,⟨rfl,aK rfl⟩,⟨rfl,aK rfl⟩,⟨rfl,aK rfl⟩,⟨rfl,aK rfl⟩,trivial⟩ trivial) ⟨aa,fun j h=>aa⟩ ?_
 rintro i ⟨hi,hlim⟩
 refine ay.bz hT bE hm 30 [0,1,12,13,4] X5 ah ?_
 simp only[ag.all,aA,bf,bt,bne_iff_ne,ne_eq,Int.natCast_inj,bne_eq_false_iff_eq,aX]
 refine⟨fun h1=>⟨⟨aa,aa⟩,fun hne s' hv=>?_,fun heq s' hv=>?_⟩,fun h1 s' hv=>?_⟩
 ·exact gj (us:=[.bool false]) (.inr rfl) hv ah (fR (decide_eq_false fun h=>hne (by rw[h])).symm)
 ·refine⟨i+1,dr [] hv h0 rfl ⟨⟨rfl,aK rfl⟩,⟨rfl,aK rfl⟩,⟨rfl,aK rfl⟩,⟨rfl,ga (by rw[wrap_i64 aa aa];omega)⟩,⟨rfl,aK rfl⟩,trivial⟩ trivial,⟨aa,fun j hj=>?_⟩,aa⟩
  by_cases h:j=i
  ·subst h;exact heq
  ·exact hlim j aa
 ·have hAB:A=B:=EF hb fun j hj=>hlim j aa
  exact aG.weak ah (dr (vs:=[.mag A,.mag B,.int .i64 (nl A),.int .i64 i,.bool false]) (ps:=[]) (nx:=0) [] hv h0 rfl ⟨⟨rfl,aK rfl⟩,⟨rfl,aK rfl⟩,⟨rfl,aK rfl⟩,⟨rfl,aK rfl⟩,⟨rfl,aK rfl⟩,trivial⟩ trivial)
   (aG.fin hT bE hm 30 adU ah (fR (decide_eq_true hAB).symm))
def iV:AV->Option Nat
 |.mag N=>some N
 |.nil=>some 0
 |_=>none
theorem lQ {a:AV} {N:Nat} (h:iV a=some N):bD a (.mag N):=by
 cases a<;>simp only[iV,reduceCtorEq,au]at h
 case mag M=>subst h;exact .refl _
 case nil=>subst h;exact kH
def GU:Spec:=bM fun l=>match l with
 |[a,b]=>match iV a,iV b with
  |some A,some B=>some (aL (.bool (decide (A=B))) [nl A<2^40,nl B<2^40])
  |_,_=>none
 |_=>none
theorem PB:∀K args pre r,GU K args pre=some r->aD P yZ K args pre r:=by
 refine ct fun K args r hk hs _=>?_
 split at hs
 ·split at hs
  ·rename_i A B hA hB
   simp only[au]at hs
   subst hs
   exact fun need=>gv (agE need.1 need.2 K []) hk ⟨lQ hA,lQ hB,trivial⟩ [] trivial
  ·simp at hs
 ·simp at hs
abbrev qj:List Nat:=[1,5,17,18,19]
abbrev qT (n m:Nat) (z y:Nat->Nat) (K i:Nat):List AV:=[.aq 1 m (aB y),.own K 1 0 (n+m),.aq 1 n (aB z),.int .i64 n,.int .i64 i]
abbrev E8:List Nat:=[1,5,17,18,19,6,7,8,26,27,28]
abbrev QA (n m:Nat) (z y:Nat->Nat) (K i x c j:Nat):List AV:=[.aq 1 m (aB y),.own K 1 0 (n+m),.aq 1 n (aB z),.int .i64 n,.int .i64 i,.int .i64 i,.int .u32 x,.int .u64 c,.aq 1 m (aB y),.int .i64 m,.int .i64 j]
theorem acg {n m:Nat} {z y:Nat->Nat} (hz:∀i,i<n->z i<2^32) (hy:∀i,i<m->y i<2^32) (hn:n<2^40) (hm':m<2^40) (K:Nat) (pre:aE):
  aD P B7 K [.aq 1 n (aB z),.aq 1 m (aB y)] pre (aL (.mag (val n z*val m y)) []):=by
 refine jL hT Xg rfl aW rfl (fun _ c0 h0=>?_) K pre
 refine ay.hole [1,1,0,1] ah (aG.bz hT gy hm 30 qj RJ ah ?_)
 have hw:IntKind.i64.wrap ((n:Int)+(m:Int))=((n+m:Nat):Int):=by rw[wrap_i64 aa aa];omega
 simp only[ag.all,aA,hw,aX]
 refine⟨aa,fun s' hv=>?_⟩
 refine ay.iz (i:=0) (y:=part (az jC) [1,1,0,1,0,0]) ah
  (fun p:Nat×(Nat->Nat)=>⟨aF qj (qT n m z y 7 p.1),[(7,⟨true,true,1,n+m,aB p.2⟩)],8⟩)
  (fun p=>p.1<=n/\(∀j,j<n+m->p.2 j<2^32)/\(∀j,p.1+m<=j->p.2 j=0)/\val (n+m) p.2=val p.1 z*val m y)
  (fun p=>n-p.1) (0,fun _=>0)
  (dr [(7,24576)] hv h0 rfl ⟨⟨rfl,aK rfl⟩,⟨rfl,cP rfl rfl rfl⟩,⟨rfl,aK rfl⟩,⟨rfl,aK rfl⟩,⟨rfl,aK rfl⟩,trivial⟩
   ⟨⟨_,_,rfl,rfl,fq rfl fun j _=>rfl⟩,trivial⟩)
  ⟨by simp,fun j _=>by simp,fun j _=>rfl,?_⟩ ?_
 ·simp only
  rw[nH (k:=0) aa fun _ _ _=>rfl]
  simp[val]
 rintro⟨i,o⟩ ⟨hi,ho,ho0,hval⟩
 simp only at hi ho ho0 hval
 have next:∀{o':Nat->Nat} {s':aH},i<n->bk qj s'=some (qT n m z y 7 i,[(7,⟨true,true,1,n+m,aB o'⟩)])->(∀j,j<n+m->o' j<2^32)->(∀j,i+1+m<=j->o' j=0)->
   val (n+m) o'=val (i+1) z*val m y->∀{QF:ak->aH->Prop},
   aG P c0 jC.ntmps (behind (part (az jC) [1,1,0,1,0,0]) [1,1,0]) s' (dM (fun s'=>∃k:Nat×(Nat->Nat),(∃ρ,Le c0 ρ s' ⟨aF qj (qT n m z y 7 k.1),[(7,⟨true,true,1,n+m,aB k.2⟩)],8⟩)/\
    (k.1<=n/\(∀j,j<n+m->k.2 j<2^32)/\(∀j,k.1+m<=j->k.2 j=0)/\val (n+m) k.2=val k.1 z*val m y)/\n-k.1<n-i) QF):=by
  intro o' s' hin hv g1 g2 g3 QF
  refine aG.weak ah (dr (vs:=qT n m z y 7 i) (ps:=[(7,⟨true,true,1,n+m,aB o'⟩)]) (nx:=8) [(7,7)] hv h0 rfl ⟨⟨rfl,aK rfl⟩,⟨rfl,cP rfl rfl rfl⟩,⟨rfl,aK rfl⟩,⟨rfl,aK rfl⟩,⟨rfl,aK rfl⟩,trivial⟩
    ⟨⟨_,_,rfl,rfl,fq rfl fun j _=>rfl⟩,trivial⟩)
   (aG.bz hT gy hm 30 qj acB ah ?_)
  intro s' hv
  exact⟨(i+1,o'),dr [(7,7)] hv h0 rfl ⟨⟨rfl,aK rfl⟩,⟨rfl,cP rfl rfl rfl⟩,⟨rfl,aK rfl⟩,⟨rfl,aK rfl⟩,⟨rfl,ga (by rw[wrap_i64 aa aa];simp only;omega)⟩,trivial⟩
    ⟨⟨_,_,rfl,rfl,fq rfl fun j _=>rfl⟩,trivial⟩,⟨by simp only;omega,g1,g2,g3⟩,by simp only;omega⟩
 refine ay.hole [1,1,0] ah (aG.bz hT gy hm 30 qj agh ah ?_)
 simp only[ag.all,bf,bt]
 refine⟨fun h1 s' hv=>?_,fun h1 s' hv=>?_⟩
 ·have hin:i<n:=aa
  have hzi:=hz i hin
  refine ay.lT (dr (vs:=qT n m z y 7 i) (ps:=[(7,⟨true,true,1,n+m,aB o⟩)]) (nx:=8) [(7,7)] hv h0 rfl ⟨⟨rfl,aK rfl⟩,⟨rfl,cP rfl rfl rfl⟩,⟨rfl,aK rfl⟩,⟨rfl,aK rfl⟩,⟨rfl,aK rfl⟩,trivial⟩
    ⟨⟨_,_,rfl,rfl,fq rfl fun j _=>rfl⟩,trivial⟩) ?_
  refine ay.oK (i:=1) (y:=part (az jC) [1,1,0,1,0,0,1,1,0,0]) ah ?_
  refine ay.hole [1,1,1,0,1] ah (aG.bz hT gy hm 30 E8 WZ ah ?_)
  simp only[ag.all,aA,aX,beq_iff_eq,beq_eq_false_iff_ne,ne_eq]
  refine⟨aa,fun hz0 s' hv=>?_,fun hz0 s' hv=>?_⟩
  ·refine fc ?_
   exact(next hin (iD (ls:=qj) (l:=[6,7,8,26,27,28]) (vs:=qT n m z y 7 i) hv rfl rfl) ho (fun j hj=>ho0 j aa) (by rw[hval,val,show z i=0 by omega];simp))
  refine ay.iz (i:=2) (y:=part (part (az jC) [1,1,0,1,0,0,1,1,0,0]) [1,1,1,0,1,0,0]) ah
   (fun p:Nat×Nat×(Nat->Nat)=>⟨aF E8 (QA n m z y 7 i (z i) p.2.1 p.1),[(7,⟨true,true,1,n+m,aB p.2.2⟩)],8⟩)
   (fun p=>p.1<=m/\p.2.1<2^32/\(∀j,j<n+m->p.2.2 j<2^32)/\(∀j,i+m<=j->p.2.2 j=0)/\val (n+m) p.2.2+p.2.1*2^(32*(i+p.1))=val i z*val m y+z i*val p.1 y*2^(32*i))
   (fun p=>m-p.1) (0,0,o)
   (dr [(7,7)] hv h0 rfl ⟨⟨rfl,aK rfl⟩,⟨rfl,cP rfl rfl rfl⟩,⟨rfl,aK rfl⟩,⟨rfl,aK rfl⟩,⟨rfl,aK rfl⟩,⟨rfl,aK rfl⟩,⟨rfl,aK rfl⟩,⟨rfl,aK rfl⟩,⟨rfl,aK rfl⟩,⟨rfl,aK rfl⟩,⟨rfl,aK rfl⟩,trivial⟩
    ⟨⟨_,_,rfl,rfl,fq rfl fun j _=>rfl⟩,trivial⟩)
   ⟨by simp,by simp,ho,ho0,by simp[val,hval]⟩ ?_
  rintro⟨j,c,o⟩ ⟨hj,hc,ho,ho0,hval⟩
  simp only at hj hc ho ho0 hval
  refine ay.bz hT gy hm 30 E8 Wu ah ?_
  have hij:IntKind.i64.wrap ((i:Int)+(j:Int))=((i+j:Nat):Int):=by rw[wrap_i64 aa aa];omega
  simp only[ag.all,aA,bf,bt,hij,aX,Nat.add_zero,beq_iff_eq]
  refine⟨fun h2=>?_,fun h2 s' hv=>fc ?_⟩
  ·have hjm:j<m:=aa
   obtain⟨m1,m2,m3⟩:=Nc hc hzi (hy j hjm) (ho (i+j) aa)
   rw[m1]
   refine⟨aa,aa,aa,aa,fun s' hv=>⟨(j+1,(c+z i*y j+o (i+j))/4294967296,cm o (i+j) ((c+z i*y j+o (i+j))%4294967296)),?_,⟨by simp only;omega,m3,hU aa ho,fun k hk=>?_,?_⟩,by simp only;omega⟩⟩
   ·refine dr [(7,7)] hv h0 rfl ⟨⟨rfl,aK rfl⟩,⟨rfl,cP rfl rfl rfl⟩,⟨rfl,aK rfl⟩,⟨rfl,aK rfl⟩,⟨rfl,aK rfl⟩,⟨rfl,aK rfl⟩,⟨rfl,aK rfl⟩,⟨rfl,ga ?_⟩,⟨rfl,aK rfl⟩,⟨rfl,aK rfl⟩,⟨rfl,ga ?_⟩,trivial⟩
     ⟨⟨_,_,rfl,rfl,fq rfl fun k _=>gE (by rw[jy]) k⟩,trivial⟩
    ·rw[lG];simp only;omega
    ·rw[wrap_i64 aa aa];simp only;omega
   ·exact(fB aa).trans (ho0 k hk)
   ·simp only
    rw[show 32*(i+(j+1))=32*((i+j)+1) by omega,gL,val]
    have hset:=HA (o:=o) (x:=(c+z i*y j+o (i+j))%4294967296) (show i+j<n+m by omega)
    exact Rq rfl (Nat.div_add_mod _ _) hset (by rw[<-Nat.pow_add];congr 1;omega) hval
  ·have hjm:j=m:=aa
   subst hjm
   refine aG.weak ah (dr (vs:=QA n j z y 7 i (z i) c j) (ps:=[(7,⟨true,true,1,n+j,aB o⟩)]) (nx:=8) [(7,7)] hv h0 rfl
     ⟨⟨rfl,aK rfl⟩,⟨rfl,cP rfl rfl rfl⟩,⟨rfl,aK rfl⟩,⟨rfl,aK rfl⟩,⟨rfl,aK rfl⟩,⟨rfl,aK rfl⟩,⟨rfl,aK rfl⟩,⟨rfl,aK rfl⟩,⟨rfl,aK rfl⟩,⟨rfl,aK rfl⟩,⟨rfl,aK rfl⟩,trivial⟩
     ⟨⟨_,_,rfl,rfl,fq rfl fun j _=>rfl⟩,trivial⟩)
    (aG.bz hT gy hm 30 qj ZH ah ?_)
   simp only[ag.all,aA,hij,aX,Nat.add_zero,beq_iff_eq]
   refine⟨aa,fun s' hv=>?_⟩
   have hf:(fun k=>if k=i+j then AV.int .u32 (IntKind.u32.wrap (c:Int))else aB o k)=aB (cm o (i+j) c):=by
    funext k
    exact gE (wrap_u32 aa aa) k
   rw[hf]at hv
   refine next hin hv (hU hc ho) (fun k hk=>(fB aa).trans (ho0 k aa)) ?_
   rw[qV aa (ho0 _ aa),hval,val,Nat.add_mul,Nat.mul_assoc,Nat.mul_assoc,Nat.mul_comm (val j y)]
 ·have hin:i=n:=aa
  subst hin
  refine qS (fc ?_)
  refine(aG.weak ah (dr (vs:=qT i m z y 7 i) (ps:=[(7,⟨true,true,1,i+m,aB o⟩)]) (nx:=8) [(7,7)] hv h0 rfl ⟨⟨rfl,aK rfl⟩,⟨rfl,cP rfl rfl rfl⟩,⟨rfl,aK rfl⟩,⟨rfl,aK rfl⟩,⟨rfl,aK rfl⟩,trivial⟩
    ⟨⟨_,_,rfl,rfl,fq rfl fun j _=>rfl⟩,trivial⟩)
   (aG.fin hT gy hm 30 afg ah ?_))
  simp only[ag.all,aA,Nat.add_zero,jE]
  exact⟨⟨fW ho,aa⟩,dD (congrArg AV.mag hval)⟩
def Jj (A n B m:Nat):cZ:=aL (.mag (A*B)) [n<2^40,m<2^40]
theorem aeU:∀K args pre r,bM (iu Jj) K args pre=some r->aD P B7 K args pre r:=
 ct (uX fun _ _ _ _ K hz hy need=>acg hz hy need.1 need.2 K [])
end Go.Am.B
