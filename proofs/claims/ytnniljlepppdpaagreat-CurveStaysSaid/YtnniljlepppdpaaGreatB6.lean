/- slices.Clone, slices.Equal, natural.Mul. -/
import Derived.Test.YtnniljlepppdpaaGreatB5
set_option linter.unusedVariables false
namespace Go.Am.B
open Go Go.Am.N AV
theorem amo:aR P uZ Fc (az Fc):=aS Proofs.Tryz.func255 ag ag ag
theorem Yn:aR P Ar uc (az uc):=aS Proofs.Tryz.func211 ag ag ag
theorem aaN:aR P AY kq (az kq):=aS Proofs.Tryz.func216 ag ag ag
theorem aln {n:Nat} {b:Bool} {f:Nat->AV}:bS T [] [4] 30 Fc (az Fc) ⟨aP 0 [.dQ b 1 n f],[],0⟩=
  some (ah.fork b (ah.leaf aq.ret [nil]) (ah.aj [(0:Nat)*1<=2^24,((0:Nat)+n)*((4:Nat)+1)*2<=2^47] (ah.leaf aq.ret [ak 1 ((0:Nat)+n) fun i=>if i+0<0 then nth [] (int IntKind.u32 (0:Int)) (i+0)else f (i+0-0)]))):=ag
theorem ahB {A B:Nat}:aI T [] [10] 30 [0,1,12,13,4] (before (az uc) [1,1,0,1]) ⟨aP 0 [.mag A,.mag B],[],0⟩=
  some (ah.fork ((↑(nl A):Int)!=(↑(nl B):Int)) (ah.leaf aq.ret ([mag A,mag B,tuple [],tuple [],AV.bool false],[])) (ah.leaf aq.normal ([mag A,mag B,int IntKind.i64 (↑(nl A):Int),int IntKind.i64 (0:Int),AV.bool false],[]))):=ag
theorem agv {A B i:Nat}:aI T [] [14,24] 30 [0,1,12,13,4] [part (az uc) [1,1,0,1,0,0]] ⟨aE [0,1,12,13,4] [.mag A,.mag B,.int .i64 (nl A),.int .i64 i,.bool false],[],0⟩=
  let c3:Int:=(↑(nl A):Int);let c2:Int:=(↑i:Int);let c1:List AV:=[mag A,mag B,int IntKind.i64 c3,int IntKind.i64 c2,AV.bool false];some (ah.fork (decide (c2<c3)) (ah.aj [(0:Int)<=c2/\c2.toNat<nl A,(0:Int)<=c2/\c2.toNat<nl B] (ah.fork ((↑(aC A c2.toNat):Int)!=(↑(aC B c2.toNat):Int)) (ah.leaf aq.ret (c1,[])) (ah.leaf aq.normal ([mag A,mag B,int IntKind.i64 c3,int IntKind.i64 (IntKind.i64.wrap (c2+(1:Int))),AV.bool false],[])))) (ah.leaf (aq.exit 0) (c1,[]))):=ag
theorem alw {A B i:Nat}:cJ T [] [] 30 uc (behind (az uc) [1,1,0,1]) ⟨aE [0,1,12,13,4] [.mag A,.mag B,.int .i64 (nl A),.int .i64 i,.bool false],[],0⟩=
  some (ah.leaf aq.ret [AV.bool true]):=ag
theorem ahC {n m:Nat} {z y:Nat->Nat}:aI T G1 [] 30 [1,5,17,18,19] (before (az kq) [1,1,0,1]) ⟨aP 0 [.ak 1 n (aB z),.ak 1 m (aB y)],[],0⟩=
  let c1:Int:=IntKind.i64.wrap ((↑n:Int)+(↑m:Int));some (ah.aj [(0:Int)<=c1/\c1<=c1/\c1<=(2:Int)^47/\c1*(↑(4:Nat):Int)<=(2:Int)^47] (ah.leaf aq.normal ([ak 1 m fun a=>int IntKind.u32 (↑(y a):Int),own 24576 1 0 c1.toNat,ak 1 n fun a=>int IntKind.u32 (↑(z a):Int),int IntKind.i64 (↑n:Int),int IntKind.i64 (0:Int)],[(24576,au.mk true true 1 c1.toNat fun x=>int IntKind.u32 (0:Int))]))):=ag
theorem afn {n m i:Nat} {z y o:Nat->Nat}:aI T G1 [20] 30 [1,5,17,18,19] (before (part (az kq) [1,1,0,1,0,0]) [1,1,0]) ⟨aE [1,5,17,18,19] [.ak 1 m (aB y),.own 7 1 0 (n+m),.ak 1 n (aB z),.int .i64 n,.int .i64 i],[(7,⟨true,true,1,n+m,aB o⟩)],8⟩=
  let c1:List AV×aF:=([ak 1 m fun a=>int IntKind.u32 (↑(y a):Int),own 7 1 0 (n+m),ak 1 n fun a=>int IntKind.u32 (↑(z a):Int),int IntKind.i64 (↑n:Int),int IntKind.i64 (↑i:Int)],[(7,au.mk true true 1 (n+m) fun a=>int IntKind.u32 (↑(o a):Int))]);some (ah.fork (decide ((↑i:Int)<(↑n:Int))) (ah.leaf aq.normal c1) (ah.leaf (aq.exit 0) c1)):=ag
theorem abf {n m i:Nat} {z y o:Nat->Nat}:aI T G1 [25] 30 [1,5,17,18,19,6,7,8,26,27,28] (before (part (az kq) [1,1,0,1,0,0,1,1,0,0]) [1,1,1,0,1]) ⟨aE [1,5,17,18,19] [.ak 1 m (aB y),.own 7 1 0 (n+m),.ak 1 n (aB z),.int .i64 n,.int .i64 i],[(7,⟨true,true,1,n+m,aB o⟩)],8⟩=
  let c8:Int:=(↑i:Int);let c7:AV:=int IntKind.i64 (↑n:Int);let c6:AV:=own 7 1 0 (n+m);let c4:AV:=ak 1 n fun a=>int IntKind.u32 (↑(z a):Int);let c2:Nat×au:=(7,au.mk true true 1 (n+m) fun a=>int IntKind.u32 (↑(o a):Int));let c1:AV:=ak 1 m fun a=>int IntKind.u32 (↑(y a):Int);let c5:Int:=(↑(z c8.toNat):Int);let c3:AV:=int IntKind.i64 c8;some (ah.aj [(0:Int)<=c8/\c8.toNat<n] (ah.fork (c5==(0:Int)) (ah.leaf (aq.exit 1) ([c1,c6,c4,c7,c3,c3,int IntKind.u32 c5,tuple [],tuple [],tuple [],tuple []],[c2])) (ah.leaf aq.normal ([c1,c6,c4,c7,c3,c3,int IntKind.u32 c5,int IntKind.u64 (0:Int),c1,int IntKind.i64 (↑m:Int),int IntKind.i64 (0:Int)],[c2])))):=ag
theorem acV {n m i j x c:Nat} {z y o:Nat->Nat}:aI T G1 [29] 30 [1,5,17,18,19,6,7,8,26,27,28] [part (part (az kq) [1,1,0,1,0,0,1,1,0,0]) [1,1,1,0,1,0,0]] ⟨aE [1,5,17,18,19,6,7,8,26,27,28] [.ak 1 m (aB y),.own 7 1 0 (n+m),.ak 1 n (aB z),.int .i64 n,.int .i64 i,.int .i64 i,.int .u32 x,.int .u64 c,.ak 1 m (aB y),.int .i64 m,.int .i64 j],[(7,⟨true,true,1,n+m,aB o⟩)],8⟩=
  let c12:AV:=int IntKind.i64 (↑n:Int);let c11:AV:=int IntKind.u32 (↑x:Int);let c10:AV:=int IntKind.i64 (↑m:Int);let c8:AV:=own 7 1 0 (n+m);let c7:Int:=(↑j:Int);let c6:AV:=ak 1 n fun a=>int IntKind.u32 (↑(z a):Int);let c4:AV:=int IntKind.i64 (↑i:Int);let c3:AV:=ak 1 m fun a=>int IntKind.u32 (↑(y a):Int);let c1:Int:=IntKind.i64.wrap ((↑i:Int)+c7);let c5:Nat:=c1.toNat+0;let c9:List Prop:=[(0:Int)<=c1/\c1.toNat<n+m,c5<n+m];let c2:Int:=IntKind.u64.wrap ((↑c:Int)+IntKind.u64.wrap (IntKind.u64.wrap (IntKind.u64.wrap (↑x:Int)*IntKind.u64.wrap (↑(y c7.toNat):Int))+IntKind.u64.wrap (↑(o c5):Int)));some (ah.fork (decide (c7<(↑m:Int))) (ah.aj [(0:Int)<=c7/\c7.toNat<m] (ah.aj c9 (ah.aj c9 (ah.aj [(0:Int)<=(32:Int)] (ah.leaf aq.normal ([c3,c8,c6,c12,c4,c4,c11,int IntKind.u64 (c2.fdiv ((2:Int)^min (Int.toNat (32:Int)) IntKind.u64.bits)),c3,c10,int IntKind.i64 (IntKind.i64.wrap (c7+(1:Int)))],[(7,au.mk true true 1 (n+m) fun j=>if(j==c5)=true then int IntKind.u32 (IntKind.u32.wrap c2)else aB o j)])))))) (ah.leaf (aq.exit 2) ([c3,c8,c6,c12,c4,c4,c11,int IntKind.u64 (↑c:Int),c3,c10,int IntKind.i64 c7],[(7,au.mk true true 1 (n+m) fun a=>int IntKind.u32 (↑(o a):Int))]))):=ag
theorem abm {n m i j x c:Nat} {z y o:Nat->Nat}:aI T G1 [] 30 [1,5,17,18,19] (behind (part (az kq) [1,1,0,1,0,0,1,1,0,0]) [1,1,1,0,1]) ⟨aE [1,5,17,18,19,6,7,8,26,27,28] [.ak 1 m (aB y),.own 7 1 0 (n+m),.ak 1 n (aB z),.int .i64 n,.int .i64 i,.int .i64 i,.int .u32 x,.int .u64 c,.ak 1 m (aB y),.int .i64 m,.int .i64 j],[(7,⟨true,true,1,n+m,aB o⟩)],8⟩=
  let c1:Int:=IntKind.i64.wrap ((↑i:Int)+(↑m:Int));let c2:Nat:=c1.toNat+0;some (ah.aj [(0:Int)<=c1/\c1.toNat<n+m,c2<n+m] (ah.leaf aq.normal ([ak 1 m fun a=>int IntKind.u32 (↑(y a):Int),own 7 1 0 (n+m),ak 1 n fun a=>int IntKind.u32 (↑(z a):Int),int IntKind.i64 (↑n:Int),int IntKind.i64 (↑i:Int)],[(7,au.mk true true 1 (n+m) fun j=>if(j==c2)=true then int IntKind.u32 (IntKind.u32.wrap (↑c:Int))else aB o j)]))):=ag
theorem Ui {n m i:Nat} {z y o:Nat->Nat}:aI T G1 [] 30 [1,5,17,18,19] (behind (part (az kq) [1,1,0,1,0,0]) [1,1,0]) ⟨aE [1,5,17,18,19] [.ak 1 m (aB y),.own 7 1 0 (n+m),.ak 1 n (aB z),.int .i64 n,.int .i64 i],[(7,⟨true,true,1,n+m,aB o⟩)],8⟩=
  some (ah.leaf aq.normal ([ak 1 m fun a=>int IntKind.u32 (↑(y a):Int),own 7 1 0 (n+m),ak 1 n fun a=>int IntKind.u32 (↑(z a):Int),int IntKind.i64 (↑n:Int),int IntKind.i64 (IntKind.i64.wrap ((↑i:Int)+(1:Int)))],[(7,au.mk true true 1 (n+m) fun a=>int IntKind.u32 (↑(o a):Int))])):=ag
theorem Xe {n m i:Nat} {z y o:Nat->Nat}:cJ T G1 [] 30 kq (behind (az kq) [1,1,0,1]) ⟨aE [1,5,17,18,19] [.ak 1 m (aB y),.own 7 1 0 (n+m),.ak 1 n (aB z),.int .i64 n,.int .i64 i],[(7,⟨true,true,1,n+m,aB o⟩)],8⟩=
  some (ah.aj [dZ (n+m) fun i=>aB o (i+0),n+m<2^62] (ah.leaf aq.ret [mag (val (n+m) fun i=>numOf (aB o (i+0)))])):=ag
theorem Kz {n:Nat} {f:Nat->AV} (hn:n<2^40) (K:Nat):aD P uZ K [.ak 1 n f] [] (aK (.ak 1 n f) []):=by
 refine NI fun b hb=>?_
 refine bY hT bC hm amo rfl aW rfl 30 aln (fun _=>?_) K []
 simp only[ah.all,aA]
 refine⟨fun h=>?_,fun h=>⟨⟨aa,aa⟩,oQ aa fun i hi=>by simp⟩⟩
 rw[hb h]
 exact ki aa
def FA:Spec:=bU fun l=>match l with
 |[.mag N]=>some (aK (.mag N) [nl N<2^40])
 |[.nil]=>some (aK (.mag 0) [])
 |[.ak es n f]=>if es==1 then some (aK (.ak 1 n f) [n<2^40])else none
 |_=>none
theorem Kq:∀K args pre r,FA K args pre=some r->aD P uZ K args pre r:=by
 refine cB fun K args r hk hs _=>?_
 split at hs
 ·rename_i N
  simp only[ax]at hs
  subst hs
  intro need
  have:=gR (args:=[.mag N]) (Kz (n:=nl N) (f:=fun i=>.int .u32 (aC N i)) need K) rfl ⟨TW rfl fun i hi=>rfl,trivial⟩ []
  exact FX (l':=[]) this id rfl rfl (mu rfl fun i hi=>rfl) trivial
 ·simp only[ax]at hs
  subst hs
  intro need
  have:=gR (args:=[.nil]) (Kz (n:=0) (f:=fun _=>.nil) aa K) rfl ⟨ki aa,trivial⟩ []
  exact FX (l':=[]) this id rfl rfl (mu (by simp[nl]) fun i hi=>aa) trivial
 ·rename_i es n f
  split at hs
  ·rename_i he
   have he:es=1:=by simpa using he
   subst he
   simp only[ax]at hs
   subst hs
   exact fun need=>Kz need K trivial
  ·simp at hs
 ·simp at hs
theorem ZW {A B:Nat} (hA:nl A<2^40) (hB:nl B<2^40) (K:Nat) (pre:aF):aD P Ar K [.mag A,.mag B] pre (aK (.bool (decide (A=B))) []):=by
 refine kB hT Yn rfl aW rfl (fun _ c h0=>?_) K pre
 refine ay.hole [1,1,0,1] ag (aG.bB hT bC hm 30 [0,1,12,13,4] ahB ag ?_)
 simp only[ah.all,bne_iff_ne,ne_eq,Int.natCast_inj,bne_eq_false_iff_eq]
 refine⟨fun hb s' hv=>?_,fun hb s' hv=>?_⟩
 ·exact gM (us:=[.bool false]) (.inr rfl) hv ag (gA (decide_eq_false fun h=>hb (by rw[h])).symm)
 refine ay.iS (i:=0) (y:=part (az uc) [1,1,0,1,0,0]) ag
  (fun i:Nat=>⟨aE [0,1,12,13,4] [.mag A,.mag B,.int .i64 (nl A),.int .i64 i,.bool false],[],0⟩)
  (fun i=>i<=nl A/\∀j,j<i->aC A j=aC B j) (fun i=>nl A-i) 0
  (dF [] hv h0 rfl ⟨⟨rfl,aL rfl⟩,⟨rfl,aL rfl⟩,⟨rfl,aL rfl⟩,⟨rfl,aL rfl⟩,⟨rfl,aL rfl⟩,trivial⟩ trivial) ⟨aa,fun j h=>aa⟩ ?_
 rintro i ⟨hi,hlim⟩
 refine ay.bB hT bC hm 30 [0,1,12,13,4] agv ag ?_
 simp only[ah.all,aA,bh,bz,bne_iff_ne,ne_eq,Int.natCast_inj,bne_eq_false_iff_eq,aZ]
 refine⟨fun h1=>⟨⟨aa,aa⟩,fun hne s' hv=>?_,fun heq s' hv=>?_⟩,fun h1 s' hv=>?_⟩
 ·exact gM (us:=[.bool false]) (.inr rfl) hv ag (gA (decide_eq_false fun h=>hne (by rw[h])).symm)
 ·refine⟨i+1,dF [] hv h0 rfl ⟨⟨rfl,aL rfl⟩,⟨rfl,aL rfl⟩,⟨rfl,aL rfl⟩,⟨rfl,gB (by rw[wrap_i64 aa aa];omega)⟩,⟨rfl,aL rfl⟩,trivial⟩ trivial,⟨aa,fun j hj=>?_⟩,aa⟩
  by_cases h:j=i
  ·subst h;exact heq
  ·exact hlim j aa
 ·have hAB:A=B:=G6 hb fun j hj=>hlim j aa
  exact aG.weak ag (dF (vs:=[.mag A,.mag B,.int .i64 (nl A),.int .i64 i,.bool false]) (ps:=[]) (nx:=0) [] hv h0 rfl ⟨⟨rfl,aL rfl⟩,⟨rfl,aL rfl⟩,⟨rfl,aL rfl⟩,⟨rfl,aL rfl⟩,⟨rfl,aL rfl⟩,trivial⟩ trivial)
   (aG.fin hT bC hm 30 alw ag (gA (decide_eq_true hAB).symm))
def jr:AV->Option Nat
 |.mag N=>some N
 |.nil=>some 0
 |_=>none
theorem mq {a:AV} {N:Nat} (h:jr a=some N):bF a (.mag N):=by
 cases a<;>simp only[jr,reduceCtorEq,ax]at h
 case mag M=>subst h;exact .refl _
 case nil=>subst h;exact lO
def F9:Spec:=bU fun l=>match l with
 |[a,b]=>match jr a,jr b with
  |some A,some B=>some (aK (.bool (decide (A=B))) [nl A<2^40,nl B<2^40])
  |_,_=>none
 |_=>none
theorem LF:∀K args pre r,F9 K args pre=some r->aD P Ar K args pre r:=by
 refine cB fun K args r hk hs _=>?_
 split at hs
 ·split at hs
  ·rename_i A B hA hB
   simp only[ax]at hs
   subst hs
   exact fun need=>gR (ZW need.1 need.2 K []) hk ⟨mq hA,mq hB,trivial⟩ [] trivial
  ·simp at hs
 ·simp at hs
abbrev qX:List Nat:=[1,5,17,18,19]
abbrev tY (n m:Nat) (z y:Nat->Nat) (K i:Nat):List AV:=[.ak 1 m (aB y),.own K 1 0 (n+m),.ak 1 n (aB z),.int .i64 n,.int .i64 i]
abbrev I3:List Nat:=[1,5,17,18,19,6,7,8,26,27,28]
abbrev PV (n m:Nat) (z y:Nat->Nat) (K i x c j:Nat):List AV:=[.ak 1 m (aB y),.own K 1 0 (n+m),.ak 1 n (aB z),.int .i64 n,.int .i64 i,.int .i64 i,.int .u32 x,.int .u64 c,.ak 1 m (aB y),.int .i64 m,.int .i64 j]
theorem ajo {n m:Nat} {z y:Nat->Nat} (hz:∀i,i<n->z i<2^32) (hy:∀i,i<m->y i<2^32) (hn:n<2^40) (hm':m<2^40) (K:Nat) (pre:aF):
  aD P AY K [.ak 1 n (aB z),.ak 1 m (aB y)] pre (aK (.mag (val n z*val m y)) []):=by
 refine kB hT aaN rfl aW rfl (fun _ c0 h0=>?_) K pre
 refine ay.hole [1,1,0,1] ag (aG.bB hT gT hm 30 qX ahC ag ?_)
 have hw:IntKind.i64.wrap ((n:Int)+(m:Int))=((n+m:Nat):Int):=by rw[wrap_i64 aa aa];omega
 simp only[ah.all,aA,hw,aZ]
 refine⟨aa,fun s' hv=>?_⟩
 refine ay.iS (i:=0) (y:=part (az kq) [1,1,0,1,0,0]) ag
  (fun p:Nat×(Nat->Nat)=>⟨aE qX (tY n m z y 7 p.1),[(7,⟨true,true,1,n+m,aB p.2⟩)],8⟩)
  (fun p=>p.1<=n/\(∀j,j<n+m->p.2 j<2^32)/\(∀j,p.1+m<=j->p.2 j=0)/\val (n+m) p.2=val p.1 z*val m y)
  (fun p=>n-p.1) (0,fun _=>0)
  (dF [(7,24576)] hv h0 rfl ⟨⟨rfl,aL rfl⟩,⟨rfl,cT rfl rfl rfl⟩,⟨rfl,aL rfl⟩,⟨rfl,aL rfl⟩,⟨rfl,aL rfl⟩,trivial⟩
   ⟨⟨_,_,rfl,rfl,fU rfl fun j _=>rfl⟩,trivial⟩)
  ⟨by simp,fun j _=>by simp,fun j _=>rfl,?_⟩ ?_
 ·simp only
  rw[nN (k:=0) aa fun _ _ _=>rfl]
  simp[val]
 rintro⟨i,o⟩ ⟨hi,ho,ho0,hval⟩
 simp only at hi ho ho0 hval
 have next:∀{o':Nat->Nat} {s':aJ},i<n->bw qX s'=some (tY n m z y 7 i,[(7,⟨true,true,1,n+m,aB o'⟩)])->(∀j,j<n+m->o' j<2^32)->(∀j,i+1+m<=j->o' j=0)->
   val (n+m) o'=val (i+1) z*val m y->∀{QF:aq->aJ->Prop},
   aG P c0 kq.ntmps (behind (part (az kq) [1,1,0,1,0,0]) [1,1,0]) s' (dU (fun s'=>∃k:Nat×(Nat->Nat),(∃ρ,Le c0 ρ s' ⟨aE qX (tY n m z y 7 k.1),[(7,⟨true,true,1,n+m,aB k.2⟩)],8⟩)/\
    (k.1<=n/\(∀j,j<n+m->k.2 j<2^32)/\(∀j,k.1+m<=j->k.2 j=0)/\val (n+m) k.2=val k.1 z*val m y)/\n-k.1<n-i) QF):=by
  intro o' s' hin hv g1 g2 g3 QF
  refine aG.weak ag (dF (vs:=tY n m z y 7 i) (ps:=[(7,⟨true,true,1,n+m,aB o'⟩)]) (nx:=8) [(7,7)] hv h0 rfl ⟨⟨rfl,aL rfl⟩,⟨rfl,cT rfl rfl rfl⟩,⟨rfl,aL rfl⟩,⟨rfl,aL rfl⟩,⟨rfl,aL rfl⟩,trivial⟩
    ⟨⟨_,_,rfl,rfl,fU rfl fun j _=>rfl⟩,trivial⟩)
   (aG.bB hT gT hm 30 qX Ui ag ?_)
  intro s' hv
  exact⟨(i+1,o'),dF [(7,7)] hv h0 rfl ⟨⟨rfl,aL rfl⟩,⟨rfl,cT rfl rfl rfl⟩,⟨rfl,aL rfl⟩,⟨rfl,aL rfl⟩,⟨rfl,gB (by rw[wrap_i64 aa aa];simp only;omega)⟩,trivial⟩
    ⟨⟨_,_,rfl,rfl,fU rfl fun j _=>rfl⟩,trivial⟩,⟨by simp only;omega,g1,g2,g3⟩,by simp only;omega⟩
 refine ay.hole [1,1,0] ag (aG.bB hT gT hm 30 qX afn ag ?_)
 simp only[ah.all,bh,bz]
 refine⟨fun h1 s' hv=>?_,fun h1 s' hv=>?_⟩
 ·have hin:i<n:=aa
  have hzi:=hz i hin
  refine ay.kO (dF (vs:=tY n m z y 7 i) (ps:=[(7,⟨true,true,1,n+m,aB o⟩)]) (nx:=8) [(7,7)] hv h0 rfl ⟨⟨rfl,aL rfl⟩,⟨rfl,cT rfl rfl rfl⟩,⟨rfl,aL rfl⟩,⟨rfl,aL rfl⟩,⟨rfl,aL rfl⟩,trivial⟩
    ⟨⟨_,_,rfl,rfl,fU rfl fun j _=>rfl⟩,trivial⟩) ?_
  refine ay.q9 (i:=1) (y:=part (az kq) [1,1,0,1,0,0,1,1,0,0]) ag ?_
  refine ay.hole [1,1,1,0,1] ag (aG.bB hT gT hm 30 I3 abf ag ?_)
  simp only[ah.all,aA,aZ,beq_iff_eq,beq_eq_false_iff_ne,ne_eq]
  refine⟨aa,fun hz0 s' hv=>?_,fun hz0 s' hv=>?_⟩
  ·refine fN ?_
   exact(next hin (iY (ls:=qX) (l:=[6,7,8,26,27,28]) (vs:=tY n m z y 7 i) hv rfl rfl) ho (fun j hj=>ho0 j aa) (by rw[hval,val,show z i=0 by omega];simp))
  refine ay.iS (i:=2) (y:=part (part (az kq) [1,1,0,1,0,0,1,1,0,0]) [1,1,1,0,1,0,0]) ag
   (fun p:Nat×Nat×(Nat->Nat)=>⟨aE I3 (PV n m z y 7 i (z i) p.2.1 p.1),[(7,⟨true,true,1,n+m,aB p.2.2⟩)],8⟩)
   (fun p=>p.1<=m/\p.2.1<2^32/\(∀j,j<n+m->p.2.2 j<2^32)/\(∀j,i+m<=j->p.2.2 j=0)/\val (n+m) p.2.2+p.2.1*2^(32*(i+p.1))=val i z*val m y+z i*val p.1 y*2^(32*i))
   (fun p=>m-p.1) (0,0,o)
   (dF [(7,7)] hv h0 rfl ⟨⟨rfl,aL rfl⟩,⟨rfl,cT rfl rfl rfl⟩,⟨rfl,aL rfl⟩,⟨rfl,aL rfl⟩,⟨rfl,aL rfl⟩,⟨rfl,aL rfl⟩,⟨rfl,aL rfl⟩,⟨rfl,aL rfl⟩,⟨rfl,aL rfl⟩,⟨rfl,aL rfl⟩,⟨rfl,aL rfl⟩,trivial⟩
    ⟨⟨_,_,rfl,rfl,fU rfl fun j _=>rfl⟩,trivial⟩)
   ⟨by simp,by simp,ho,ho0,by simp[val,hval]⟩ ?_
  rintro⟨j,c,o⟩ ⟨hj,hc,ho,ho0,hval⟩
  simp only at hj hc ho ho0 hval
  refine ay.bB hT gT hm 30 I3 acV ag ?_
  have hij:IntKind.i64.wrap ((i:Int)+(j:Int))=((i+j:Nat):Int):=by rw[wrap_i64 aa aa];omega
  simp only[ah.all,aA,bh,bz,hij,aZ,Nat.add_zero,beq_iff_eq]
  refine⟨fun h2=>?_,fun h2 s' hv=>fN ?_⟩
  ·have hjm:j<m:=aa
   obtain⟨m1,m2,m3⟩:=Mt hc hzi (hy j hjm) (ho (i+j) aa)
   rw[m1]
   refine⟨aa,aa,aa,aa,fun s' hv=>⟨(j+1,(c+z i*y j+o (i+j))/4294967296,cA o (i+j) ((c+z i*y j+o (i+j))%4294967296)),?_,⟨by simp only;omega,m3,iN aa ho,fun k hk=>?_,?_⟩,by simp only;omega⟩⟩
   ·refine dF [(7,7)] hv h0 rfl ⟨⟨rfl,aL rfl⟩,⟨rfl,cT rfl rfl rfl⟩,⟨rfl,aL rfl⟩,⟨rfl,aL rfl⟩,⟨rfl,aL rfl⟩,⟨rfl,aL rfl⟩,⟨rfl,aL rfl⟩,⟨rfl,gB ?_⟩,⟨rfl,aL rfl⟩,⟨rfl,aL rfl⟩,⟨rfl,gB ?_⟩,trivial⟩
     ⟨⟨_,_,rfl,rfl,fU rfl fun k _=>g9 (by rw[j8]) k⟩,trivial⟩
    ·rw[mE];simp only;omega
    ·rw[wrap_i64 aa aa];simp only;omega
   ·exact(fW aa).trans (ho0 k hk)
   ·simp only
    rw[show 32*(i+(j+1))=32*((i+j)+1) by omega,iy,val]
    have hset:=Ge (o:=o) (x:=(c+z i*y j+o (i+j))%4294967296) (show i+j<n+m by omega)
    exact Ri rfl (Nat.div_add_mod _ _) hset (by rw[<-Nat.pow_add];congr 1;omega) hval
  ·have hjm:j=m:=aa
   subst hjm
   refine aG.weak ag (dF (vs:=PV n j z y 7 i (z i) c j) (ps:=[(7,⟨true,true,1,n+j,aB o⟩)]) (nx:=8) [(7,7)] hv h0 rfl
     ⟨⟨rfl,aL rfl⟩,⟨rfl,cT rfl rfl rfl⟩,⟨rfl,aL rfl⟩,⟨rfl,aL rfl⟩,⟨rfl,aL rfl⟩,⟨rfl,aL rfl⟩,⟨rfl,aL rfl⟩,⟨rfl,aL rfl⟩,⟨rfl,aL rfl⟩,⟨rfl,aL rfl⟩,⟨rfl,aL rfl⟩,trivial⟩
     ⟨⟨_,_,rfl,rfl,fU rfl fun j _=>rfl⟩,trivial⟩)
    (aG.bB hT gT hm 30 qX abm ag ?_)
   simp only[ah.all,aA,hij,aZ,Nat.add_zero,beq_iff_eq]
   refine⟨aa,fun s' hv=>?_⟩
   have hf:(fun k=>if k=i+j then AV.int .u32 (IntKind.u32.wrap (c:Int))else aB o k)=aB (cA o (i+j) c):=by
    funext k
    exact g9 (wrap_u32 aa aa) k
   rw[hf]at hv
   refine next hin hv (iN hc ho) (fun k hk=>(fW aa).trans (ho0 k aa)) ?_
   rw[sS aa (ho0 _ aa),hval,val,Nat.add_mul,Nat.mul_assoc,Nat.mul_assoc,Nat.mul_comm (val j y)]
 ·have hin:i=n:=aa
  subst hin
  refine tZ (fN ?_)
  refine(aG.weak ag (dF (vs:=tY i m z y 7 i) (ps:=[(7,⟨true,true,1,i+m,aB o⟩)]) (nx:=8) [(7,7)] hv h0 rfl ⟨⟨rfl,aL rfl⟩,⟨rfl,cT rfl rfl rfl⟩,⟨rfl,aL rfl⟩,⟨rfl,aL rfl⟩,⟨rfl,aL rfl⟩,trivial⟩
    ⟨⟨_,_,rfl,rfl,fU rfl fun j _=>rfl⟩,trivial⟩)
   (aG.fin hT gT hm 30 Xe ag ?_))
  simp only[ah.all,aA,Nat.add_zero,j6]
  exact⟨⟨gE ho,aa⟩,dL (congrArg AV.mag hval)⟩
def OJ (A n B m:Nat):dw:=aK (.mag (A*B)) [n<2^40,m<2^40]
theorem amD:∀K args pre r,bU (iL OJ) K args pre=some r->aD P AY K args pre r:=
 cB (uJ fun _ _ _ _ K hz hy need=>ajo hz hy need.1 need.2 K [])
end Go.Am.B
