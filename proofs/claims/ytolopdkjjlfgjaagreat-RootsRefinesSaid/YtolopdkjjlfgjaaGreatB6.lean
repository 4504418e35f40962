/- slices.Clone, slices.Equal, natural.Mul. -/
import Derived.Test.YtolopdkjjlfgjaaGreatB5
set_option linter.unusedVariables false
namespace Go.Am.B
open Go Go.Am.N AV Proofs.Tryz IntKind
theorem ahp:bf 181 f181:=bg func181
theorem afD:bf 117 f117:=bg func117
theorem ab5:bf 119 f119:=bg func119
theorem afX {n:Nat} {b:Bool} {f:Nat->AV}:b9 T [] [4] 30 f181 (aH f181) ⟨aU 0 [.e9 b 1 n f],[],0⟩=
  some (ag.fork b (ag.leaf aq.ret [nil]) (ag.aj [(0:Nat)*1<=2^24,((0:Nat)+n)*((4:Nat)+1)*2<=2^47] (ag.leaf aq.ret [ak 1 ((0:Nat)+n) fun i=>if i+0<0 then nth [] (int .u32 (0:Int)) (i+0)else f (i+0-0)]))):=ah
theorem aef {A B:Nat}:aI T [] [10] 30 [0,1,12,13,4] (before (aH f117) [1,1,0,1]) ⟨aU 0 [.mag A,.mag B],[],0⟩=
  some (ag.fork ((↑(nl A):Int)!=(↑(nl B):Int)) (ag.leaf aq.ret ([mag A,mag B,tuple [],tuple [],AV.bool false],[])) (ag.leaf aq.normal ([mag A,mag B,int .i64 (↑(nl A):Int),int .i64 (0:Int),AV.bool false],[]))):=ah
theorem ag6 {A B i:Nat}:aI T [] [14,24] 30 [0,1,12,13,4] [part (aH f117) [1,1,0,1,0,0]] ⟨aC [0,1,12,13,4] [.mag A,.mag B,.int .i64 (nl A),.int .i64 i,.bool false],[],0⟩=
  let c3:Int:=(↑(nl A):Int);let c2:Int:=(↑i:Int);let c1:List AV:=[mag A,mag B,int .i64 c3,int .i64 c2,AV.bool false];some (ag.fork (decide (c2<c3)) (ag.aj [(0:Int)<=c2/\c2.toNat<nl A,(0:Int)<=c2/\c2.toNat<nl B] (ag.fork ((↑(aD A c2.toNat):Int)!=(↑(aD B c2.toNat):Int)) (ag.leaf aq.ret (c1,[])) (ag.leaf aq.normal ([mag A,mag B,int .i64 c3,int .i64 (i64.wrap (c2+1)),AV.bool false],[])))) (ag.leaf (aq.exit 0) (c1,[]))):=ah
theorem WC {A B i:Nat}:cQ T [] [] 30 f117 (behind (aH f117) [1,1,0,1]) ⟨aC [0,1,12,13,4] [.mag A,.mag B,.int .i64 (nl A),.int .i64 i,.bool false],[],0⟩=
  some (ag.leaf aq.ret [AV.bool true]):=ah
theorem Yw {n m:Nat} {z y:Nat->Nat}:aI T G1 [] 30 [1,5,17,18,19] (before (aH f119) [1,1,0,1]) ⟨aU 0 [.ak 1 n (aB z),.ak 1 m (aB y)],[],0⟩=
  let c1:Int:=i64.wrap ((↑n:Int)+(↑m:Int));some (ag.aj [(0:Int)<=c1/\c1<=c1/\c1<=2^47/\c1*(↑(4:Nat):Int)<=2^47] (ag.leaf aq.normal ([ak 1 m fun a=>int .u32 (↑(y a):Int),own 24576 1 0 c1.toNat,ak 1 n fun a=>int .u32 (↑(z a):Int),int .i64 (↑n:Int),int .i64 (0:Int)],[(24576,au.mk true true 1 c1.toNat fun x=>int .u32 (0:Int))]))):=ah
theorem S3 {n m i:Nat} {z y o:Nat->Nat}:aI T G1 [20] 30 [1,5,17,18,19] (before (part (aH f119) [1,1,0,1,0,0]) [1,1,0]) ⟨aC [1,5,17,18,19] [.ak 1 m (aB y),.own 7 1 0 (n+m),.ak 1 n (aB z),.int .i64 n,.int .i64 i],[(7,⟨true,true,1,n+m,aB o⟩)],8⟩=
  let c1:List AV×aE:=([ak 1 m fun a=>int .u32 (↑(y a):Int),own 7 1 0 (n+m),ak 1 n fun a=>int .u32 (↑(z a):Int),int .i64 (↑n:Int),int .i64 (↑i:Int)],[(7,au.mk true true 1 (n+m) fun a=>int .u32 (↑(o a):Int))]);some (ag.fork (decide ((↑i:Int)<(↑n:Int))) (ag.leaf aq.normal c1) (ag.leaf (aq.exit 0) c1)):=ah
theorem XC {n m i:Nat} {z y o:Nat->Nat}:aI T G1 [25] 30 [1,5,17,18,19,6,7,8,26,27,28] (before (part (aH f119) [1,1,0,1,0,0,1,1,0,0]) [1,1,1,0,1]) ⟨aC [1,5,17,18,19] [.ak 1 m (aB y),.own 7 1 0 (n+m),.ak 1 n (aB z),.int .i64 n,.int .i64 i],[(7,⟨true,true,1,n+m,aB o⟩)],8⟩=
  let c8:Int:=(↑i:Int);let c7:AV:=int .i64 (↑n:Int);let c6:AV:=own 7 1 0 (n+m);let c4:AV:=ak 1 n fun a=>int .u32 (↑(z a):Int);let c2:Nat×au:=(7,au.mk true true 1 (n+m) fun a=>int .u32 (↑(o a):Int));let c1:AV:=ak 1 m fun a=>int .u32 (↑(y a):Int);let c5:Int:=(↑(z c8.toNat):Int);let c3:AV:=int .i64 c8;some (ag.aj [(0:Int)<=c8/\c8.toNat<n] (ag.fork (c5==0) (ag.leaf (aq.exit 1) ([c1,c6,c4,c7,c3,c3,int .u32 c5,tuple [],tuple [],tuple [],tuple []],[c2])) (ag.leaf aq.normal ([c1,c6,c4,c7,c3,c3,int .u32 c5,int .u64 (0:Int),c1,int .i64 (↑m:Int),int .i64 (0:Int)],[c2])))):=ah
theorem UE {n m i j x c:Nat} {z y o:Nat->Nat}:aI T G1 [29] 30 [1,5,17,18,19,6,7,8,26,27,28] [part (part (aH f119) [1,1,0,1,0,0,1,1,0,0]) [1,1,1,0,1,0,0]] ⟨aC [1,5,17,18,19,6,7,8,26,27,28] [.ak 1 m (aB y),.own 7 1 0 (n+m),.ak 1 n (aB z),.int .i64 n,.int .i64 i,.int .i64 i,.int .u32 x,.int .u64 c,.ak 1 m (aB y),.int .i64 m,.int .i64 j],[(7,⟨true,true,1,n+m,aB o⟩)],8⟩=
  let c12:AV:=int .i64 (↑n:Int);let c11:AV:=int .u32 (↑x:Int);let c10:AV:=int .i64 (↑m:Int);let c8:AV:=own 7 1 0 (n+m);let c7:Int:=(↑j:Int);let c6:AV:=ak 1 n fun a=>int .u32 (↑(z a):Int);let c4:AV:=int .i64 (↑i:Int);let c3:AV:=ak 1 m fun a=>int .u32 (↑(y a):Int);let c1:Int:=i64.wrap ((↑i:Int)+c7);let c5:Nat:=c1.toNat+0;let c9:List Prop:=[(0:Int)<=c1/\c1.toNat<n+m,c5<n+m];let c2:Int:=u64.wrap ((↑c:Int)+u64.wrap (u64.wrap (u64.wrap (↑x:Int)*u64.wrap (↑(y c7.toNat):Int))+u64.wrap (↑(o c5):Int)));some (ag.fork (decide (c7<(↑m:Int))) (ag.aj [(0:Int)<=c7/\c7.toNat<m] (ag.aj c9 (ag.aj c9 (ag.aj [(0:Int)<=32] (ag.leaf aq.normal ([c3,c8,c6,c12,c4,c4,c11,int .u64 (c2.fdiv ((2:Int)^min (Int.toNat (32:Int)) u64.bits)),c3,c10,int .i64 (i64.wrap (c7+1))],[(7,au.mk true true 1 (n+m) fun j=>if(j==c5)=true then int .u32 (u32.wrap c2)else aB o j)])))))) (ag.leaf (aq.exit 2) ([c3,c8,c6,c12,c4,c4,c11,int .u64 (↑c:Int),c3,c10,int .i64 c7],[(7,au.mk true true 1 (n+m) fun a=>int .u32 (↑(o a):Int))]))):=ah
theorem acG {n m i j x c:Nat} {z y o:Nat->Nat}:aI T G1 [] 30 [1,5,17,18,19] (behind (part (aH f119) [1,1,0,1,0,0,1,1,0,0]) [1,1,1,0,1]) ⟨aC [1,5,17,18,19,6,7,8,26,27,28] [.ak 1 m (aB y),.own 7 1 0 (n+m),.ak 1 n (aB z),.int .i64 n,.int .i64 i,.int .i64 i,.int .u32 x,.int .u64 c,.ak 1 m (aB y),.int .i64 m,.int .i64 j],[(7,⟨true,true,1,n+m,aB o⟩)],8⟩=
  let c1:Int:=i64.wrap ((↑i:Int)+(↑m:Int));let c2:Nat:=c1.toNat+0;some (ag.aj [(0:Int)<=c1/\c1.toNat<n+m,c2<n+m] (ag.leaf aq.normal ([ak 1 m fun a=>int .u32 (↑(y a):Int),own 7 1 0 (n+m),ak 1 n fun a=>int .u32 (↑(z a):Int),int .i64 (↑n:Int),int .i64 (↑i:Int)],[(7,au.mk true true 1 (n+m) fun j=>if(j==c2)=true then int .u32 (u32.wrap (↑c:Int))else aB o j)]))):=ah
theorem akc {n m i:Nat} {z y o:Nat->Nat}:aI T G1 [] 30 [1,5,17,18,19] (behind (part (aH f119) [1,1,0,1,0,0]) [1,1,0]) ⟨aC [1,5,17,18,19] [.ak 1 m (aB y),.own 7 1 0 (n+m),.ak 1 n (aB z),.int .i64 n,.int .i64 i],[(7,⟨true,true,1,n+m,aB o⟩)],8⟩=
  some (ag.leaf aq.normal ([ak 1 m fun a=>int .u32 (↑(y a):Int),own 7 1 0 (n+m),ak 1 n fun a=>int .u32 (↑(z a):Int),int .i64 (↑n:Int),int .i64 (i64.wrap ((↑i:Int)+1))],[(7,au.mk true true 1 (n+m) fun a=>int .u32 (↑(o a):Int))])):=ah
theorem aj2 {n m i:Nat} {z y o:Nat->Nat}:cQ T G1 [] 30 f119 (behind (aH f119) [1,1,0,1]) ⟨aC [1,5,17,18,19] [.ak 1 m (aB y),.own 7 1 0 (n+m),.ak 1 n (aB z),.int .i64 n,.int .i64 i],[(7,⟨true,true,1,n+m,aB o⟩)],8⟩=
  some (ag.aj [fm (n+m) fun i=>aB o (i+0),n+m<2^62] (ag.leaf aq.ret [mag (val (n+m) fun i=>numOf (aB o (i+0)))])):=ah
theorem Gi {n:Nat} {f:Nat->AV} (hn:n<2^40) (K:Nat):aQ P 181 K [.ak 1 n f] [] (aL (.ak 1 n f) []):=by
 refine HA fun b hb=>?_
 refine ck hT cz hm ahp rfl aX rfl 30 afX (fun _=>?_) K []
 simp only[ag.all,az]
 refine⟨fun h=>?_,fun h=>⟨⟨aa,aa⟩,wg aa fun i hi=>by simp⟩⟩
 rw[hb h]
 exact lZ aa
def AP:Spec:=cu fun l=>match l with
 |[.mag N]=>some (aL (.mag N) [nl N<2^40])
 |[.nil]=>some (aL (.mag 0) [])
 |[.ak es n f]=>if es==1 then some (aL (.ak 1 n f) [n<2^40])else none
 |_=>none
theorem HB:aY P AP 181:=by
 refine cW fun K args r hk hs _=>?_
 split at hs
 ·rename_i N
  simp only[ay]at hs
  subst hs
  intro need
  have:=gW (args:=[.mag N]) (Gi (n:=nl N) (f:=fun i=>.int .u32 (aD N i)) need K) rfl ⟨QY rfl fun i hi=>rfl,trivial⟩ []
  exact P3 (l':=[]) this id rfl rfl (lT rfl fun i hi=>rfl) trivial
 ·simp only[ay]at hs
  subst hs
  intro need
  have:=gW (args:=[.nil]) (Gi (n:=0) (f:=fun _=>.nil) aa K) rfl ⟨lZ aa,trivial⟩ []
  exact P3 (l':=[]) this id rfl rfl (lT (by simp[nl]) fun i hi=>aa) trivial
 ·rename_i es n f
  split at hs
  ·rename_i he
   have he:es=1:=by simpa using he
   subst he
   simp only[ay]at hs
   subst hs
   exact fun need=>Gi need K trivial
  ·simp at hs
 ·simp at hs
theorem Tm {A B:Nat} (hA:nl A<2^40) (hB:nl B<2^40) (K:Nat) (pre:aE):aQ P 117 K [.mag A,.mag B] pre (aL (.bool (decide (A=B))) []):=by
 refine kO hT afD rfl aX rfl (fun _ c h0=>?_) K pre
 refine ax.hole [1,1,0,1] ah (aG.bO hT cz hm 30 [0,1,12,13,4] aef ah ?_)
 simp only[ag.all,bne_iff_ne,ne_eq,Int.natCast_inj,bne_eq_false_iff_eq]
 refine⟨fun hb s' hv=>?_,fun hb s' hv=>?_⟩
 ·exact iP (us:=[.bool false]) (.inr rfl) hv ah (gG (decide_eq_false fun h=>hb (by rw[h])).symm)
 refine ax.jj (i:=0) (y:=part (aH f117) [1,1,0,1,0,0]) ah
  (fun i:Nat=>⟨aC [0,1,12,13,4] [.mag A,.mag B,.int .i64 (nl A),.int .i64 i,.bool false],[],0⟩)
  (fun i=>i<=nl A/\∀j,j<i->aD A j=aD B j) (fun i=>nl A-i) 0
  (eG [] hv h0 rfl ⟨aS,aS,aS,aS,aS,trivial⟩ trivial) ⟨aa,fun j h=>aa⟩ ?_
 rintro i ⟨hi,hlim⟩
 refine ax.bO hT cz hm 30 [0,1,12,13,4] ag6 ah ?_
 simp only[ag.all,az,bB,bD,bne_iff_ne,ne_eq,Int.natCast_inj,bne_eq_false_iff_eq,bJ]
 refine⟨fun h1=>⟨⟨aa,aa⟩,fun hne s' hv=>?_,fun heq s' hv=>?_⟩,fun h1 s' hv=>?_⟩
 ·exact iP (us:=[.bool false]) (.inr rfl) hv ah (gG (decide_eq_false fun h=>hne (by rw[h])).symm)
 ·refine⟨i+1,eG [] hv h0 rfl ⟨aS,aS,aS,⟨rfl,iK (by rw[wrap_i64 aa aa];omega)⟩,aS,trivial⟩ trivial,⟨aa,fun j hj=>?_⟩,aa⟩
  by_cases h:j=i
  ·subst h;exact heq
  ·exact hlim j aa
 ·have hAB:A=B:=Io hb fun j hj=>hlim j aa
  exact aG.weak ah (eG (vs:=[.mag A,.mag B,.int .i64 (nl A),.int .i64 i,.bool false]) (ps:=[]) (nx:=0) [] hv h0 rfl ⟨aS,aS,aS,aS,aS,trivial⟩ trivial)
   (aG.fin hT cz hm 30 WC ah (gG (decide_eq_true hAB).symm))
def jJ:AV->Option Nat
 |.mag N=>some N
 |.nil=>some 0
 |_=>none
theorem mY {a:AV} {N:Nat} (h:jJ a=some N):aW a (.mag N):=by
 cases a<;>simp only[jJ,reduceCtorEq,ay]at h
 case mag M=>subst h;exact .refl _
 case nil=>subst h;exact l9
def Fo:Spec:=cu fun l=>match l with
 |[a,b]=>match jJ a,jJ b with
  |some A,some B=>some (aL (.bool (decide (A=B))) [nl A<2^40,nl B<2^40])
  |_,_=>none
 |_=>none
theorem Nz:aY P Fo 117:=by
 refine cW fun K args r hk hs _=>?_
 split at hs
 ·split at hs
  ·rename_i A B hA hB
   simp only[ay]at hs
   subst hs
   exact fun need=>gW (Tm need.1 need.2 K []) hk ⟨mY hA,mY hB,trivial⟩ [] trivial
  ·simp at hs
 ·simp at hs
abbrev qD:List Nat:=[1,5,17,18,19]
abbrev tu (n m:Nat) (z y:Nat->Nat) (K i:Nat):List AV:=[.ak 1 m (aB y),.own K 1 0 (n+m),.ak 1 n (aB z),.int .i64 n,.int .i64 i]
abbrev FO:List Nat:=[1,5,17,18,19,6,7,8,26,27,28]
abbrev MC (n m:Nat) (z y:Nat->Nat) (K i x c j:Nat):List AV:=[.ak 1 m (aB y),.own K 1 0 (n+m),.ak 1 n (aB z),.int .i64 n,.int .i64 i,.int .i64 i,.int .u32 x,.int .u64 c,.ak 1 m (aB y),.int .i64 m,.int .i64 j]
theorem U1 {n m:Nat} {z y:Nat->Nat} (hz:∀i,i<n->z i<2^32) (hy:∀i,i<m->y i<2^32) (hn:n<2^40) (hm':m<2^40) (K:Nat) (pre:aE):
  aQ P 119 K [.ak 1 n (aB z),.ak 1 m (aB y)] pre (aL (.mag (val n z*val m y)) []):=by
 refine kO hT ab5 rfl aX rfl (fun _ c0 h0=>?_) K pre
 refine ax.hole [1,1,0,1] ah (aG.bO hT iT hm 30 qD Yw ah ?_)
 have hw:i64.wrap ((n:Int)+(m:Int))=((n+m:Nat):Int):=by rw[wrap_i64 aa aa];omega
 simp only[ag.all,az,hw,bJ]
 refine⟨aa,fun s' hv=>?_⟩
 refine ax.jj (i:=0) (y:=part (aH f119) [1,1,0,1,0,0]) ah
  (fun p:Nat×(Nat->Nat)=>⟨aC qD (tu n m z y 7 p.1),[(7,⟨true,true,1,n+m,aB p.2⟩)],8⟩)
  (fun p=>p.1<=n/\(∀j,j<n+m->p.2 j<2^32)/\(∀j,p.1+m<=j->p.2 j=0)/\val (n+m) p.2=val p.1 z*val m y)
  (fun p=>n-p.1) (0,fun _=>0)
  (eG [(7,24576)] hv h0 rfl ⟨aS,⟨rfl,eE rfl rfl rfl⟩,aS,aS,aS,trivial⟩
   ⟨⟨_,_,rfl,rfl,gI rfl fun j _=>rfl⟩,trivial⟩)
  ⟨by simp,fun j _=>by simp,fun j _=>rfl,?_⟩ ?_
 ·simp only
  rw[ot (k:=0) aa fun _ _ _=>rfl]
  simp[val]
 rintro⟨i,o⟩ ⟨hi,ho,ho0,hval⟩
 simp only at hi ho ho0 hval
 have next:∀{o':Nat->Nat} {s':aN},i<n->bE qD s'=some (tu n m z y 7 i,[(7,⟨true,true,1,n+m,aB o'⟩)])->(∀j,j<n+m->o' j<2^32)->(∀j,i+1+m<=j->o' j=0)->
   val (n+m) o'=val (i+1) z*val m y->∀{QF:aq->aN->Prop},
   aG P c0 f119.ntmps (behind (part (aH f119) [1,1,0,1,0,0]) [1,1,0]) s' (fI (fun s'=>∃k:Nat×(Nat->Nat),(∃ρ,Le c0 ρ s' ⟨aC qD (tu n m z y 7 k.1),[(7,⟨true,true,1,n+m,aB k.2⟩)],8⟩)/\
    (k.1<=n/\(∀j,j<n+m->k.2 j<2^32)/\(∀j,k.1+m<=j->k.2 j=0)/\val (n+m) k.2=val k.1 z*val m y)/\n-k.1<n-i) QF):=by
  intro o' s' hin hv g1 g2 g3 QF
  refine aG.weak ah (eG (vs:=tu n m z y 7 i) (ps:=[(7,⟨true,true,1,n+m,aB o'⟩)]) (nx:=8) [(7,7)] hv h0 rfl ⟨aS,⟨rfl,eE rfl rfl rfl⟩,aS,aS,aS,trivial⟩
    ⟨⟨_,_,rfl,rfl,gI rfl fun j _=>rfl⟩,trivial⟩)
   (aG.bO hT iT hm 30 qD akc ah ?_)
  intro s' hv
  exact⟨(i+1,o'),eG [(7,7)] hv h0 rfl ⟨aS,⟨rfl,eE rfl rfl rfl⟩,aS,aS,⟨rfl,iK (by rw[wrap_i64 aa aa];simp only;omega)⟩,trivial⟩
    ⟨⟨_,_,rfl,rfl,gI rfl fun j _=>rfl⟩,trivial⟩,⟨by simp only;omega,g1,g2,g3⟩,by simp only;omega⟩
 refine ax.hole [1,1,0] ah (aG.bO hT iT hm 30 qD S3 ah ?_)
 simp only[ag.all,bB,bD]
 refine⟨fun h1 s' hv=>?_,fun h1 s' hv=>?_⟩
 ·have hin:i<n:=aa
  have hzi:=hz i hin
  refine ax.nT (eG (vs:=tu n m z y 7 i) (ps:=[(7,⟨true,true,1,n+m,aB o⟩)]) (nx:=8) [(7,7)] hv h0 rfl ⟨aS,⟨rfl,eE rfl rfl rfl⟩,aS,aS,aS,trivial⟩
    ⟨⟨_,_,rfl,rfl,gI rfl fun j _=>rfl⟩,trivial⟩) ?_
  refine ax.rO (i:=1) (y:=part (aH f119) [1,1,0,1,0,0,1,1,0,0]) ah ?_
  refine ax.hole [1,1,1,0,1] ah (aG.bO hT iT hm 30 FO XC ah ?_)
  simp only[ag.all,az,bJ,beq_iff_eq,beq_eq_false_iff_ne,ne_eq]
  refine⟨aa,fun hz0 s' hv=>?_,fun hz0 s' hv=>?_⟩
  ·refine gB ?_
   exact(next hin (kn (ls:=qD) (l:=[6,7,8,26,27,28]) (vs:=tu n m z y 7 i) hv rfl rfl) ho (fun j hj=>ho0 j aa) (by rw[hval,val,show z i=0 by omega];simp))
  refine ax.jj (i:=2) (y:=part (part (aH f119) [1,1,0,1,0,0,1,1,0,0]) [1,1,1,0,1,0,0]) ah
   (fun p:Nat×Nat×(Nat->Nat)=>⟨aC FO (MC n m z y 7 i (z i) p.2.1 p.1),[(7,⟨true,true,1,n+m,aB p.2.2⟩)],8⟩)
   (fun p=>p.1<=m/\p.2.1<2^32/\(∀j,j<n+m->p.2.2 j<2^32)/\(∀j,i+m<=j->p.2.2 j=0)/\val (n+m) p.2.2+p.2.1*2^(32*(i+p.1))=val i z*val m y+z i*val p.1 y*2^(32*i))
   (fun p=>m-p.1) (0,0,o)
   (eG [(7,7)] hv h0 rfl ⟨aS,⟨rfl,eE rfl rfl rfl⟩,aS,aS,aS,aS,aS,aS,aS,aS,aS,trivial⟩
    ⟨⟨_,_,rfl,rfl,gI rfl fun j _=>rfl⟩,trivial⟩)
   ⟨by simp,by simp,ho,ho0,by simp[val,hval]⟩ ?_
  rintro⟨j,c,o⟩ ⟨hj,hc,ho,ho0,hval⟩
  simp only at hj hc ho ho0 hval
  refine ax.bO hT iT hm 30 FO UE ah ?_
  have hij:i64.wrap ((i:Int)+(j:Int))=((i+j:Nat):Int):=by rw[wrap_i64 aa aa];omega
  simp only[ag.all,az,bB,bD,hij,bJ,Nat.add_zero,beq_iff_eq]
  refine⟨fun h2=>?_,fun h2 s' hv=>gB ?_⟩
  ·have hjm:j<m:=aa
   obtain⟨m1,m2,m3⟩:=QJ hc hzi (hy j hjm) (ho (i+j) aa)
   rw[m1]
   refine⟨aa,aa,aa,aa,fun s' hv=>⟨(j+1,(c+z i*y j+o (i+j))/4294967296,cV o (i+j) ((c+z i*y j+o (i+j))%4294967296)),?_,⟨by simp only;omega,m3,js aa ho,fun k hk=>?_,?_⟩,by simp only;omega⟩⟩
   ·refine eG [(7,7)] hv h0 rfl ⟨aS,⟨rfl,eE rfl rfl rfl⟩,aS,aS,aS,aS,aS,⟨rfl,iK ?_⟩,aS,aS,⟨rfl,iK ?_⟩,trivial⟩
     ⟨⟨_,_,rfl,rfl,gI rfl fun k _=>iY (by rw[kX]) k⟩,trivial⟩
    ·rw[mR];simp only;omega
    ·rw[wrap_i64 aa aa];simp only;omega
   ·exact(gX aa).trans (ho0 k hk)
   ·simp only
    rw[show 32*(i+(j+1))=32*((i+j)+1) by omega,jf,val]
    have hset:=Fl (o:=o) (x:=(c+z i*y j+o (i+j))%4294967296) (show i+j<n+m by omega)
    exact QL rfl (Nat.div_add_mod _ _) hset (by rw[<-Nat.pow_add];congr 1;omega) hval
  ·have hjm:j=m:=aa
   subst hjm
   refine aG.weak ah (eG (vs:=MC n j z y 7 i (z i) c j) (ps:=[(7,⟨true,true,1,n+j,aB o⟩)]) (nx:=8) [(7,7)] hv h0 rfl
     ⟨aS,⟨rfl,eE rfl rfl rfl⟩,aS,aS,aS,aS,aS,aS,aS,aS,aS,trivial⟩
     ⟨⟨_,_,rfl,rfl,gI rfl fun j _=>rfl⟩,trivial⟩)
    (aG.bO hT iT hm 30 qD acG ah ?_)
   simp only[ag.all,az,hij,bJ,Nat.add_zero,beq_iff_eq]
   refine⟨aa,fun s' hv=>?_⟩
   have hf:(fun k=>if k=i+j then AV.int .u32 (u32.wrap (c:Int))else aB o k)=aB (cV o (i+j) c):=by
    funext k
    exact iY (wrap_u32 aa aa) k
   rw[hf]at hv
   refine next hin hv (js hc ho) (fun k hk=>(gX aa).trans (ho0 k aa)) ?_
   rw[r7 aa (ho0 _ aa),hval,val,Nat.add_mul,Nat.mul_assoc,Nat.mul_assoc,Nat.mul_comm (val j y)]
 ·have hin:i=n:=aa
  subst hin
  refine uv (gB ?_)
  refine(aG.weak ah (eG (vs:=tu i m z y 7 i) (ps:=[(7,⟨true,true,1,i+m,aB o⟩)]) (nx:=8) [(7,7)] hv h0 rfl ⟨aS,⟨rfl,eE rfl rfl rfl⟩,aS,aS,aS,trivial⟩
    ⟨⟨_,_,rfl,rfl,gI rfl fun j _=>rfl⟩,trivial⟩)
   (aG.fin hT iT hm 30 aj2 ah ?_))
  simp only[ag.all,az,Nat.add_zero,kY]
  exact⟨⟨iE ho,aa⟩,fk (congrArg AV.mag hval)⟩
def OX (A n B m:Nat):ep:=aL (.mag (A*B)) [n<2^40,m<2^40]
theorem adK:aY P (cu (jw OX)) 119:=
 cW (uT fun _ _ _ _ K hz hy need=>U1 hz hy need.1 need.2 K [])
end Go.Am.B
