/- slices.Clone, slices.Equal, natural.Mul. -/
import Derived.Test.YtolopdkjjlfgjaaGreatB5
set_option linter.unusedVariables false
namespace Go.Am.B
open Go Go.Am.N AV Proofs.Tryz IntKind
theorem Qr:bu 181 f181:=bz func181
theorem PW:bu 117 f117:=bz func117
theorem aau:bu 119 f119:=bz func119
theorem YZ {n:Nat} {b:Bool} {f:Nat->AV}:cq T [] [4] 30 f181 (aG f181) ⟨aV 0 [.eF b 1 n f],[],0⟩=
  some (af.fork b (af.leaf ak.ret [nil]) (af.aj [(0:Nat)*1<=2^24,((0:Nat)+n)*((4:Nat)+1)*2<=2^47] (af.leaf ak.ret [aq 1 ((0:Nat)+n) fun i=>if i+0<0 then nth [] (int .u32 (0:Int)) (i+0)else f (i+0-0)]))):=ag
theorem aaK {A B:Nat}:aH T [] [10] 30 [0,1,12,13,4] (before (aG f117) [1,1,0,1]) ⟨aV 0 [.mag A,.mag B],[],0⟩=
  some (af.fork ((↑(nl A):Int)!=(↑(nl B):Int)) (af.leaf ak.ret ([mag A,mag B,tuple [],tuple [],AV.bool false],[])) (af.leaf ak.normal ([mag A,mag B,int .i64 (↑(nl A):Int),int .i64 (0:Int),AV.bool false],[]))):=ag
theorem aaC {A B i:Nat}:aH T [] [14,24] 30 [0,1,12,13,4] [part (aG f117) [1,1,0,1,0,0]] ⟨aE [0,1,12,13,4] [.mag A,.mag B,.int .i64 (nl A),.int .i64 i,.bool false],[],0⟩=
  let c3:Int:=(↑(nl A):Int);let c2:Int:=(↑i:Int);let c1:List AV:=[mag A,mag B,int .i64 c3,int .i64 c2,AV.bool false];some (af.fork (decide (c2<c3)) (af.aj [(0:Int)<=c2/\c2.toNat<nl A,(0:Int)<=c2/\c2.toNat<nl B] (af.fork ((↑(aB A c2.toNat):Int)!=(↑(aB B c2.toNat):Int)) (af.leaf ak.ret (c1,[])) (af.leaf ak.normal ([mag A,mag B,int .i64 c3,int .i64 (i64.wrap (c2+1)),AV.bool false],[])))) (af.leaf (ak.exit 0) (c1,[]))):=ag
theorem SH {A B i:Nat}:dA T [] [] 30 f117 (behind (aG f117) [1,1,0,1]) ⟨aE [0,1,12,13,4] [.mag A,.mag B,.int .i64 (nl A),.int .i64 i,.bool false],[],0⟩=
  some (af.leaf ak.ret [AV.bool true]):=ag
theorem Xx {n m:Nat} {z y:Nat->Nat}:aH T G1 [] 30 [1,5,17,18,19] (before (aG f119) [1,1,0,1]) ⟨aV 0 [.aq 1 n (az z),.aq 1 m (az y)],[],0⟩=
  let c1:Int:=i64.wrap ((↑n:Int)+(↑m:Int));some (af.aj [(0:Int)<=c1/\c1<=c1/\c1<=2^47/\c1*(↑(4:Nat):Int)<=2^47] (af.leaf ak.normal ([aq 1 m fun a=>int .u32 (↑(y a):Int),own 24576 1 0 c1.toNat,aq 1 n fun a=>int .u32 (↑(z a):Int),int .i64 (↑n:Int),int .i64 (0:Int)],[(24576,ay.mk true true 1 c1.toNat fun x=>int .u32 (0:Int))]))):=ag
theorem UA {n m i:Nat} {z y o:Nat->Nat}:aH T G1 [20] 30 [1,5,17,18,19] (before (part (aG f119) [1,1,0,1,0,0]) [1,1,0]) ⟨aE [1,5,17,18,19] [.aq 1 m (az y),.own 7 1 0 (n+m),.aq 1 n (az z),.int .i64 n,.int .i64 i],[(7,⟨true,true,1,n+m,az o⟩)],8⟩=
  let c1:List AV×aD:=([aq 1 m fun a=>int .u32 (↑(y a):Int),own 7 1 0 (n+m),aq 1 n fun a=>int .u32 (↑(z a):Int),int .i64 (↑n:Int),int .i64 (↑i:Int)],[(7,ay.mk true true 1 (n+m) fun a=>int .u32 (↑(o a):Int))]);some (af.fork (decide ((↑i:Int)<(↑n:Int))) (af.leaf ak.normal c1) (af.leaf (ak.exit 0) c1)):=ag
theorem VS {n m i:Nat} {z y o:Nat->Nat}:aH T G1 [25] 30 [1,5,17,18,19,6,7,8,26,27,28] (before (part (aG f119) [1,1,0,1,0,0,1,1,0,0]) [1,1,1,0,1]) ⟨aE [1,5,17,18,19] [.aq 1 m (az y),.own 7 1 0 (n+m),.aq 1 n (az z),.int .i64 n,.int .i64 i],[(7,⟨true,true,1,n+m,az o⟩)],8⟩=
  let c8:Int:=(↑i:Int);let c7:AV:=int .i64 (↑n:Int);let c6:AV:=own 7 1 0 (n+m);let c4:AV:=aq 1 n fun a=>int .u32 (↑(z a):Int);let c2:Nat×ay:=(7,ay.mk true true 1 (n+m) fun a=>int .u32 (↑(o a):Int));let c1:AV:=aq 1 m fun a=>int .u32 (↑(y a):Int);let c5:Int:=(↑(z c8.toNat):Int);let c3:AV:=int .i64 c8;some (af.aj [(0:Int)<=c8/\c8.toNat<n] (af.fork (c5==0) (af.leaf (ak.exit 1) ([c1,c6,c4,c7,c3,c3,int .u32 c5,tuple [],tuple [],tuple [],tuple []],[c2])) (af.leaf ak.normal ([c1,c6,c4,c7,c3,c3,int .u32 c5,int .u64 (0:Int),c1,int .i64 (↑m:Int),int .i64 (0:Int)],[c2])))):=ag
theorem P6 {n m i j x c:Nat} {z y o:Nat->Nat}:aH T G1 [29] 30 [1,5,17,18,19,6,7,8,26,27,28] [part (part (aG f119) [1,1,0,1,0,0,1,1,0,0]) [1,1,1,0,1,0,0]] ⟨aE [1,5,17,18,19,6,7,8,26,27,28] [.aq 1 m (az y),.own 7 1 0 (n+m),.aq 1 n (az z),.int .i64 n,.int .i64 i,.int .i64 i,.int .u32 x,.int .u64 c,.aq 1 m (az y),.int .i64 m,.int .i64 j],[(7,⟨true,true,1,n+m,az o⟩)],8⟩=
  let c12:AV:=int .i64 (↑n:Int);let c11:AV:=int .u32 (↑x:Int);let c10:AV:=int .i64 (↑m:Int);let c8:AV:=own 7 1 0 (n+m);let c7:Int:=(↑j:Int);let c6:AV:=aq 1 n fun a=>int .u32 (↑(z a):Int);let c4:AV:=int .i64 (↑i:Int);let c3:AV:=aq 1 m fun a=>int .u32 (↑(y a):Int);let c1:Int:=i64.wrap ((↑i:Int)+c7);let c5:Nat:=c1.toNat+0;let c9:List Prop:=[(0:Int)<=c1/\c1.toNat<n+m,c5<n+m];let c2:Int:=u64.wrap ((↑c:Int)+u64.wrap (u64.wrap (u64.wrap (↑x:Int)*u64.wrap (↑(y c7.toNat):Int))+u64.wrap (↑(o c5):Int)));some (af.fork (decide (c7<(↑m:Int))) (af.aj [(0:Int)<=c7/\c7.toNat<m] (af.aj c9 (af.aj c9 (af.aj [(0:Int)<=32] (af.leaf ak.normal ([c3,c8,c6,c12,c4,c4,c11,int .u64 (c2.fdiv ((2:Int)^min (Int.toNat (32:Int)) u64.bits)),c3,c10,int .i64 (i64.wrap (c7+1))],[(7,ay.mk true true 1 (n+m) fun j=>if(j==c5)=true then int .u32 (u32.wrap c2)else az o j)])))))) (af.leaf (ak.exit 2) ([c3,c8,c6,c12,c4,c4,c11,int .u64 (↑c:Int),c3,c10,int .i64 c7],[(7,ay.mk true true 1 (n+m) fun a=>int .u32 (↑(o a):Int))]))):=ag
theorem T5 {n m i j x c:Nat} {z y o:Nat->Nat}:aH T G1 [] 30 [1,5,17,18,19] (behind (part (aG f119) [1,1,0,1,0,0,1,1,0,0]) [1,1,1,0,1]) ⟨aE [1,5,17,18,19,6,7,8,26,27,28] [.aq 1 m (az y),.own 7 1 0 (n+m),.aq 1 n (az z),.int .i64 n,.int .i64 i,.int .i64 i,.int .u32 x,.int .u64 c,.aq 1 m (az y),.int .i64 m,.int .i64 j],[(7,⟨true,true,1,n+m,az o⟩)],8⟩=
  let c1:Int:=i64.wrap ((↑i:Int)+(↑m:Int));let c2:Nat:=c1.toNat+0;some (af.aj [(0:Int)<=c1/\c1.toNat<n+m,c2<n+m] (af.leaf ak.normal ([aq 1 m fun a=>int .u32 (↑(y a):Int),own 7 1 0 (n+m),aq 1 n fun a=>int .u32 (↑(z a):Int),int .i64 (↑n:Int),int .i64 (↑i:Int)],[(7,ay.mk true true 1 (n+m) fun j=>if(j==c2)=true then int .u32 (u32.wrap (↑c:Int))else az o j)]))):=ag
theorem Y7 {n m i:Nat} {z y o:Nat->Nat}:aH T G1 [] 30 [1,5,17,18,19] (behind (part (aG f119) [1,1,0,1,0,0]) [1,1,0]) ⟨aE [1,5,17,18,19] [.aq 1 m (az y),.own 7 1 0 (n+m),.aq 1 n (az z),.int .i64 n,.int .i64 i],[(7,⟨true,true,1,n+m,az o⟩)],8⟩=
  some (af.leaf ak.normal ([aq 1 m fun a=>int .u32 (↑(y a):Int),own 7 1 0 (n+m),aq 1 n fun a=>int .u32 (↑(z a):Int),int .i64 (↑n:Int),int .i64 (i64.wrap ((↑i:Int)+1))],[(7,ay.mk true true 1 (n+m) fun a=>int .u32 (↑(o a):Int))])):=ag
theorem adQ {n m i:Nat} {z y o:Nat->Nat}:dA T G1 [] 30 f119 (behind (aG f119) [1,1,0,1]) ⟨aE [1,5,17,18,19] [.aq 1 m (az y),.own 7 1 0 (n+m),.aq 1 n (az z),.int .i64 n,.int .i64 i],[(7,⟨true,true,1,n+m,az o⟩)],8⟩=
  some (af.aj [eP (n+m) fun i=>az o (i+0),n+m<2^62] (af.leaf ak.ret [mag (val (n+m) fun i=>numOf (az o (i+0)))])):=ag
theorem C2 {n:Nat} {f:Nat->AV} (hn:n<2^40) (K:Nat):aQ P 181 K [.aq 1 n f] [] (aM (.aq 1 n f) []):=by
 refine Dw fun b hb=>?_
 refine cA hT ct hm Qr rfl bp rfl 30 YZ (fun _=>?_) K []
 simp only[af.all,aA]
 refine⟨fun h=>?_,fun h=>⟨⟨aa,aa⟩,tA aa fun i hi=>by simp⟩⟩
 rw[hb h]
 exact lS aa
def zB:Spec:=b7 fun l=>match l with
 |[.mag N]=>some (aM (.mag N) [nl N<2^40])
 |[.nil]=>some (aM (.mag 0) [])
 |[.aq es n f]=>if es==1 then some (aM (.aq 1 n f) [n<2^40])else none
 |_=>none
theorem Ch:bA P zB 181:=by
 refine cP fun K args r hk hs _=>?_
 split at hs
 ·rename_i N
  simp only[ax]at hs
  subst hs
  intro need
  have:=gY (args:=[.mag N]) (C2 (n:=nl N) (f:=fun i=>.int .u32 (aB N i)) need K) rfl ⟨Ns rfl fun i hi=>rfl,trivial⟩ []
  exact HP (l':=[]) this id rfl rfl (kK rfl fun i hi=>rfl) trivial
 ·simp only[ax]at hs
  subst hs
  intro need
  have:=gY (args:=[.nil]) (C2 (n:=0) (f:=fun _=>.nil) aa K) rfl ⟨lS aa,trivial⟩ []
  exact HP (l':=[]) this id rfl rfl (kK (by simp[nl]) fun i hi=>aa) trivial
 ·rename_i es n f
  split at hs
  ·rename_i he
   have he:es=1:=by simpa using he
   subst he
   simp only[ax]at hs
   subst hs
   exact fun need=>C2 need K trivial
  ·simp at hs
 ·simp at hs
theorem SE {A B:Nat} (hA:nl A<2^40) (hB:nl B<2^40) (K:Nat) (pre:aD):aQ P 117 K [.mag A,.mag B] pre (aM (.bool (decide (A=B))) []):=by
 refine kr hT PW rfl bp rfl (fun _ c h0=>?_) K pre
 refine au.hole [1,1,0,1] ag (aF.bJ hT ct hm 30 [0,1,12,13,4] aaK ag ?_)
 simp only[af.all,bne_iff_ne,ne_eq,Int.natCast_inj,bne_eq_false_iff_eq]
 refine⟨fun hb s' hv=>?_,fun hb s' hv=>?_⟩
 ·exact iq (us:=[.bool false]) (.inr rfl) hv ag (kI (decide_eq_false fun h=>hb (by rw[h])).symm)
 refine au.jh (i:=0) (y:=part (aG f117) [1,1,0,1,0,0]) ag
  (fun i:Nat=>⟨aE [0,1,12,13,4] [.mag A,.mag B,.int .i64 (nl A),.int .i64 i,.bool false],[],0⟩)
  (fun i=>i<=nl A/\∀j,j<i->aB A j=aB B j) (fun i=>nl A-i) 0
  (dZ [] hv h0 rfl ⟨aO,aO,aO,aO,aO,trivial⟩ trivial) ⟨aa,fun j h=>aa⟩ ?_
 rintro i ⟨hi,hlim⟩
 refine au.bJ hT ct hm 30 [0,1,12,13,4] aaC ag ?_
 simp only[af.all,aA,bK,bO,bne_iff_ne,ne_eq,Int.natCast_inj,bne_eq_false_iff_eq,bE]
 refine⟨fun h1=>⟨⟨aa,aa⟩,fun hne s' hv=>?_,fun heq s' hv=>?_⟩,fun h1 s' hv=>?_⟩
 ·exact iq (us:=[.bool false]) (.inr rfl) hv ag (kI (decide_eq_false fun h=>hne (by rw[h])).symm)
 ·refine⟨i+1,dZ [] hv h0 rfl ⟨aO,aO,aO,⟨rfl,gW (by rw[wrap_i64 aa aa];omega)⟩,aO,trivial⟩ trivial,⟨aa,fun j hj=>?_⟩,aa⟩
  by_cases h:j=i
  ·subst h;exact heq
  ·exact hlim j aa
 ·have hAB:A=B:=B5 hb fun j hj=>hlim j aa
  exact aF.weak ag (dZ (vs:=[.mag A,.mag B,.int .i64 (nl A),.int .i64 i,.bool false]) (ps:=[]) (nx:=0) [] hv h0 rfl ⟨aO,aO,aO,aO,aO,trivial⟩ trivial)
   (aF.fin hT ct hm 30 SH ag (kI (decide_eq_true hAB).symm))
def jD:AV->Option Nat
 |.mag N=>some N
 |.nil=>some 0
 |_=>none
theorem mB {a:AV} {N:Nat} (h:jD a=some N):bG a (.mag N):=by
 cases a<;>simp only[jD,reduceCtorEq,ax]at h
 case mag M=>subst h;exact .refl _
 case nil=>subst h;exact lF
def Fa:Spec:=b7 fun l=>match l with
 |[a,b]=>match jD a,jD b with
  |some A,some B=>some (aM (.bool (decide (A=B))) [nl A<2^40,nl B<2^40])
  |_,_=>none
 |_=>none
theorem G3:bA P Fa 117:=by
 refine cP fun K args r hk hs _=>?_
 split at hs
 ·split at hs
  ·rename_i A B hA hB
   simp only[ax]at hs
   subst hs
   exact fun need=>gY (SE need.1 need.2 K []) hk ⟨mB hA,mB hB,trivial⟩ [] trivial
  ·simp at hs
 ·simp at hs
abbrev qD:List Nat:=[1,5,17,18,19]
abbrev rq (n m:Nat) (z y:Nat->Nat) (K i:Nat):List AV:=[.aq 1 m (az y),.own K 1 0 (n+m),.aq 1 n (az z),.int .i64 n,.int .i64 i]
abbrev F1:List Nat:=[1,5,17,18,19,6,7,8,26,27,28]
abbrev Kg (n m:Nat) (z y:Nat->Nat) (K i x c j:Nat):List AV:=[.aq 1 m (az y),.own K 1 0 (n+m),.aq 1 n (az z),.int .i64 n,.int .i64 i,.int .i64 i,.int .u32 x,.int .u64 c,.aq 1 m (az y),.int .i64 m,.int .i64 j]
theorem YL {n m:Nat} {z y:Nat->Nat} (hz:∀i,i<n->z i<2^32) (hy:∀i,i<m->y i<2^32) (hn:n<2^40) (hm':m<2^40) (K:Nat) (pre:aD):
  aQ P 119 K [.aq 1 n (az z),.aq 1 m (az y)] pre (aM (.mag (val n z*val m y)) []):=by
 refine kr hT aau rfl bp rfl (fun _ c0 h0=>?_) K pre
 refine au.hole [1,1,0,1] ag (aF.bJ hT iA hm 30 qD Xx ag ?_)
 have hw:i64.wrap ((n:Int)+(m:Int))=((n+m:Nat):Int):=by rw[wrap_i64 aa aa];omega
 simp only[af.all,aA,hw,bE]
 refine⟨aa,fun s' hv=>?_⟩
 refine au.jh (i:=0) (y:=part (aG f119) [1,1,0,1,0,0]) ag
  (fun p:Nat×(Nat->Nat)=>⟨aE qD (rq n m z y 7 p.1),[(7,⟨true,true,1,n+m,az p.2⟩)],8⟩)
  (fun p=>p.1<=n/\(∀j,j<n+m->p.2 j<2^32)/\(∀j,p.1+m<=j->p.2 j=0)/\val (n+m) p.2=val p.1 z*val m y)
  (fun p=>n-p.1) (0,fun _=>0)
  (dZ [(7,24576)] hv h0 rfl ⟨aO,⟨rfl,en rfl rfl rfl⟩,aO,aO,aO,trivial⟩
   ⟨⟨_,_,rfl,rfl,gq rfl fun j _=>rfl⟩,trivial⟩)
  ⟨by simp,fun j _=>by simp,fun j _=>rfl,?_⟩ ?_
 ·simp only
  rw[nC (k:=0) aa fun _ _ _=>rfl]
  simp[val]
 rintro⟨i,o⟩ ⟨hi,ho,ho0,hval⟩
 simp only at hi ho ho0 hval
 have next:∀{o':Nat->Nat} {s':aI},i<n->bh qD s'=some (rq n m z y 7 i,[(7,⟨true,true,1,n+m,az o'⟩)])->(∀j,j<n+m->o' j<2^32)->(∀j,i+1+m<=j->o' j=0)->
   val (n+m) o'=val (i+1) z*val m y->∀{QF:ak->aI->Prop},
   aF P c0 f119.ntmps (behind (part (aG f119) [1,1,0,1,0,0]) [1,1,0]) s' (fk (fun s'=>∃k:Nat×(Nat->Nat),(∃ρ,Le c0 ρ s' ⟨aE qD (rq n m z y 7 k.1),[(7,⟨true,true,1,n+m,az k.2⟩)],8⟩)/\
    (k.1<=n/\(∀j,j<n+m->k.2 j<2^32)/\(∀j,k.1+m<=j->k.2 j=0)/\val (n+m) k.2=val k.1 z*val m y)/\n-k.1<n-i) QF):=by
  intro o' s' hin hv g1 g2 g3 QF
  refine aF.weak ag (dZ (vs:=rq n m z y 7 i) (ps:=[(7,⟨true,true,1,n+m,az o'⟩)]) (nx:=8) [(7,7)] hv h0 rfl ⟨aO,⟨rfl,en rfl rfl rfl⟩,aO,aO,aO,trivial⟩
    ⟨⟨_,_,rfl,rfl,gq rfl fun j _=>rfl⟩,trivial⟩)
   (aF.bJ hT iA hm 30 qD Y7 ag ?_)
  intro s' hv
  exact⟨(i+1,o'),dZ [(7,7)] hv h0 rfl ⟨aO,⟨rfl,en rfl rfl rfl⟩,aO,aO,⟨rfl,gW (by rw[wrap_i64 aa aa];simp only;omega)⟩,trivial⟩
    ⟨⟨_,_,rfl,rfl,gq rfl fun j _=>rfl⟩,trivial⟩,⟨by simp only;omega,g1,g2,g3⟩,by simp only;omega⟩
 refine au.hole [1,1,0] ag (aF.bJ hT iA hm 30 qD UA ag ?_)
 simp only[af.all,bK,bO]
 refine⟨fun h1 s' hv=>?_,fun h1 s' hv=>?_⟩
 ·have hin:i<n:=aa
  have hzi:=hz i hin
  refine au.mU (dZ (vs:=rq n m z y 7 i) (ps:=[(7,⟨true,true,1,n+m,az o⟩)]) (nx:=8) [(7,7)] hv h0 rfl ⟨aO,⟨rfl,en rfl rfl rfl⟩,aO,aO,aO,trivial⟩
    ⟨⟨_,_,rfl,rfl,gq rfl fun j _=>rfl⟩,trivial⟩) ?_
  refine au.qh (i:=1) (y:=part (aG f119) [1,1,0,1,0,0,1,1,0,0]) ag ?_
  refine au.hole [1,1,1,0,1] ag (aF.bJ hT iA hm 30 F1 VS ag ?_)
  simp only[af.all,aA,bE,beq_iff_eq,beq_eq_false_iff_ne,ne_eq]
  refine⟨aa,fun hz0 s' hv=>?_,fun hz0 s' hv=>?_⟩
  ·refine fW ?_
   exact(next hin (ku (ls:=qD) (l:=[6,7,8,26,27,28]) (vs:=rq n m z y 7 i) hv rfl rfl) ho (fun j hj=>ho0 j aa) (by rw[hval,val,show z i=0 by omega];simp))
  refine au.jh (i:=2) (y:=part (part (aG f119) [1,1,0,1,0,0,1,1,0,0]) [1,1,1,0,1,0,0]) ag
   (fun p:Nat×Nat×(Nat->Nat)=>⟨aE F1 (Kg n m z y 7 i (z i) p.2.1 p.1),[(7,⟨true,true,1,n+m,az p.2.2⟩)],8⟩)
   (fun p=>p.1<=m/\p.2.1<2^32/\(∀j,j<n+m->p.2.2 j<2^32)/\(∀j,i+m<=j->p.2.2 j=0)/\val (n+m) p.2.2+p.2.1*2^(32*(i+p.1))=val i z*val m y+z i*val p.1 y*2^(32*i))
   (fun p=>m-p.1) (0,0,o)
   (dZ [(7,7)] hv h0 rfl ⟨aO,⟨rfl,en rfl rfl rfl⟩,aO,aO,aO,aO,aO,aO,aO,aO,aO,trivial⟩
    ⟨⟨_,_,rfl,rfl,gq rfl fun j _=>rfl⟩,trivial⟩)
   ⟨by simp,by simp,ho,ho0,by simp[val,hval]⟩ ?_
  rintro⟨j,c,o⟩ ⟨hj,hc,ho,ho0,hval⟩
  simp only at hj hc ho ho0 hval
  refine au.bJ hT iA hm 30 F1 P6 ag ?_
  have hij:i64.wrap ((i:Int)+(j:Int))=((i+j:Nat):Int):=by rw[wrap_i64 aa aa];omega
  simp only[af.all,aA,bK,bO,hij,bE,Nat.add_zero,beq_iff_eq]
  refine⟨fun h2=>?_,fun h2 s' hv=>fW ?_⟩
  ·have hjm:j<m:=aa
   obtain⟨m1,m2,m3⟩:=Jj hc hzi (hy j hjm) (ho (i+j) aa)
   rw[m1]
   refine⟨aa,aa,aa,aa,fun s' hv=>⟨(j+1,(c+z i*y j+o (i+j))/4294967296,cH o (i+j) ((c+z i*y j+o (i+j))%4294967296)),?_,⟨by simp only;omega,m3,jc aa ho,fun k hk=>?_,?_⟩,by simp only;omega⟩⟩
   ·refine dZ [(7,7)] hv h0 rfl ⟨aO,⟨rfl,en rfl rfl rfl⟩,aO,aO,aO,aO,aO,⟨rfl,gW ?_⟩,aO,aO,⟨rfl,gW ?_⟩,trivial⟩
     ⟨⟨_,_,rfl,rfl,gq rfl fun k _=>iL (by rw[ki]) k⟩,trivial⟩
    ·rw[me];simp only;omega
    ·rw[wrap_i64 aa aa];simp only;omega
   ·exact(gC aa).trans (ho0 k hk)
   ·simp only
    rw[show 32*(i+(j+1))=32*((i+j)+1) by omega,iX,val]
    have hset:=FI (o:=o) (x:=(c+z i*y j+o (i+j))%4294967296) (show i+j<n+m by omega)
    exact JS rfl (Nat.div_add_mod _ _) hset (by rw[<-Nat.pow_add];congr 1;omega) hval
  ·have hjm:j=m:=aa
   subst hjm
   refine aF.weak ag (dZ (vs:=Kg n j z y 7 i (z i) c j) (ps:=[(7,⟨true,true,1,n+j,az o⟩)]) (nx:=8) [(7,7)] hv h0 rfl
     ⟨aO,⟨rfl,en rfl rfl rfl⟩,aO,aO,aO,aO,aO,aO,aO,aO,aO,trivial⟩
     ⟨⟨_,_,rfl,rfl,gq rfl fun j _=>rfl⟩,trivial⟩)
    (aF.bJ hT iA hm 30 qD T5 ag ?_)
   simp only[af.all,aA,hij,bE,Nat.add_zero,beq_iff_eq]
   refine⟨aa,fun s' hv=>?_⟩
   have hf:(fun k=>if k=i+j then AV.int .u32 (u32.wrap (c:Int))else az o k)=az (cH o (i+j) c):=by
    funext k
    exact iL (wrap_u32 aa aa) k
   rw[hf]at hv
   refine next hin hv (jc hc ho) (fun k hk=>(gC aa).trans (ho0 k aa)) ?_
   rw[rU aa (ho0 _ aa),hval,val,Nat.add_mul,Nat.mul_assoc,Nat.mul_assoc,Nat.mul_comm (val j y)]
 ·have hin:i=n:=aa
  subst hin
  refine sj (fW ?_)
  refine(aF.weak ag (dZ (vs:=rq i m z y 7 i) (ps:=[(7,⟨true,true,1,i+m,az o⟩)]) (nx:=8) [(7,7)] hv h0 rfl ⟨aO,⟨rfl,en rfl rfl rfl⟩,aO,aO,aO,trivial⟩
    ⟨⟨_,_,rfl,rfl,gq rfl fun j _=>rfl⟩,trivial⟩)
   (aF.fin hT iA hm 30 adQ ag ?_))
  simp only[af.all,aA,Nat.add_zero,kj]
  exact⟨⟨g9 ho,aa⟩,eO (congrArg AV.mag hval)⟩
def HY (A n B m:Nat):dP:=aM (.mag (A*B)) [n<2^40,m<2^40]
theorem P1:bA P (b7 (jq HY)) 119:=
 cP (vk fun _ _ _ _ K hz hy need=>YL hz hy need.1 need.2 K [])
end Go.Am.B
