/- slices. -/
import Derived.Test.YtppeigelbecpbaaGreatB5
set_option linter.unusedVariables false
namespace Go.Am.B
open Go Go.Am.N AV
theorem ajW:aT P uy Ez (aA Ez):=aY Proofs.Tryz.func221 ag ag ag
theorem abH:aT P yT uc (aA uc):=aY Proofs.Tryz.func204 ag ag ag
theorem aby:aT P BZ jJ (aA jJ):=aY Proofs.Tryz.func195 ag ag ag
theorem agc {n:Nat} {b:Bool} {f:Nat->AV}:bW T [] [4] 30 Ez (aA Ez) ⟨aQ 0 [.dL b 1 n f],[],0⟩=
  some (ah.fork b (ah.leaf au.ret [nil]) (ah.aj [(0:Nat)*1<=2^24,((0:Nat)+n)*((4:Nat)+1)*2<=2^47] (ah.leaf au.ret [aq 1 ((0:Nat)+n) fun i=>if i+0<0 then nth [] (int IntKind.u32 (0:Int)) (i+0)else f (i+0-0)]))):=ag
theorem aaS {A B:Nat}:aH T [] [10] 30 [0,1,12,13,4] (before (aA uc) [1,1,0,1]) ⟨aQ 0 [.mag A,.mag B],[],0⟩=
  some (ah.fork ((↑(nl A):Int)!=(↑(nl B):Int)) (ah.leaf au.ret ([mag A,mag B,tuple [],tuple [],AV.bool false],[])) (ah.leaf au.normal ([mag A,mag B,int IntKind.i64 (↑(nl A):Int),int IntKind.i64 (0:Int),AV.bool false],[]))):=ag
theorem ajA {A B i:Nat}:aH T [] [14,24] 30 [0,1,12,13,4] [part (aA uc) [1,1,0,1,0,0]] ⟨aC [0,1,12,13,4] [.mag A,.mag B,.int .i64 (nl A),.int .i64 i,.bool false],[],0⟩=
  let c3:Int:=(↑(nl A):Int);let c2:Int:=(↑i:Int);let c1:List AV:=[mag A,mag B,int IntKind.i64 c3,int IntKind.i64 c2,AV.bool false];some (ah.fork (decide (c2<c3)) (ah.aj [(0:Int)<=c2/\c2.toNat<nl A,(0:Int)<=c2/\c2.toNat<nl B] (ah.fork ((↑(aG A c2.toNat):Int)!=(↑(aG B c2.toNat):Int)) (ah.leaf au.ret (c1,[])) (ah.leaf au.normal ([mag A,mag B,int IntKind.i64 c3,int IntKind.i64 (IntKind.i64.wrap (c2+(1:Int))),AV.bool false],[])))) (ah.leaf (au.exit 0) (c1,[]))):=ag
theorem Wp {A B i:Nat}:cw T [] [] 30 uc (behind (aA uc) [1,1,0,1]) ⟨aC [0,1,12,13,4] [.mag A,.mag B,.int .i64 (nl A),.int .i64 i,.bool false],[],0⟩=
  some (ah.leaf au.ret [AV.bool true]):=ag
theorem afy {n m:Nat} {z y:Nat->Nat}:aH T G1 [] 30 [1,5,17,18,19] (before (aA jJ) [1,1,0,1]) ⟨aQ 0 [.aq 1 n (aD z),.aq 1 m (aD y)],[],0⟩=
  let c1:Int:=IntKind.i64.wrap ((↑n:Int)+(↑m:Int));some (ah.aj [(0:Int)<=c1/\c1<=c1/\c1<=(2:Int)^47/\c1*(↑(4:Nat):Int)<=(2:Int)^47] (ah.leaf au.normal ([aq 1 m fun a=>int IntKind.u32 (↑(y a):Int),own 24576 1 0 c1.toNat,aq 1 n fun a=>int IntKind.u32 (↑(z a):Int),int IntKind.i64 (↑n:Int),int IntKind.i64 (0:Int)],[(24576,ak.mk true true 1 c1.toNat fun x=>int IntKind.u32 (0:Int))]))):=ag
theorem aeC {n m i:Nat} {z y o:Nat->Nat}:aH T G1 [20] 30 [1,5,17,18,19] (before (part (aA jJ) [1,1,0,1,0,0]) [1,1,0]) ⟨aC [1,5,17,18,19] [.aq 1 m (aD y),.own 7 1 0 (n+m),.aq 1 n (aD z),.int .i64 n,.int .i64 i],[(7,⟨true,true,1,n+m,aD o⟩)],8⟩=
  let c1:List AV×aF:=([aq 1 m fun a=>int IntKind.u32 (↑(y a):Int),own 7 1 0 (n+m),aq 1 n fun a=>int IntKind.u32 (↑(z a):Int),int IntKind.i64 (↑n:Int),int IntKind.i64 (↑i:Int)],[(7,ak.mk true true 1 (n+m) fun a=>int IntKind.u32 (↑(o a):Int))]);some (ah.fork (decide ((↑i:Int)<(↑n:Int))) (ah.leaf au.normal c1) (ah.leaf (au.exit 0) c1)):=ag
theorem acy {n m i:Nat} {z y o:Nat->Nat}:aH T G1 [25] 30 [1,5,17,18,19,6,7,8,26,27,28] (before (part (aA jJ) [1,1,0,1,0,0,1,1,0,0]) [1,1,1,0,1]) ⟨aC [1,5,17,18,19] [.aq 1 m (aD y),.own 7 1 0 (n+m),.aq 1 n (aD z),.int .i64 n,.int .i64 i],[(7,⟨true,true,1,n+m,aD o⟩)],8⟩=
  let c8:Int:=(↑i:Int);let c7:AV:=int IntKind.i64 (↑n:Int);let c6:AV:=own 7 1 0 (n+m);let c4:AV:=aq 1 n fun a=>int IntKind.u32 (↑(z a):Int);let c2:Nat×ak:=(7,ak.mk true true 1 (n+m) fun a=>int IntKind.u32 (↑(o a):Int));let c1:AV:=aq 1 m fun a=>int IntKind.u32 (↑(y a):Int);let c5:Int:=(↑(z c8.toNat):Int);let c3:AV:=int IntKind.i64 c8;some (ah.aj [(0:Int)<=c8/\c8.toNat<n] (ah.fork (c5==(0:Int)) (ah.leaf (au.exit 1) ([c1,c6,c4,c7,c3,c3,int IntKind.u32 c5,tuple [],tuple [],tuple [],tuple []],[c2])) (ah.leaf au.normal ([c1,c6,c4,c7,c3,c3,int IntKind.u32 c5,int IntKind.u64 (0:Int),c1,int IntKind.i64 (↑m:Int),int IntKind.i64 (0:Int)],[c2])))):=ag
theorem Ye {n m i j x c:Nat} {z y o:Nat->Nat}:aH T G1 [29] 30 [1,5,17,18,19,6,7,8,26,27,28] [part (part (aA jJ) [1,1,0,1,0,0,1,1,0,0]) [1,1,1,0,1,0,0]] ⟨aC [1,5,17,18,19,6,7,8,26,27,28] [.aq 1 m (aD y),.own 7 1 0 (n+m),.aq 1 n (aD z),.int .i64 n,.int .i64 i,.int .i64 i,.int .u32 x,.int .u64 c,.aq 1 m (aD y),.int .i64 m,.int .i64 j],[(7,⟨true,true,1,n+m,aD o⟩)],8⟩=
  let c12:AV:=int IntKind.i64 (↑n:Int);let c11:AV:=int IntKind.u32 (↑x:Int);let c10:AV:=int IntKind.i64 (↑m:Int);let c8:AV:=own 7 1 0 (n+m);let c7:Int:=(↑j:Int);let c6:AV:=aq 1 n fun a=>int IntKind.u32 (↑(z a):Int);let c4:AV:=int IntKind.i64 (↑i:Int);let c3:AV:=aq 1 m fun a=>int IntKind.u32 (↑(y a):Int);let c1:Int:=IntKind.i64.wrap ((↑i:Int)+c7);let c5:Nat:=c1.toNat+0;let c9:List Prop:=[(0:Int)<=c1/\c1.toNat<n+m,c5<n+m];let c2:Int:=IntKind.u64.wrap ((↑c:Int)+IntKind.u64.wrap (IntKind.u64.wrap (IntKind.u64.wrap (↑x:Int)*IntKind.u64.wrap (↑(y c7.toNat):Int))+IntKind.u64.wrap (↑(o c5):Int)));some (ah.fork (decide (c7<(↑m:Int))) (ah.aj [(0:Int)<=c7/\c7.toNat<m] (ah.aj c9 (ah.aj c9 (ah.aj [(0:Int)<=(32:Int)] (ah.leaf au.normal ([c3,c8,c6,c12,c4,c4,c11,int IntKind.u64 (c2.fdiv ((2:Int)^min (Int.toNat (32:Int)) IntKind.u64.bits)),c3,c10,int IntKind.i64 (IntKind.i64.wrap (c7+(1:Int)))],[(7,ak.mk true true 1 (n+m) fun j=>if(j==c5)=true then int IntKind.u32 (IntKind.u32.wrap c2)else aD o j)])))))) (ah.leaf (au.exit 2) ([c3,c8,c6,c12,c4,c4,c11,int IntKind.u64 (↑c:Int),c3,c10,int IntKind.i64 c7],[(7,ak.mk true true 1 (n+m) fun a=>int IntKind.u32 (↑(o a):Int))]))):=ag
theorem Zv {n m i j x c:Nat} {z y o:Nat->Nat}:aH T G1 [] 30 [1,5,17,18,19] (behind (part (aA jJ) [1,1,0,1,0,0,1,1,0,0]) [1,1,1,0,1]) ⟨aC [1,5,17,18,19,6,7,8,26,27,28] [.aq 1 m (aD y),.own 7 1 0 (n+m),.aq 1 n (aD z),.int .i64 n,.int .i64 i,.int .i64 i,.int .u32 x,.int .u64 c,.aq 1 m (aD y),.int .i64 m,.int .i64 j],[(7,⟨true,true,1,n+m,aD o⟩)],8⟩=
  let c1:Int:=IntKind.i64.wrap ((↑i:Int)+(↑m:Int));let c2:Nat:=c1.toNat+0;some (ah.aj [(0:Int)<=c1/\c1.toNat<n+m,c2<n+m] (ah.leaf au.normal ([aq 1 m fun a=>int IntKind.u32 (↑(y a):Int),own 7 1 0 (n+m),aq 1 n fun a=>int IntKind.u32 (↑(z a):Int),int IntKind.i64 (↑n:Int),int IntKind.i64 (↑i:Int)],[(7,ak.mk true true 1 (n+m) fun j=>if(j==c2)=true then int IntKind.u32 (IntKind.u32.wrap (↑c:Int))else aD o j)]))):=ag
theorem VG {n m i:Nat} {z y o:Nat->Nat}:aH T G1 [] 30 [1,5,17,18,19] (behind (part (aA jJ) [1,1,0,1,0,0]) [1,1,0]) ⟨aC [1,5,17,18,19] [.aq 1 m (aD y),.own 7 1 0 (n+m),.aq 1 n (aD z),.int .i64 n,.int .i64 i],[(7,⟨true,true,1,n+m,aD o⟩)],8⟩=
  some (ah.leaf au.normal ([aq 1 m fun a=>int IntKind.u32 (↑(y a):Int),own 7 1 0 (n+m),aq 1 n fun a=>int IntKind.u32 (↑(z a):Int),int IntKind.i64 (↑n:Int),int IntKind.i64 (IntKind.i64.wrap ((↑i:Int)+(1:Int)))],[(7,ak.mk true true 1 (n+m) fun a=>int IntKind.u32 (↑(o a):Int))])):=ag
theorem ajG {n m i:Nat} {z y o:Nat->Nat}:cw T G1 [] 30 jJ (behind (aA jJ) [1,1,0,1]) ⟨aC [1,5,17,18,19] [.aq 1 m (aD y),.own 7 1 0 (n+m),.aq 1 n (aD z),.int .i64 n,.int .i64 i],[(7,⟨true,true,1,n+m,aD o⟩)],8⟩=
  some (ah.aj [dQ (n+m) fun i=>aD o (i+0),n+m<2^62] (ah.leaf au.ret [mag (val (n+m) fun i=>numOf (aD o (i+0)))])):=ag
theorem GJ {n:Nat} {f:Nat->AV} (hn:n<2^40) (K:Nat):aE P uy K [.aq 1 n f] [] (aK (.aq 1 n f) []):=by
 refine OH fun b hb=>?_
 refine cj hT bO hm ajW rfl aX rfl 30 agc (fun _=>?_) K []
 simp only[ah.all,az]
 refine⟨fun h=>?_,fun h=>⟨⟨aa,aa⟩,mC aa fun i hi=>by simp⟩⟩
 rw[hb h]
 exact kX aa
def BS:Spec:=bX fun l=>match l with
 |[.mag N]=>some (aK (.mag N) [nl N<2^40])
 |[.nil]=>some (aK (.mag 0) [])
 |[.aq es n f]=>if es==1 then some (aK (.aq 1 n f) [n<2^40])else none
 |_=>none
theorem II:∀K args pre r,BS K args pre=some r->aE P uy K args pre r:=by
 refine cK fun K args r hk hs _=>?_
 split at hs
 ·rename_i N
  simp only[ay]at hs
  subst hs
  intro need
  have:=gD (args:=[.mag N]) (GJ (n:=nl N) (f:=fun i=>.int .u32 (aG N i)) need K) rfl ⟨OM rfl fun i hi=>rfl,trivial⟩ []
  exact rQ (l':=[]) this id rfl rfl (lO rfl fun i hi=>rfl) trivial
 ·simp only[ay]at hs
  subst hs
  intro need
  have:=gD (args:=[.nil]) (GJ (n:=0) (f:=fun _=>.nil) aa K) rfl ⟨kX aa,trivial⟩ []
  exact rQ (l':=[]) this id rfl rfl (lO (by simp[nl]) fun i hi=>aa) trivial
 ·rename_i es n f
  split at hs
  ·rename_i he
   have he:es=1:=by simpa using he
   subst he
   simp only[ay]at hs
   subst hs
   exact fun need=>GJ need K trivial
  ·simp at hs
 ·simp at hs
theorem Ze {A B:Nat} (hA:nl A<2^40) (hB:nl B<2^40) (K:Nat) (pre:aF):aE P yT K [.mag A,.mag B] pre (aK (.bool (decide (A=B))) []):=by
 refine jM hT abH rfl aX rfl (fun _ c h0=>?_) K pre
 refine ax.hole [1,1,0,1] ag (aI.bA hT bO hm 30 [0,1,12,13,4] aaS ag ?_)
 simp only[ah.all,bne_iff_ne,ne_eq,Int.natCast_inj,bne_eq_false_iff_eq]
 refine⟨fun hb s' hv=>?_,fun hb s' hv=>?_⟩
 ·exact gy (us:=[.bool false]) (.inr rfl) hv ag (fB (decide_eq_false fun h=>hb (by rw[h])).symm)
 refine ax.iw (i:=0) (y:=part (aA uc) [1,1,0,1,0,0]) ag
  (fun i:Nat=>⟨aC [0,1,12,13,4] [.mag A,.mag B,.int .i64 (nl A),.int .i64 i,.bool false],[],0⟩)
  (fun i=>i<=nl A/\∀j,j<i->aG A j=aG B j) (fun i=>nl A-i) 0
  (dB [] hv h0 rfl ⟨⟨rfl,aN rfl⟩,⟨rfl,aN rfl⟩,⟨rfl,aN rfl⟩,⟨rfl,aN rfl⟩,⟨rfl,aN rfl⟩,trivial⟩ trivial) ⟨aa,fun j h=>aa⟩ ?_
 rintro i ⟨hi,hlim⟩
 refine ax.bA hT bO hm 30 [0,1,12,13,4] ajA ag ?_
 simp only[ah.all,az,aZ,bk,bne_iff_ne,ne_eq,Int.natCast_inj,bne_eq_false_iff_eq,aW]
 refine⟨fun h1=>⟨⟨aa,aa⟩,fun hne s' hv=>?_,fun heq s' hv=>?_⟩,fun h1 s' hv=>?_⟩
 ·exact gy (us:=[.bool false]) (.inr rfl) hv ag (fB (decide_eq_false fun h=>hne (by rw[h])).symm)
 ·refine⟨i+1,dB [] hv h0 rfl ⟨⟨rfl,aN rfl⟩,⟨rfl,aN rfl⟩,⟨rfl,aN rfl⟩,⟨rfl,gh (by rw[wrap_i64 aa aa];omega)⟩,⟨rfl,aN rfl⟩,trivial⟩ trivial,⟨aa,fun j hj=>?_⟩,aa⟩
  by_cases h:j=i
  ·subst h;exact heq
  ·exact hlim j aa
 ·have hAB:A=B:=Lt hb fun j hj=>hlim j aa
  exact aI.weak ag (dB (vs:=[.mag A,.mag B,.int .i64 (nl A),.int .i64 i,.bool false]) (ps:=[]) (nx:=0) [] hv h0 rfl ⟨⟨rfl,aN rfl⟩,⟨rfl,aN rfl⟩,⟨rfl,aN rfl⟩,⟨rfl,aN rfl⟩,⟨rfl,aN rfl⟩,trivial⟩ trivial)
   (aI.fin hT bO hm 30 Wp ag (fB (decide_eq_true hAB).symm))
def je:AV->Option Nat
 |.mag N=>some N
 |.nil=>some 0
 |_=>none
theorem lW {a:AV} {N:Nat} (h:je a=some N):bG a (.mag N):=by
 cases a<;>simp only[je,reduceCtorEq,ay]at h
 case mag M=>subst h;exact .refl _
 case nil=>subst h;exact lH
def JR:Spec:=bX fun l=>match l with
 |[a,b]=>match je a,je b with
  |some A,some B=>some (aK (.bool (decide (A=B))) [nl A<2^40,nl B<2^40])
  |_,_=>none
 |_=>none
theorem MH:∀K args pre r,JR K args pre=some r->aE P yT K args pre r:=by
 refine cK fun K args r hk hs _=>?_
 split at hs
 ·split at hs
  ·rename_i A B hA hB
   simp only[ay]at hs
   subst hs
   exact fun need=>gD (Ze need.1 need.2 K []) hk ⟨lW hA,lW hB,trivial⟩ [] trivial
  ·simp at hs
 ·simp at hs
abbrev rD:List Nat:=[1,5,17,18,19]
abbrev tw (n m:Nat) (z y:Nat->Nat) (K i:Nat):List AV:=[.aq 1 m (aD y),.own K 1 0 (n+m),.aq 1 n (aD z),.int .i64 n,.int .i64 i]
abbrev Gx:List Nat:=[1,5,17,18,19,6,7,8,26,27,28]
abbrev QE (n m:Nat) (z y:Nat->Nat) (K i x c j:Nat):List AV:=[.aq 1 m (aD y),.own K 1 0 (n+m),.aq 1 n (aD z),.int .i64 n,.int .i64 i,.int .i64 i,.int .u32 x,.int .u64 c,.aq 1 m (aD y),.int .i64 m,.int .i64 j]
theorem XF {n m:Nat} {z y:Nat->Nat} (hz:∀i,i<n->z i<2^32) (hy:∀i,i<m->y i<2^32) (hn:n<2^40) (hm':m<2^40) (K:Nat) (pre:aF):
  aE P BZ K [.aq 1 n (aD z),.aq 1 m (aD y)] pre (aK (.mag (val n z*val m y)) []):=by
 refine jM hT aby rfl aX rfl (fun _ c0 h0=>?_) K pre
 refine ax.hole [1,1,0,1] ag (aI.bA hT gA hm 30 rD afy ag ?_)
 have hw:IntKind.i64.wrap ((n:Int)+(m:Int))=((n+m:Nat):Int):=by rw[wrap_i64 aa aa];omega
 simp only[ah.all,az,hw,aW]
 refine⟨aa,fun s' hv=>?_⟩
 refine ax.iw (i:=0) (y:=part (aA jJ) [1,1,0,1,0,0]) ag
  (fun p:Nat×(Nat->Nat)=>⟨aC rD (tw n m z y 7 p.1),[(7,⟨true,true,1,n+m,aD p.2⟩)],8⟩)
  (fun p=>p.1<=n/\(∀j,j<n+m->p.2 j<2^32)/\(∀j,p.1+m<=j->p.2 j=0)/\val (n+m) p.2=val p.1 z*val m y)
  (fun p=>n-p.1) (0,fun _=>0)
  (dB [(7,24576)] hv h0 rfl ⟨⟨rfl,aN rfl⟩,⟨rfl,cD rfl rfl rfl⟩,⟨rfl,aN rfl⟩,⟨rfl,aN rfl⟩,⟨rfl,aN rfl⟩,trivial⟩
   ⟨⟨_,_,rfl,rfl,fF rfl fun j _=>rfl⟩,trivial⟩)
  ⟨by simp,fun j _=>by simp,fun j _=>rfl,?_⟩ ?_
 ·simp only
  rw[nq (k:=0) aa fun _ _ _=>rfl]
  simp[val]
 rintro⟨i,o⟩ ⟨hi,ho,ho0,hval⟩
 simp only at hi ho ho0 hval
 have next:∀{o':Nat->Nat} {s':aM},i<n->bt rD s'=some (tw n m z y 7 i,[(7,⟨true,true,1,n+m,aD o'⟩)])->(∀j,j<n+m->o' j<2^32)->(∀j,i+1+m<=j->o' j=0)->
   val (n+m) o'=val (i+1) z*val m y->∀{QF:au->aM->Prop},
   aI P c0 jJ.ntmps (behind (part (aA jJ) [1,1,0,1,0,0]) [1,1,0]) s' (dH (fun s'=>∃k:Nat×(Nat->Nat),(∃ρ,Le c0 ρ s' ⟨aC rD (tw n m z y 7 k.1),[(7,⟨true,true,1,n+m,aD k.2⟩)],8⟩)/\
    (k.1<=n/\(∀j,j<n+m->k.2 j<2^32)/\(∀j,k.1+m<=j->k.2 j=0)/\val (n+m) k.2=val k.1 z*val m y)/\n-k.1<n-i) QF):=by
  intro o' s' hin hv g1 g2 g3 QF
  refine aI.weak ag (dB (vs:=tw n m z y 7 i) (ps:=[(7,⟨true,true,1,n+m,aD o'⟩)]) (nx:=8) [(7,7)] hv h0 rfl ⟨⟨rfl,aN rfl⟩,⟨rfl,cD rfl rfl rfl⟩,⟨rfl,aN rfl⟩,⟨rfl,aN rfl⟩,⟨rfl,aN rfl⟩,trivial⟩
    ⟨⟨_,_,rfl,rfl,fF rfl fun j _=>rfl⟩,trivial⟩)
   (aI.bA hT gA hm 30 rD VG ag ?_)
  intro s' hv
  exact⟨(i+1,o'),dB [(7,7)] hv h0 rfl ⟨⟨rfl,aN rfl⟩,⟨rfl,cD rfl rfl rfl⟩,⟨rfl,aN rfl⟩,⟨rfl,aN rfl⟩,⟨rfl,gh (by rw[wrap_i64 aa aa];simp only;omega)⟩,trivial⟩
    ⟨⟨_,_,rfl,rfl,fF rfl fun j _=>rfl⟩,trivial⟩,⟨by simp only;omega,g1,g2,g3⟩,by simp only;omega⟩
 refine ax.hole [1,1,0] ag (aI.bA hT gA hm 30 rD aeC ag ?_)
 simp only[ah.all,aZ,bk]
 refine⟨fun h1 s' hv=>?_,fun h1 s' hv=>?_⟩
 ·have hin:i<n:=aa
  have hzi:=hz i hin
  refine ax.jA (dB (vs:=tw n m z y 7 i) (ps:=[(7,⟨true,true,1,n+m,aD o⟩)]) (nx:=8) [(7,7)] hv h0 rfl ⟨⟨rfl,aN rfl⟩,⟨rfl,cD rfl rfl rfl⟩,⟨rfl,aN rfl⟩,⟨rfl,aN rfl⟩,⟨rfl,aN rfl⟩,trivial⟩
    ⟨⟨_,_,rfl,rfl,fF rfl fun j _=>rfl⟩,trivial⟩) ?_
  refine ax.qh (i:=1) (y:=part (aA jJ) [1,1,0,1,0,0,1,1,0,0]) ag ?_
  refine ax.hole [1,1,1,0,1] ag (aI.bA hT gA hm 30 Gx acy ag ?_)
  simp only[ah.all,az,aW,beq_iff_eq,beq_eq_false_iff_ne,ne_eq]
  refine⟨aa,fun hz0 s' hv=>?_,fun hz0 s' hv=>?_⟩
  ·refine fC ?_
   exact(next hin (iL (ls:=rD) (l:=[6,7,8,26,27,28]) (vs:=tw n m z y 7 i) hv rfl rfl) ho (fun j hj=>ho0 j aa) (by rw[hval,val,show z i=0 by omega];simp))
  refine ax.iw (i:=2) (y:=part (part (aA jJ) [1,1,0,1,0,0,1,1,0,0]) [1,1,1,0,1,0,0]) ag
   (fun p:Nat×Nat×(Nat->Nat)=>⟨aC Gx (QE n m z y 7 i (z i) p.2.1 p.1),[(7,⟨true,true,1,n+m,aD p.2.2⟩)],8⟩)
   (fun p=>p.1<=m/\p.2.1<2^32/\(∀j,j<n+m->p.2.2 j<2^32)/\(∀j,i+m<=j->p.2.2 j=0)/\val (n+m) p.2.2+p.2.1*2^(32*(i+p.1))=val i z*val m y+z i*val p.1 y*2^(32*i))
   (fun p=>m-p.1) (0,0,o)
   (dB [(7,7)] hv h0 rfl ⟨⟨rfl,aN rfl⟩,⟨rfl,cD rfl rfl rfl⟩,⟨rfl,aN rfl⟩,⟨rfl,aN rfl⟩,⟨rfl,aN rfl⟩,⟨rfl,aN rfl⟩,⟨rfl,aN rfl⟩,⟨rfl,aN rfl⟩,⟨rfl,aN rfl⟩,⟨rfl,aN rfl⟩,⟨rfl,aN rfl⟩,trivial⟩
    ⟨⟨_,_,rfl,rfl,fF rfl fun j _=>rfl⟩,trivial⟩)
   ⟨by simp,by simp,ho,ho0,by simp[val,hval]⟩ ?_
  rintro⟨j,c,o⟩ ⟨hj,hc,ho,ho0,hval⟩
  simp only at hj hc ho ho0 hval
  refine ax.bA hT gA hm 30 Gx Ye ag ?_
  have hij:IntKind.i64.wrap ((i:Int)+(j:Int))=((i+j:Nat):Int):=by rw[wrap_i64 aa aa];omega
  simp only[ah.all,az,aZ,bk,hij,aW,Nat.add_zero,beq_iff_eq]
  refine⟨fun h2=>?_,fun h2 s' hv=>fC ?_⟩
  ·have hjm:j<m:=aa
   obtain⟨m1,m2,m3⟩:=QT hc hzi (hy j hjm) (ho (i+j) aa)
   rw[m1]
   refine⟨aa,aa,aa,aa,fun s' hv=>⟨(j+1,(c+z i*y j+o (i+j))/4294967296,cH o (i+j) ((c+z i*y j+o (i+j))%4294967296)),?_,⟨by simp only;omega,m3,ij aa ho,fun k hk=>?_,?_⟩,by simp only;omega⟩⟩
   ·refine dB [(7,7)] hv h0 rfl ⟨⟨rfl,aN rfl⟩,⟨rfl,cD rfl rfl rfl⟩,⟨rfl,aN rfl⟩,⟨rfl,aN rfl⟩,⟨rfl,aN rfl⟩,⟨rfl,aN rfl⟩,⟨rfl,aN rfl⟩,⟨rfl,gh ?_⟩,⟨rfl,aN rfl⟩,⟨rfl,aN rfl⟩,⟨rfl,gh ?_⟩,trivial⟩
     ⟨⟨_,_,rfl,rfl,fF rfl fun k _=>gO (by rw[jN]) k⟩,trivial⟩
    ·rw[lM];simp only;omega
    ·rw[wrap_i64 aa aa];simp only;omega
   ·exact(fL aa).trans (ho0 k hk)
   ·simp only
    rw[show 32*(i+(j+1))=32*((i+j)+1) by omega,gY,val]
    have hset:=KT (o:=o) (x:=(c+z i*y j+o (i+j))%4294967296) (show i+j<n+m by omega)
    exact NJ rfl (Nat.div_add_mod _ _) hset (by rw[<-Nat.pow_add];congr 1;omega) hval
  ·have hjm:j=m:=aa
   subst hjm
   refine aI.weak ag (dB (vs:=QE n j z y 7 i (z i) c j) (ps:=[(7,⟨true,true,1,n+j,aD o⟩)]) (nx:=8) [(7,7)] hv h0 rfl
     ⟨⟨rfl,aN rfl⟩,⟨rfl,cD rfl rfl rfl⟩,⟨rfl,aN rfl⟩,⟨rfl,aN rfl⟩,⟨rfl,aN rfl⟩,⟨rfl,aN rfl⟩,⟨rfl,aN rfl⟩,⟨rfl,aN rfl⟩,⟨rfl,aN rfl⟩,⟨rfl,aN rfl⟩,⟨rfl,aN rfl⟩,trivial⟩
     ⟨⟨_,_,rfl,rfl,fF rfl fun j _=>rfl⟩,trivial⟩)
    (aI.bA hT gA hm 30 rD Zv ag ?_)
   simp only[ah.all,az,hij,aW,Nat.add_zero,beq_iff_eq]
   refine⟨aa,fun s' hv=>?_⟩
   have hf:(fun k=>if k=i+j then AV.int .u32 (IntKind.u32.wrap (c:Int))else aD o k)=aD (cH o (i+j) c):=by
    funext k
    exact gO (wrap_u32 aa aa) k
   rw[hf]at hv
   refine next hin hv (ij hc ho) (fun k hk=>(fL aa).trans (ho0 k aa)) ?_
   rw[tG aa (ho0 _ aa),hval,val,Nat.add_mul,Nat.mul_assoc,Nat.mul_assoc,Nat.mul_comm (val j y)]
 ·have hin:i=n:=aa
  subst hin
  refine tI (fC ?_)
  refine(aI.weak ag (dB (vs:=tw i m z y 7 i) (ps:=[(7,⟨true,true,1,i+m,aD o⟩)]) (nx:=8) [(7,7)] hv h0 rfl ⟨⟨rfl,aN rfl⟩,⟨rfl,cD rfl rfl rfl⟩,⟨rfl,aN rfl⟩,⟨rfl,aN rfl⟩,⟨rfl,aN rfl⟩,trivial⟩
    ⟨⟨_,_,rfl,rfl,fF rfl fun j _=>rfl⟩,trivial⟩)
   (aI.fin hT gA hm 30 ajG ag ?_))
  simp only[ah.all,az,Nat.add_zero,jQ]
  exact⟨⟨gd ho,aa⟩,dF (congrArg AV.mag hval)⟩
def Rh (A n B m:Nat):dm:=aK (.mag (A*B)) [n<2^40,m<2^40]
theorem Xf:∀K args pre r,bX (iz Rh) K args pre=some r->aE P BZ K args pre r:=
 cK (vf fun _ _ _ _ K hz hy need=>XF hz hy need.1 need.2 K [])
end Go.Am.B
