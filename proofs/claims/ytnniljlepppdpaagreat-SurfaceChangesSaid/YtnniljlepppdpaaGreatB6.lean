/- slices.Clone, slices.Equal, natural.Mul. -/
import Derived.Test.YtnniljlepppdpaaGreatB5
set_option linter.unusedVariables false
namespace Go.Am.B
open Go Go.Am.N AV
theorem amb:aT P uW Ho (ay Ho):=aU Proofs.Tryz.func255 ag ag ag
theorem alC:aT P zV tC (ay tC):=aU Proofs.Tryz.func211 ag ag ag
theorem aoM:aT P Ct kr (ay kr):=aU Proofs.Tryz.func216 ag ag ag
theorem amQ {n:Nat} {b:Bool} {f:Nat->AV}:bU T [] [4] 30 Ho (ay Ho) ⟨aP 0 [.dX b 1 n f],[],0⟩=
  some (ah.fork b (ah.leaf ax.ret [nil]) (ah.aj [(0:Nat)*1<=2^24,((0:Nat)+n)*((4:Nat)+1)*2<=2^47] (ah.leaf ax.ret [aq 1 ((0:Nat)+n) fun i=>if i+0<0 then nth [] (int .u32 (0:Int)) (i+0)else f (i+0-0)]))):=ag
theorem alp {A B:Nat}:aG T [] [10] 30 [0,1,12,13,4] (before (ay tC) [1,1,0,1]) ⟨aP 0 [.mag A,.mag B],[],0⟩=
  some (ah.fork ((↑(nl A):Int)!=(↑(nl B):Int)) (ah.leaf ax.ret ([mag A,mag B,tuple [],tuple [],AV.bool false],[])) (ah.leaf ax.normal ([mag A,mag B,int .i64 (↑(nl A):Int),int .i64 (0:Int),AV.bool false],[]))):=ag
theorem Xw {A B i:Nat}:aG T [] [14,24] 30 [0,1,12,13,4] [part (ay tC) [1,1,0,1,0,0]] ⟨aB [0,1,12,13,4] [.mag A,.mag B,.int .i64 (nl A),.int .i64 i,.bool false],[],0⟩=
  let c3:Int:=(↑(nl A):Int);let c2:Int:=(↑i:Int);let c1:List AV:=[mag A,mag B,int .i64 c3,int .i64 c2,AV.bool false];some (ah.fork (decide (c2<c3)) (ah.aj [(0:Int)<=c2/\c2.toNat<nl A,(0:Int)<=c2/\c2.toNat<nl B] (ah.fork ((↑(aF A c2.toNat):Int)!=(↑(aF B c2.toNat):Int)) (ah.leaf ax.ret (c1,[])) (ah.leaf ax.normal ([mag A,mag B,int .i64 c3,int .i64 (IntKind.i64.wrap (c2+1)),AV.bool false],[])))) (ah.leaf (ax.exit 0) (c1,[]))):=ag
theorem ae5 {A B i:Nat}:cj T [] [] 30 tC (behind (ay tC) [1,1,0,1]) ⟨aB [0,1,12,13,4] [.mag A,.mag B,.int .i64 (nl A),.int .i64 i,.bool false],[],0⟩=
  some (ah.leaf ax.ret [AV.bool true]):=ag
theorem Ws {n m:Nat} {z y:Nat->Nat}:aG T G1 [] 30 [1,5,17,18,19] (before (ay kr) [1,1,0,1]) ⟨aP 0 [.aq 1 n (aD z),.aq 1 m (aD y)],[],0⟩=
  let c1:Int:=IntKind.i64.wrap ((↑n:Int)+(↑m:Int));some (ah.aj [(0:Int)<=c1/\c1<=c1/\c1<=2^47/\c1*(↑(4:Nat):Int)<=2^47] (ah.leaf ax.normal ([aq 1 m fun a=>int .u32 (↑(y a):Int),own 24576 1 0 c1.toNat,aq 1 n fun a=>int .u32 (↑(z a):Int),int .i64 (↑n:Int),int .i64 (0:Int)],[(24576,ak.mk true true 1 c1.toNat fun x=>int .u32 (0:Int))]))):=ag
theorem ac6 {n m i:Nat} {z y o:Nat->Nat}:aG T G1 [20] 30 [1,5,17,18,19] (before (part (ay kr) [1,1,0,1,0,0]) [1,1,0]) ⟨aB [1,5,17,18,19] [.aq 1 m (aD y),.own 7 1 0 (n+m),.aq 1 n (aD z),.int .i64 n,.int .i64 i],[(7,⟨true,true,1,n+m,aD o⟩)],8⟩=
  let c1:List AV×aE:=([aq 1 m fun a=>int .u32 (↑(y a):Int),own 7 1 0 (n+m),aq 1 n fun a=>int .u32 (↑(z a):Int),int .i64 (↑n:Int),int .i64 (↑i:Int)],[(7,ak.mk true true 1 (n+m) fun a=>int .u32 (↑(o a):Int))]);some (ah.fork (decide ((↑i:Int)<(↑n:Int))) (ah.leaf ax.normal c1) (ah.leaf (ax.exit 0) c1)):=ag
theorem afE {n m i:Nat} {z y o:Nat->Nat}:aG T G1 [25] 30 [1,5,17,18,19,6,7,8,26,27,28] (before (part (ay kr) [1,1,0,1,0,0,1,1,0,0]) [1,1,1,0,1]) ⟨aB [1,5,17,18,19] [.aq 1 m (aD y),.own 7 1 0 (n+m),.aq 1 n (aD z),.int .i64 n,.int .i64 i],[(7,⟨true,true,1,n+m,aD o⟩)],8⟩=
  let c8:Int:=(↑i:Int);let c7:AV:=int .i64 (↑n:Int);let c6:AV:=own 7 1 0 (n+m);let c4:AV:=aq 1 n fun a=>int .u32 (↑(z a):Int);let c2:Nat×ak:=(7,ak.mk true true 1 (n+m) fun a=>int .u32 (↑(o a):Int));let c1:AV:=aq 1 m fun a=>int .u32 (↑(y a):Int);let c5:Int:=(↑(z c8.toNat):Int);let c3:AV:=int .i64 c8;some (ah.aj [(0:Int)<=c8/\c8.toNat<n] (ah.fork (c5==0) (ah.leaf (ax.exit 1) ([c1,c6,c4,c7,c3,c3,int .u32 c5,tuple [],tuple [],tuple [],tuple []],[c2])) (ah.leaf ax.normal ([c1,c6,c4,c7,c3,c3,int .u32 c5,int .u64 (0:Int),c1,int .i64 (↑m:Int),int .i64 (0:Int)],[c2])))):=ag
theorem aoF {n m i j x c:Nat} {z y o:Nat->Nat}:aG T G1 [29] 30 [1,5,17,18,19,6,7,8,26,27,28] [part (part (ay kr) [1,1,0,1,0,0,1,1,0,0]) [1,1,1,0,1,0,0]] ⟨aB [1,5,17,18,19,6,7,8,26,27,28] [.aq 1 m (aD y),.own 7 1 0 (n+m),.aq 1 n (aD z),.int .i64 n,.int .i64 i,.int .i64 i,.int .u32 x,.int .u64 c,.aq 1 m (aD y),.int .i64 m,.int .i64 j],[(7,⟨true,true,1,n+m,aD o⟩)],8⟩=
  let c12:AV:=int .i64 (↑n:Int);let c11:AV:=int .u32 (↑x:Int);let c10:AV:=int .i64 (↑m:Int);let c8:AV:=own 7 1 0 (n+m);let c7:Int:=(↑j:Int);let c6:AV:=aq 1 n fun a=>int .u32 (↑(z a):Int);let c4:AV:=int .i64 (↑i:Int);let c3:AV:=aq 1 m fun a=>int .u32 (↑(y a):Int);let c1:Int:=IntKind.i64.wrap ((↑i:Int)+c7);let c5:Nat:=c1.toNat+0;let c9:List Prop:=[(0:Int)<=c1/\c1.toNat<n+m,c5<n+m];let c2:Int:=IntKind.u64.wrap ((↑c:Int)+IntKind.u64.wrap (IntKind.u64.wrap (IntKind.u64.wrap (↑x:Int)*IntKind.u64.wrap (↑(y c7.toNat):Int))+IntKind.u64.wrap (↑(o c5):Int)));some (ah.fork (decide (c7<(↑m:Int))) (ah.aj [(0:Int)<=c7/\c7.toNat<m] (ah.aj c9 (ah.aj c9 (ah.aj [(0:Int)<=32] (ah.leaf ax.normal ([c3,c8,c6,c12,c4,c4,c11,int .u64 (c2.fdiv ((2:Int)^min (Int.toNat (32:Int)) IntKind.u64.bits)),c3,c10,int .i64 (IntKind.i64.wrap (c7+1))],[(7,ak.mk true true 1 (n+m) fun j=>if(j==c5)=true then int .u32 (IntKind.u32.wrap c2)else aD o j)])))))) (ah.leaf (ax.exit 2) ([c3,c8,c6,c12,c4,c4,c11,int .u64 (↑c:Int),c3,c10,int .i64 c7],[(7,ak.mk true true 1 (n+m) fun a=>int .u32 (↑(o a):Int))]))):=ag
theorem aeN {n m i j x c:Nat} {z y o:Nat->Nat}:aG T G1 [] 30 [1,5,17,18,19] (behind (part (ay kr) [1,1,0,1,0,0,1,1,0,0]) [1,1,1,0,1]) ⟨aB [1,5,17,18,19,6,7,8,26,27,28] [.aq 1 m (aD y),.own 7 1 0 (n+m),.aq 1 n (aD z),.int .i64 n,.int .i64 i,.int .i64 i,.int .u32 x,.int .u64 c,.aq 1 m (aD y),.int .i64 m,.int .i64 j],[(7,⟨true,true,1,n+m,aD o⟩)],8⟩=
  let c1:Int:=IntKind.i64.wrap ((↑i:Int)+(↑m:Int));let c2:Nat:=c1.toNat+0;some (ah.aj [(0:Int)<=c1/\c1.toNat<n+m,c2<n+m] (ah.leaf ax.normal ([aq 1 m fun a=>int .u32 (↑(y a):Int),own 7 1 0 (n+m),aq 1 n fun a=>int .u32 (↑(z a):Int),int .i64 (↑n:Int),int .i64 (↑i:Int)],[(7,ak.mk true true 1 (n+m) fun j=>if(j==c2)=true then int .u32 (IntKind.u32.wrap (↑c:Int))else aD o j)]))):=ag
theorem WX {n m i:Nat} {z y o:Nat->Nat}:aG T G1 [] 30 [1,5,17,18,19] (behind (part (ay kr) [1,1,0,1,0,0]) [1,1,0]) ⟨aB [1,5,17,18,19] [.aq 1 m (aD y),.own 7 1 0 (n+m),.aq 1 n (aD z),.int .i64 n,.int .i64 i],[(7,⟨true,true,1,n+m,aD o⟩)],8⟩=
  some (ah.leaf ax.normal ([aq 1 m fun a=>int .u32 (↑(y a):Int),own 7 1 0 (n+m),aq 1 n fun a=>int .u32 (↑(z a):Int),int .i64 (↑n:Int),int .i64 (IntKind.i64.wrap ((↑i:Int)+1))],[(7,ak.mk true true 1 (n+m) fun a=>int .u32 (↑(o a):Int))])):=ag
theorem Yu {n m i:Nat} {z y o:Nat->Nat}:cj T G1 [] 30 kr (behind (ay kr) [1,1,0,1]) ⟨aB [1,5,17,18,19] [.aq 1 m (aD y),.own 7 1 0 (n+m),.aq 1 n (aD z),.int .i64 n,.int .i64 i],[(7,⟨true,true,1,n+m,aD o⟩)],8⟩=
  some (ah.aj [ek (n+m) fun i=>aD o (i+0),n+m<2^62] (ah.leaf ax.ret [mag (val (n+m) fun i=>numOf (aD o (i+0)))])):=ag
theorem HM {n:Nat} {f:Nat->AV} (hn:n<2^40) (K:Nat):aQ P uW K [.aq 1 n f] [] (aJ (.aq 1 n f) []):=by
 refine Nw fun b hb=>?_
 refine bZ hT bz hm amb rfl aX rfl 30 amQ (fun _=>?_) K []
 simp only[ah.all,aA]
 refine⟨fun h=>?_,fun h=>⟨⟨aa,aa⟩,nv aa fun i hi=>by simp⟩⟩
 rw[hb h]
 exact ic aa
def BX:Spec:=bY fun l=>match l with
 |[.mag N]=>some (aJ (.mag N) [nl N<2^40])
 |[.nil]=>some (aJ (.mag 0) [])
 |[.aq es n f]=>if es==1 then some (aJ (.aq 1 n f) [n<2^40])else none
 |_=>none
theorem LM:aW P BX uW:=by
 refine cJ fun K args r hk hs _=>?_
 split at hs
 ·rename_i N
  simp only[az]at hs
  subst hs
  intro need
  have:=gZ (args:=[.mag N]) (HM (n:=nl N) (f:=fun i=>.int .u32 (aF N i)) need K) rfl ⟨Qj rfl fun i hi=>rfl,trivial⟩ []
  exact EO (l':=[]) this id rfl rfl (me rfl fun i hi=>rfl) trivial
 ·simp only[az]at hs
  subst hs
  intro need
  have:=gZ (args:=[.nil]) (HM (n:=0) (f:=fun _=>.nil) aa K) rfl ⟨ic aa,trivial⟩ []
  exact EO (l':=[]) this id rfl rfl (me (by simp[nl]) fun i hi=>aa) trivial
 ·rename_i es n f
  split at hs
  ·rename_i he
   have he:es=1:=by simpa using he
   subst he
   simp only[az]at hs
   subst hs
   exact fun need=>HM need K trivial
  ·simp at hs
 ·simp at hs
theorem aei {A B:Nat} (hA:nl A<2^40) (hB:nl B<2^40) (K:Nat) (pre:aE):aQ P zV K [.mag A,.mag B] pre (aJ (.bool (decide (A=B))) []):=by
 refine j9 hT alC rfl aX rfl (fun _ c h0=>?_) K pre
 refine au.hole [1,1,0,1] ag (aH.bC hT bz hm 30 [0,1,12,13,4] alp ag ?_)
 simp only[ah.all,bne_iff_ne,ne_eq,Int.natCast_inj,bne_eq_false_iff_eq]
 refine⟨fun hb s' hv=>?_,fun hb s' hv=>?_⟩
 ·exact gQ (us:=[.bool false]) (.inr rfl) hv ag (gl (decide_eq_false fun h=>hb (by rw[h])).symm)
 refine au.iZ (i:=0) (y:=part (ay tC) [1,1,0,1,0,0]) ag
  (fun i:Nat=>⟨aB [0,1,12,13,4] [.mag A,.mag B,.int .i64 (nl A),.int .i64 i,.bool false],[],0⟩)
  (fun i=>i<=nl A/\∀j,j<i->aF A j=aF B j) (fun i=>nl A-i) 0
  (dH [] hv h0 rfl ⟨aM,aM,aM,aM,aM,trivial⟩ trivial) ⟨aa,fun j h=>aa⟩ ?_
 rintro i ⟨hi,hlim⟩
 refine au.bC hT bz hm 30 [0,1,12,13,4] Xw ag ?_
 simp only[ah.all,aA,bq,bw,bne_iff_ne,ne_eq,Int.natCast_inj,bne_eq_false_iff_eq,bn]
 refine⟨fun h1=>⟨⟨aa,aa⟩,fun hne s' hv=>?_,fun heq s' hv=>?_⟩,fun h1 s' hv=>?_⟩
 ·exact gQ (us:=[.bool false]) (.inr rfl) hv ag (gl (decide_eq_false fun h=>hne (by rw[h])).symm)
 ·refine⟨i+1,dH [] hv h0 rfl ⟨aM,aM,aM,⟨rfl,gI (by rw[wrap_i64 aa aa];omega)⟩,aM,trivial⟩ trivial,⟨aa,fun j hj=>?_⟩,aa⟩
  by_cases h:j=i
  ·subst h;exact heq
  ·exact hlim j aa
 ·have hAB:A=B:=JM hb fun j hj=>hlim j aa
  exact aH.weak ag (dH (vs:=[.mag A,.mag B,.int .i64 (nl A),.int .i64 i,.bool false]) (ps:=[]) (nx:=0) [] hv h0 rfl ⟨aM,aM,aM,aM,aM,trivial⟩ trivial)
   (aH.fin hT bz hm 30 ae5 ag (gl (decide_eq_true hAB).symm))
def jB:AV->Option Nat
 |.mag N=>some N
 |.nil=>some 0
 |_=>none
theorem mF {a:AV} {N:Nat} (h:jB a=some N):bN a (.mag N):=by
 cases a<;>simp only[jB,reduceCtorEq,az]at h
 case mag M=>subst h;exact .refl _
 case nil=>subst h;exact lJ
def Ld:Spec:=bY fun l=>match l with
 |[a,b]=>match jB a,jB b with
  |some A,some B=>some (aJ (.bool (decide (A=B))) [nl A<2^40,nl B<2^40])
  |_,_=>none
 |_=>none
theorem Rd:aW P Ld zV:=by
 refine cJ fun K args r hk hs _=>?_
 split at hs
 ·split at hs
  ·rename_i A B hA hB
   simp only[az]at hs
   subst hs
   exact fun need=>gZ (aei need.1 need.2 K []) hk ⟨mF hA,mF hB,trivial⟩ [] trivial
  ·simp at hs
 ·simp at hs
abbrev qk:List Nat:=[1,5,17,18,19]
abbrev sP (n m:Nat) (z y:Nat->Nat) (K i:Nat):List AV:=[.aq 1 m (aD y),.own K 1 0 (n+m),.aq 1 n (aD z),.int .i64 n,.int .i64 i]
abbrev HL:List Nat:=[1,5,17,18,19,6,7,8,26,27,28]
abbrev SG (n m:Nat) (z y:Nat->Nat) (K i x c j:Nat):List AV:=[.aq 1 m (aD y),.own K 1 0 (n+m),.aq 1 n (aD z),.int .i64 n,.int .i64 i,.int .i64 i,.int .u32 x,.int .u64 c,.aq 1 m (aD y),.int .i64 m,.int .i64 j]
theorem ahr {n m:Nat} {z y:Nat->Nat} (hz:∀i,i<n->z i<2^32) (hy:∀i,i<m->y i<2^32) (hn:n<2^40) (hm':m<2^40) (K:Nat) (pre:aE):
  aQ P Ct K [.aq 1 n (aD z),.aq 1 m (aD y)] pre (aJ (.mag (val n z*val m y)) []):=by
 refine j9 hT aoM rfl aX rfl (fun _ c0 h0=>?_) K pre
 refine au.hole [1,1,0,1] ag (aH.bC hT gR hm 30 qk Ws ag ?_)
 have hw:IntKind.i64.wrap ((n:Int)+(m:Int))=((n+m:Nat):Int):=by rw[wrap_i64 aa aa];omega
 simp only[ah.all,aA,hw,bn]
 refine⟨aa,fun s' hv=>?_⟩
 refine au.iZ (i:=0) (y:=part (ay kr) [1,1,0,1,0,0]) ag
  (fun p:Nat×(Nat->Nat)=>⟨aB qk (sP n m z y 7 p.1),[(7,⟨true,true,1,n+m,aD p.2⟩)],8⟩)
  (fun p=>p.1<=n/\(∀j,j<n+m->p.2 j<2^32)/\(∀j,p.1+m<=j->p.2 j=0)/\val (n+m) p.2=val p.1 z*val m y)
  (fun p=>n-p.1) (0,fun _=>0)
  (dH [(7,24576)] hv h0 rfl ⟨aM,⟨rfl,bW rfl rfl rfl⟩,aM,aM,aM,trivial⟩
   ⟨⟨_,_,rfl,rfl,fS rfl fun j _=>rfl⟩,trivial⟩)
  ⟨by simp,fun j _=>by simp,fun j _=>rfl,?_⟩ ?_
 ·simp only
  rw[oJ (k:=0) aa fun _ _ _=>rfl]
  simp[val]
 rintro⟨i,o⟩ ⟨hi,ho,ho0,hval⟩
 simp only at hi ho ho0 hval
 have next:∀{o':Nat->Nat} {s':aK},i<n->bA qk s'=some (sP n m z y 7 i,[(7,⟨true,true,1,n+m,aD o'⟩)])->(∀j,j<n+m->o' j<2^32)->(∀j,i+1+m<=j->o' j=0)->
   val (n+m) o'=val (i+1) z*val m y->∀{QF:ax->aK->Prop},
   aH P c0 kr.ntmps (behind (part (ay kr) [1,1,0,1,0,0]) [1,1,0]) s' (dM (fun s'=>∃k:Nat×(Nat->Nat),(∃ρ,Le c0 ρ s' ⟨aB qk (sP n m z y 7 k.1),[(7,⟨true,true,1,n+m,aD k.2⟩)],8⟩)/\
    (k.1<=n/\(∀j,j<n+m->k.2 j<2^32)/\(∀j,k.1+m<=j->k.2 j=0)/\val (n+m) k.2=val k.1 z*val m y)/\n-k.1<n-i) QF):=by
  intro o' s' hin hv g1 g2 g3 QF
  refine aH.weak ag (dH (vs:=sP n m z y 7 i) (ps:=[(7,⟨true,true,1,n+m,aD o'⟩)]) (nx:=8) [(7,7)] hv h0 rfl ⟨aM,⟨rfl,bW rfl rfl rfl⟩,aM,aM,aM,trivial⟩
    ⟨⟨_,_,rfl,rfl,fS rfl fun j _=>rfl⟩,trivial⟩)
   (aH.bC hT gR hm 30 qk WX ag ?_)
  intro s' hv
  exact⟨(i+1,o'),dH [(7,7)] hv h0 rfl ⟨aM,⟨rfl,bW rfl rfl rfl⟩,aM,aM,⟨rfl,gI (by rw[wrap_i64 aa aa];simp only;omega)⟩,trivial⟩
    ⟨⟨_,_,rfl,rfl,fS rfl fun j _=>rfl⟩,trivial⟩,⟨by simp only;omega,g1,g2,g3⟩,by simp only;omega⟩
 refine au.hole [1,1,0] ag (aH.bC hT gR hm 30 qk ac6 ag ?_)
 simp only[ah.all,bq,bw]
 refine⟨fun h1 s' hv=>?_,fun h1 s' hv=>?_⟩
 ·have hin:i<n:=aa
  have hzi:=hz i hin
  refine au.jn (dH (vs:=sP n m z y 7 i) (ps:=[(7,⟨true,true,1,n+m,aD o⟩)]) (nx:=8) [(7,7)] hv h0 rfl ⟨aM,⟨rfl,bW rfl rfl rfl⟩,aM,aM,aM,trivial⟩
    ⟨⟨_,_,rfl,rfl,fS rfl fun j _=>rfl⟩,trivial⟩) ?_
  refine au.qL (i:=1) (y:=part (ay kr) [1,1,0,1,0,0,1,1,0,0]) ag ?_
  refine au.hole [1,1,1,0,1] ag (aH.bC hT gR hm 30 HL afE ag ?_)
  simp only[ah.all,aA,bn,beq_iff_eq,beq_eq_false_iff_ne,ne_eq]
  refine⟨aa,fun hz0 s' hv=>?_,fun hz0 s' hv=>?_⟩
  ·refine fO ?_
   exact(next hin (jx (ls:=qk) (l:=[6,7,8,26,27,28]) (vs:=sP n m z y 7 i) hv rfl rfl) ho (fun j hj=>ho0 j aa) (by rw[hval,val,show z i=0 by omega];simp))
  refine au.iZ (i:=2) (y:=part (part (ay kr) [1,1,0,1,0,0,1,1,0,0]) [1,1,1,0,1,0,0]) ag
   (fun p:Nat×Nat×(Nat->Nat)=>⟨aB HL (SG n m z y 7 i (z i) p.2.1 p.1),[(7,⟨true,true,1,n+m,aD p.2.2⟩)],8⟩)
   (fun p=>p.1<=m/\p.2.1<2^32/\(∀j,j<n+m->p.2.2 j<2^32)/\(∀j,i+m<=j->p.2.2 j=0)/\val (n+m) p.2.2+p.2.1*2^(32*(i+p.1))=val i z*val m y+z i*val p.1 y*2^(32*i))
   (fun p=>m-p.1) (0,0,o)
   (dH [(7,7)] hv h0 rfl ⟨aM,⟨rfl,bW rfl rfl rfl⟩,aM,aM,aM,aM,aM,aM,aM,aM,aM,trivial⟩
    ⟨⟨_,_,rfl,rfl,fS rfl fun j _=>rfl⟩,trivial⟩)
   ⟨by simp,by simp,ho,ho0,by simp[val,hval]⟩ ?_
  rintro⟨j,c,o⟩ ⟨hj,hc,ho,ho0,hval⟩
  simp only at hj hc ho ho0 hval
  refine au.bC hT gR hm 30 HL aoF ag ?_
  have hij:IntKind.i64.wrap ((i:Int)+(j:Int))=((i+j:Nat):Int):=by rw[wrap_i64 aa aa];omega
  simp only[ah.all,aA,bq,bw,hij,bn,Nat.add_zero,beq_iff_eq]
  refine⟨fun h2=>?_,fun h2 s' hv=>fO ?_⟩
  ·have hjm:j<m:=aa
   obtain⟨m1,m2,m3⟩:=SV hc hzi (hy j hjm) (ho (i+j) aa)
   rw[m1]
   refine⟨aa,aa,aa,aa,fun s' hv=>⟨(j+1,(c+z i*y j+o (i+j))/4294967296,cH o (i+j) ((c+z i*y j+o (i+j))%4294967296)),?_,⟨by simp only;omega,m3,iW aa ho,fun k hk=>?_,?_⟩,by simp only;omega⟩⟩
   ·refine dH [(7,7)] hv h0 rfl ⟨aM,⟨rfl,bW rfl rfl rfl⟩,aM,aM,aM,aM,aM,⟨rfl,gI ?_⟩,aM,aM,⟨rfl,gI ?_⟩,trivial⟩
     ⟨⟨_,_,rfl,rfl,fS rfl fun k _=>iu (by rw[j3]) k⟩,trivial⟩
    ·rw[mM];simp only;omega
    ·rw[wrap_i64 aa aa];simp only;omega
   ·exact(ga aa).trans (ho0 k hk)
   ·simp only
    rw[show 32*(i+(j+1))=32*((i+j)+1) by omega,iG,val]
    have hset:=Ih (o:=o) (x:=(c+z i*y j+o (i+j))%4294967296) (show i+j<n+m by omega)
    exact QH rfl (Nat.div_add_mod _ _) hset (by rw[<-Nat.pow_add];congr 1;omega) hval
  ·have hjm:j=m:=aa
   subst hjm
   refine aH.weak ag (dH (vs:=SG n j z y 7 i (z i) c j) (ps:=[(7,⟨true,true,1,n+j,aD o⟩)]) (nx:=8) [(7,7)] hv h0 rfl
     ⟨aM,⟨rfl,bW rfl rfl rfl⟩,aM,aM,aM,aM,aM,aM,aM,aM,aM,trivial⟩
     ⟨⟨_,_,rfl,rfl,fS rfl fun j _=>rfl⟩,trivial⟩)
    (aH.bC hT gR hm 30 qk aeN ag ?_)
   simp only[ah.all,aA,hij,bn,Nat.add_zero,beq_iff_eq]
   refine⟨aa,fun s' hv=>?_⟩
   have hf:(fun k=>if k=i+j then AV.int .u32 (IntKind.u32.wrap (c:Int))else aD o k)=aD (cH o (i+j) c):=by
    funext k
    exact iu (wrap_u32 aa aa) k
   rw[hf]at hv
   refine next hin hv (iW hc ho) (fun k hk=>(ga aa).trans (ho0 k aa)) ?_
   rw[rS aa (ho0 _ aa),hval,val,Nat.add_mul,Nat.mul_assoc,Nat.mul_assoc,Nat.mul_comm (val j y)]
 ·have hin:i=n:=aa
  subst hin
  refine sY (fO ?_)
  refine(aH.weak ag (dH (vs:=sP i m z y 7 i) (ps:=[(7,⟨true,true,1,i+m,aD o⟩)]) (nx:=8) [(7,7)] hv h0 rfl ⟨aM,⟨rfl,bW rfl rfl rfl⟩,aM,aM,aM,trivial⟩
    ⟨⟨_,_,rfl,rfl,fS rfl fun j _=>rfl⟩,trivial⟩)
   (aH.fin hT gR hm 30 Yu ag ?_))
  simp only[ah.all,aA,Nat.add_zero,kg]
  exact⟨⟨gF ho,aa⟩,dO (congrArg AV.mag hval)⟩
def Oo (A n B m:Nat):dz:=aJ (.mag (A*B)) [n<2^40,m<2^40]
theorem XT:aW P (bY (iN Oo)) Ct:=
 cJ (uJ fun _ _ _ _ K hz hy need=>ahr hz hy need.1 need.2 K [])
end Go.Am.B
