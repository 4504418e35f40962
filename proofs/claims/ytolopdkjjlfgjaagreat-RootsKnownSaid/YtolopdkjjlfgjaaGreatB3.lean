/- natural.Of, natural.word, natural.Cmp. -/
import Derived.Test.YtolopdkjjlfgjaaGreatB2
set_option linter.unusedVariables false
namespace Go.Am.B
open Go Go.Am.N AV Proofs.Tryz IntKind
theorem ZO:bC 170 f170:=bD func170
theorem abu:bC 182 f182:=bD func182
theorem ac8:bC 118 f118:=bD func118
theorem val_two {z:Nat->Nat}:val 2 z=z 0+z 1*4294967296:=by simp[val]
theorem afl {x:Nat}:cy T G1 [] 30 f170 (aJ f170) ⟨bf 0 [.int .u64 x],[],0⟩=
  let c2:AV:=int .u32 (0:Int);let c1:List AV:=[int .u32 (u32.wrap (↑x:Int)),int .u32 (u32.wrap ((↑x:Int).fdiv ((2:Int)^min (Int.toNat (32:Int)) u64.bits)))];some (af.aj [(0:Int)<=32,(2:Nat)*1<=2^24,fu 2 fun i=>nth c1 c2 (i+0),(2:Nat)<2^62] (af.leaf au.ret [mag (val 2 fun i=>numOf (nth c1 c2 (i+0)))])):=ah
theorem aby {x:Nat} (hx:x<2^64) (K:Nat) (pre:aG):aY P 170 K [.int .u64 x] pre (aT (.mag x) []):=by
 refine cB hT iY hm ZO rfl br rfl 30 afl (fun _=>?_) K pre
 simp only[af.all,aF,nk]
 refine⟨⟨aa,aa,fun i hi=>?_,aa⟩,fo (congrArg AV.mag ?_)⟩
 ·match i,hi with
  |0,_=>exact⟨x%2^32,aa,by simp[nth,k9]⟩
  |1,_=>exact⟨x/4294967296,aa,by simp[nth,nH];omega⟩
 ·rw[val_two]
  simp[nth,numOf,nH]
  omega
theorem YG {n:Nat} {z:Nat->Nat}:aK T [] [] 30 [0,3,4] (before (aJ f182) [1,1,0,1]) ⟨bf 0 [.az 1 n (aD z)],[],0⟩=
  some (af.leaf au.normal ([az 1 n fun a=>int .u32 (↑(z a):Int),int .u64 (0:Int),int .i64 (i64.wrap ((↑n:Int)-1))],[])):=ah
theorem aeu {n k v:Nat} {z:Nat->Nat}:aK T [] [9] 30 [0,3,4] [part (aJ f182) [1,1,0,1,0,0]] ⟨aH [0,3,4] [.az 1 n (aD z),.int .u64 v,.int .i64 ((k:Int)-1)],[],0⟩=
  let c2:AV:=az 1 n fun a=>int .u32 (↑(z a):Int);let c1:Int:=(↑k:Int)-1;some (af.fork (decide (c1>=0)) (af.aj [(0:Int)<=32,(0:Int)<=c1/\c1.toNat<n] (af.leaf au.normal ([c2,int .u64 (u64.wrap (↑(BitVec.ofInt u64.bits (u64.wrap ((↑v:Int)*2^min (Int.toNat (32:Int)) u64.bits))|||BitVec.ofInt u64.bits (u64.wrap (↑(z c1.toNat):Int))).toNat:Int)),int .i64 (i64.wrap (c1-1))],[]))) (af.leaf (au.exit 0) ([c2,int .u64 (↑v:Int),int .i64 c1],[]))):=ah
theorem Wc {n k v:Nat} {z:Nat->Nat}:dJ T [] [] 30 f182 (behind (aJ f182) [1,1,0,1]) ⟨aH [0,3,4] [.az 1 n (aD z),.int .u64 v,.int .i64 ((k:Int)-1)],[],0⟩=
  some (af.leaf au.ret [int .u64 (↑v:Int)]):=ah
theorem JP {z:Nat->Nat} {n k v:Nat} (h:v*2^(32*(k+1))+val (k+1) z=val n z):(v*4294967296+z k)*2^(32*k)+val k z=val n z:=by
 rw[<-h,val,jn,Nat.add_mul]
 rw[Nat.mul_assoc]
 omega
theorem R5 {n:Nat} {z:Nat->Nat} (hz:∀i,i<n->z i<2^32) (hn:n<=2) (K:Nat) (pre:aG):aY P 182 K [.az 1 n (aD z)] pre (aT (.int .u64 (val n z:Nat)) []):=by
 refine lO hT abu rfl br rfl (fun _ c h0=>?_) K pre
 refine aA.hole [1,1,0,1] ah (aI.bM hT cK hm 30 [0,3,4] YG ah ?_)
 intro s' hv
 have hv64:val n z<2^64:=by
  have h1:=ia hz
  have h2:2^(32*n)<=2^(32*2):=Nat.pow_le_pow_right aa aa
  omega
 refine aA.jG (i:=0) (y:=part (aJ f182) [1,1,0,1,0,0]) ah
  (fun p:Nat×Nat=>⟨aH [0,3,4] [.az 1 n (aD z),.int .u64 (p.2:Nat),.int .i64 ((p.1:Nat)-1:Int)],[],0⟩)
  (fun p=>p.1<=n/\p.2*2^(32*p.1)+val p.1 z=val n z) (fun p=>p.1) (n,0)
  (eC [] hv h0 rfl ⟨aU,aU,⟨rfl,iI (wrap_i64 aa aa)⟩,trivial⟩ trivial) ⟨by simp,by simp⟩ ?_
 rintro⟨k,v⟩ ⟨hk,hval⟩
 simp only at hk hval
 refine aA.bM hT cK hm 30 [0,3,4] aeu ah ?_
 simp only[af.all,aF,bI,bO]
 refine⟨fun hb=>?_,fun hb s' hv=>?_⟩
 ·obtain⟨j,rfl⟩:∃j,k=j+1:=⟨k-1,aa⟩
  have e:(((j+1:Nat):Int)-1).toNat=j:=aa
  have hzj:=hz j aa
  have hv32:v<2^32:=by
   rcases Nat.lt_or_ge v (2^32)with h|h
   ·exact h
   ·have h1:2^32*2^(32*(j+1))<=v*2^(32*(j+1)):=Nat.mul_le_mul_right _ h
    have h2:2^32<=2^(32*(j+1)):=Nat.pow_le_pow_right aa aa
    have h3:2^32*2^32<=2^32*2^(32*(j+1)):=Nat.mul_le_mul_left _ h2
    omega
  rw[e]
  have fT:u64.wrap ((BitVec.ofInt u64.bits (u64.wrap ((v:Int)*2^min (Int.toNat 32) u64.bits))|||BitVec.ofInt u64.bits (u64.wrap (z j:Int))).toNat:Int)=
    ((v*4294967296+z j:Nat):Int):=by
   rw[yz,cG (x:=(z j:Int)) aa aa,cG (x:=(v:Int)*4294967296) aa aa]
   rw[show(v:Int)*4294967296=((v*2^32:Nat):Int) by omega,uV aa aa,sH hzj]
  refine⟨⟨aa,aa,aa⟩,fun s' hv=>⟨(j,v*4294967296+z j),eC [] hv h0 rfl ⟨aU,⟨rfl,iI fT⟩,⟨rfl,iI (by rw[wrap_i64 aa aa];simp only;omega)⟩,trivial⟩ trivial,
   ⟨by simp only;omega,JP hval⟩,by simp⟩⟩
 ·have hk0:k=0:=aa
  subst hk0
  have hval:v=val n z:=by simpa [val]using hval
  subst hval
  exact aI.weak ah (eC (vs:=[.az 1 n (aD z),.int .u64 (val n z:Nat),.int .i64 (((0:Nat):Int)-1)]) (ps:=[]) (nx:=0) [] hv h0 rfl ⟨aU,aU,aU,trivial⟩ trivial)
   (aI.fin hT cK hm 30 Wc ah (bg.refl _))
theorem XC {n m:Nat} {z y:Nat->Nat}:aK T G1 [14,19] 30 [0,1,5,4] (before (aJ f118) [1,1,1,0,1]) ⟨bf 0 [.az 1 n (aD z),.az 1 m (aD y)],[],0⟩=
  let c2:Nat:=val m fun i=>numOf (aD y i);let c1:Nat:=val n fun i=>numOf (aD z i);let c4:Int:=(↑(nl c2):Int);let c3:Int:=(↑(nl c1):Int);some (af.aj [fu n (aD z),n<2^62,fu m (aD y),m<2^62] (af.fork (c3 !=c4) (af.fork (decide (c3<c4)) (af.leaf au.ret ([mag c1,mag c2,tuple [],int .i64 (-1:Int)],[])) (af.leaf au.ret ([mag c1,mag c2,tuple [],int .i64 (1:Int)],[]))) (af.leaf au.normal ([mag c1,mag c2,int .i64 (i64.wrap (c3-1)),int .i64 (0:Int)],[])))):=ah
theorem Xo {A B k:Nat}:aK T [] [24,35,44] 30 [0,1,5,4] [part (aJ f118) [1,1,1,0,1,0,0]] ⟨aH [0,1,5,4] [.mag A,.mag B,.int .i64 ((k:Int)-1),.int .i64 0],[],0⟩=
  let c6:AV:=int .i64 (0:Int);let c1:Int:=(↑k:Int)-1;let c5:AV:=int .i64 c1;let c4:Int:=(↑(aE A c1.toNat):Int);let c3:Int:=(↑(aE B c1.toNat):Int);let c2:List Prop:=[(0:Int)<=c1/\c1.toNat<nl A,(0:Int)<=c1/\c1.toNat<nl B];some (af.fork (decide (c1>=0)) (af.aj c2 (af.fork (c4 !=c3) (af.aj c2 (af.fork (decide (c4<c3)) (af.leaf au.ret ([mag A,mag B,c5,int .i64 (-1:Int)],[])) (af.leaf au.ret ([mag A,mag B,c5,int .i64 (1:Int)],[])))) (af.leaf au.normal ([mag A,mag B,int .i64 (i64.wrap (c1-1)),c6],[])))) (af.leaf (au.exit 0) ([mag A,mag B,c5,c6],[]))):=ah
theorem adk {A B k:Nat}:dJ T [] [] 30 f118 (behind (aJ f118) [1,1,1,0,1]) ⟨aH [0,1,5,4] [.mag A,.mag B,.int .i64 ((k:Int)-1),.int .i64 0],[],0⟩=
  some (af.leaf au.ret [int .i64 (0:Int)]):=ah
theorem acp {n m:Nat} {z y:Nat->Nat} (hz:∀i,i<n->z i<2^32) (hy:∀i,i<m->y i<2^32) (hn:n<2^40) (hm':m<2^40) (K:Nat) (pre:aG):
  aY P 118 K [.az 1 n (aD z),.az 1 m (aD y)] pre (aT (.int .i64 (dG (val n z) (val m y))) []):=by
 refine lO hT ac8 rfl br rfl (fun _ c h0=>?_) K pre
 refine aA.hole [1,1,1,0,1] ah (aI.bM hT iY hm 30 [0,1,5,4] XC ah ?_)
 have hnl:nl (val n z)<=n:=eo.2 (ia hz)
 generalize hA:val n z=A at*
 generalize hB:val m y=B at*
 simp only[af.all,aF,bI,bO,Da,hA,hB,bne_iff_ne,ne_eq,Int.natCast_inj,bne_eq_false_iff_eq]
 refine⟨⟨iJ hz,aa,iJ hy,aa⟩,fun hb=>⟨fun hb2 s' hv=>?_,fun hb2 s' hv=>?_⟩,fun hb s' hv=>?_⟩
 ·have h1:A<B:=z8 aa
  exact iS (us:=[.int .i64 (-1)]) (.inr rfl) hv ah (cu (by simp[dG,h1]))
 ·have h1:B<A:=z8 aa
  exact iS (us:=[.int .i64 1]) (.inr rfl) hv ah (cu (by simp[dG,h1];omega))
 refine aA.jG (i:=0) (y:=part (aJ f118) [1,1,1,0,1,0,0]) ah
  (fun k:Nat=>⟨aH [0,1,5,4] [.mag A,.mag B,.int .i64 ((k:Int)-1),.int .i64 0],[],0⟩)
  (fun k=>k<=nl A/\∀j,k<=j->j<nl A->aE A j=aE B j) id (nl A)
  (eC [] hv h0 rfl ⟨aU,aU,⟨rfl,iI (wrap_i64 aa aa)⟩,aU,trivial⟩ trivial) ⟨by simp,fun j h1 h2=>aa⟩ ?_
 rintro k ⟨hk,hlim⟩
 refine aA.bM hT cK hm 30 [0,1,5,4] Xo ah ?_
 simp only[af.all,aF,bI,bO,bne_iff_ne,ne_eq,Int.natCast_inj,bne_eq_false_iff_eq]
 refine⟨fun hb2=>?_,fun hb2 s' hv=>?_⟩
 ·obtain⟨j,rfl⟩:∃j,k=j+1:=⟨k-1,aa⟩
  have e:(((j+1:Nat):Int)-1).toNat=j:=aa
  rw[e]
  refine⟨⟨aa,aa⟩,fun hne=>⟨⟨aa,aa⟩,fun hlt s' hv=>?_,fun hlt s' hv=>?_⟩,fun heq s' hv=>?_⟩
  ·have h1:A<B:=BZ hb (k:=j) aa (fun i h1 h2=>hlim i aa h2) aa
   exact iS (us:=[.int .i64 (-1)]) (.inr rfl) hv ah (cu (by simp[dG,h1]))
  ·have h1:B<A:=BZ hb.symm (k:=j) aa (fun i h1 h2=>(hlim i aa aa).symm) aa
   exact iS (us:=[.int .i64 1]) (.inr rfl) hv ah (cu (by simp[dG,h1];omega))
  ·refine⟨j,eC [] hv h0 rfl ⟨aU,aU,⟨rfl,iI (by rw[wrap_i64 aa aa];omega)⟩,aU,trivial⟩ trivial,⟨aa,fun i h1 h2=>?_⟩,by simp⟩
   by_cases hi:i=j
   ·subst hi;exact heq
   ·exact hlim i aa h2
 ·have hk0:k=0:=aa
  subst hk0
  have hAB:A=B:=D0 hb fun i hi=>hlim i aa hi
  exact aI.weak ah (eC (vs:=[.mag A,.mag B,.int .i64 (((0:Nat):Int)-1),.int .i64 0]) (ps:=[]) (nx:=0) [] hv h0 rfl ⟨aU,aU,aU,aU,trivial⟩ trivial)
   (aI.fin hT cK hm 30 adk ah (cu (by simp[dG,hAB])))
def Es:Spec:=cw fun l=>match l with
 |[.int .u64 x]=>some (aT (.mag x.toNat) [0<=x/\x<2^64])
 |_=>none
theorem Ll:bF P Es 170:=by
 refine cY fun K args r hk hs _=>?_
 split at hs
 ·rename_i x
  simp only[aB]at hs
  subst hs
  intro need
  obtain⟨h1,h2⟩:0<=x/\x<2^64:=need
  obtain⟨y,rfl⟩:=Int.eq_ofNat_of_zero_le h1
  exact aby (x:=y) aa K [] trivial
 ·simp at hs
def BX (N n:Nat):en:=aT (.int .u64 (N:Nat)) [n<=2]
theorem ad0:bF P (cw (mW BX)) 182:=
 cY (uE fun _ _ K hz need=>R5 hz need K [])
def AP (A n B m:Nat):en:=aT (.int .i64 (dG A B)) [n<2^40,m<2^40]
theorem DD:bF P (cw (jH AP)) 118:=
 cY (vj fun _ _ _ _ K hz hy need=>acp hz hy need.1 need.2 K [])
end Go.Am.B
