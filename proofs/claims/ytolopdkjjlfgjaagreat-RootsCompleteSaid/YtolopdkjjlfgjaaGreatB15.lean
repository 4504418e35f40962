/- rational.word, divisor, limbs; bits.Add64. -/
import Derived.Test.YtolopdkjjlfgjaaGreatB14
import Derived.Laws.Externs
set_option linter.unusedVariables false
namespace Go.Am.B
open Go Go.Am.N AV Proofs.Tryz IntKind
theorem abu:bu 159 f159:=bz func159
theorem VI {n:Nat} {z:Nat->Nat}:aH T [] [] 30 [0,3,4] (before (aG f159) [1,1,0,1]) ⟨aV 0 [.aq 1 n (az z)],[],0⟩=
  some (af.leaf ak.normal ([aq 1 n fun a=>int .u32 (↑(z a):Int),int .u64 (0:Int),int .i64 (i64.wrap ((↑n:Int)-1))],[])):=ag
theorem Zv {n k v:Nat} {z:Nat->Nat}:aH T [] [9] 30 [0,3,4] [part (aG f159) [1,1,0,1,0,0]] ⟨aE [0,3,4] [.aq 1 n (az z),.int .u64 v,.int .i64 ((k:Int)-1)],[],0⟩=
  let c2:AV:=aq 1 n fun a=>int .u32 (↑(z a):Int);let c1:Int:=(↑k:Int)-1;some (af.fork (decide (c1>=0)) (af.aj [(0:Int)<=32,(0:Int)<=c1/\c1.toNat<n] (af.leaf ak.normal ([c2,int .u64 (u64.wrap (↑(BitVec.ofInt u64.bits (u64.wrap ((↑v:Int)*2^min (Int.toNat (32:Int)) u64.bits))|||BitVec.ofInt u64.bits (u64.wrap (↑(z c1.toNat):Int))).toNat:Int)),int .i64 (i64.wrap (c1-1))],[]))) (af.leaf (ak.exit 0) ([c2,int .u64 (↑v:Int),int .i64 c1],[]))):=ag
theorem aaF {n k v:Nat} {z:Nat->Nat}:dA T [] [] 30 f159 (behind (aG f159) [1,1,0,1]) ⟨aE [0,3,4] [.aq 1 n (az z),.int .u64 v,.int .i64 ((k:Int)-1)],[],0⟩=
  some (af.leaf ak.ret [int .u64 (↑v:Int)]):=ag
theorem RA {n:Nat} {z:Nat->Nat} (hz:∀i,i<n->z i<2^32) (hn:n<=2) (K:Nat) (pre:aD):aQ P 159 K [.aq 1 n (az z)] pre (aM (.int .u64 (val n z:Nat)) []):=by
 refine kr hT abu rfl bp rfl (fun _ c h0=>?_) K pre
 refine au.hole [1,1,0,1] ag (aF.bJ hT ct hm 30 [0,3,4] VI ag ?_)
 intro s' hv
 have hv64:val n z<2^64:=by
  have h1:=gH hz
  have h2:2^(32*n)<=2^(32*2):=Nat.pow_le_pow_right aa aa
  omega
 refine au.jh (i:=0) (y:=part (aG f159) [1,1,0,1,0,0]) ag
  (fun p:Nat×Nat=>⟨aE [0,3,4] [.aq 1 n (az z),.int .u64 (p.2:Nat),.int .i64 ((p.1:Nat)-1:Int)],[],0⟩)
  (fun p=>p.1<=n/\p.2*2^(32*p.1)+val p.1 z=val n z) (fun p=>p.1) (n,0)
  (dZ [] hv h0 rfl ⟨aO,aO,⟨rfl,gW (wrap_i64 aa aa)⟩,trivial⟩ trivial) ⟨by simp,by simp⟩ ?_
 rintro⟨k,v⟩ ⟨hk,hval⟩
 simp only at hk hval
 refine au.bJ hT ct hm 30 [0,3,4] Zv ag ?_
 simp only[af.all,aA,bK,bO]
 refine⟨fun hb=>?_,fun hb s' hv=>?_⟩
 ·obtain⟨j,rfl⟩:∃j,k=j+1:=⟨k-1,aa⟩
  have e:(((j+1:Nat):Int)-1).toNat=j:=aa
  have hzj:=hz j aa
  have hv32:v<2^32:=by
   rcases Nat.lt_or_ge v (2^32)with h|h
   ·exact h
   ·have h1:2^32*2^(32*(j+1))<=v*2^(32*(j+1)):=Nat.mul_le_mul_right _ h
    have h2:2^32<=2^(32*(j+1)):=Nat.pow_le_pow_right aa aa
    have h3:2^32*2^32<=2^32*2^(32*(j+1)):=Nat.mul_le_mul_left _ h2
    omega
  rw[e]
  have fC:u64.wrap ((BitVec.ofInt u64.bits (u64.wrap ((v:Int)*2^min (Int.toNat 32) u64.bits))|||BitVec.ofInt u64.bits (u64.wrap (z j:Int))).toNat:Int)=
    ((v*4294967296+z j:Nat):Int):=by
   rw[wQ,cy (x:=(z j:Int)) aa aa,cy (x:=(v:Int)*4294967296) aa aa]
   rw[show(v:Int)*4294967296=((v*2^32:Nat):Int) by omega,vc aa aa,sP hzj]
  refine⟨⟨aa,aa,aa⟩,fun s' hv=>⟨(j,v*4294967296+z j),dZ [] hv h0 rfl ⟨aO,⟨rfl,gW fC⟩,⟨rfl,gW (by rw[wrap_i64 aa aa];simp only;omega)⟩,trivial⟩ trivial,
   ⟨by simp only;omega,HT hval⟩,by simp⟩⟩
 ·have hk0:k=0:=aa
  subst hk0
  have hval:v=val n z:=by simpa [val]using hval
  subst hval
  exact aF.weak ag (dZ (vs:=[.aq 1 n (az z),.int .u64 (val n z:Nat),.int .i64 (((0:Nat):Int)-1)]) (ps:=[]) (nx:=0) [] hv h0 rfl ⟨aO,aO,aO,trivial⟩ trivial)
   (aF.fin hT ct hm 30 aaF ag (bG.refl _))
theorem O4:bA P (b7 (mT Bg)) 159:=
 cP (tf fun _ _ K hz need=>RA hz need K [])
theorem X9:bu 179 f179:=bz func179
theorem Ur:bu 180 f180:=bz func180
theorem abU {x y:Nat}:aH T [] [] 60 [0,1] (before (aG f179) [1,0]) ⟨aV 0 [.int .u64 x,.int .u64 y],[],0⟩=
  some (af.leaf ak.normal ([int .u64 (↑x:Int),int .u64 (↑y:Int)],[])):=ag
theorem Xg {x y:Nat}:aH T [] [6] 60 [0,1] [part (aG f179) [1,0,0,0]] ⟨aE [0,1] [.int .u64 x,.int .u64 y],[],0⟩=
  let c1:Int:=(↑y:Int);some (af.fork (c1 !=(0:Int)) (af.aj [c1≠(0:Int)] (af.leaf ak.normal ([int .u64 c1,int .u64 ((↑x:Int).tmod c1)],[]))) (af.leaf (ak.exit 0) ([int .u64 (↑x:Int),int .u64 c1],[]))):=ag
theorem abI {x y:Nat}:dA T [] [] 60 f179 (behind (aG f179) [1,0]) ⟨aE [0,1] [.int .u64 x,.int .u64 y],[],0⟩=
  some (af.leaf ak.ret [int .u64 (↑x:Int)]):=ag
theorem Rw {s n l x:Nat} {z:Nat->Nat}:aH T [] [11] 60 [0,1,4] (before (aG f180) [1,1,1]) ⟨aV 0 [.own 0 1 s n,.int .u64 x],[(0,⟨true,true,1,l,az z⟩)],1⟩=
  let c4:AV:=int .u64 (↑x:Int);let c3:AV:=own 0 1 s n;let c2:Nat:=Int.toNat (0:Int);let c1:Nat×ay:=(0,ay.mk true true 1 l fun j=>if(j==c2+s)=true then int .u32 (u32.wrap (↑x:Int))else az z j);some (af.aj [(0:Int)<=0/\c2<n,c2+s<l] (af.aj [(0:Int)<=32] (af.fork ((↑x:Int).fdiv ((2:Int)^min (Int.toNat (32:Int)) u64.bits)==0) (af.leaf ak.ret ([c3,c4,int .i64 (1:Int)],[c1])) (af.leaf ak.normal ([c3,c4,int .i64 (0:Int)],[c1]))))):=ag
theorem VZ {s n l x:Nat} {z:Nat->Nat}:aH T [] [] 60 [0,1,4] [part (aG f180) [1,1,1]] ⟨aE [0,1,4] [.own 0 1 s n,.int .u64 x,.int .i64 0],[(0,⟨true,true,1,l,az z⟩)],1⟩=
  let c1:Nat:=Int.toNat (1:Int);some (af.aj [(0:Int)<=32,(0:Int)<=1/\c1<n,c1+s<l] (af.leaf ak.ret ([own 0 1 s n,int .u64 (↑x:Int),int .i64 (2:Int)],[(0,ay.mk true true 1 l fun j=>if(j==c1+s)=true then int .u32 (u32.wrap ((↑x:Int).fdiv ((2:Int)^min (Int.toNat (32:Int)) u64.bits)))else az z j)]))):=ag
theorem Pu {x y:Nat} (K:Nat) (pre:aD):aQ P 179 K [.int .u64 x,.int .u64 y] pre (aM (.int .u64 (Nat.gcd x y:Nat)) []):=by
 refine kr hT X9 rfl bp rfl (fun _ c h0=>?_) K pre
 have hk0:∀{nx:Nat} k x,c.k0 k=some x->k<nx:=kg h0
 refine au.hole [1,0] ag (aF.bJ hT ct hm 60 [0,1] abU ag fun s' hv=>cM ?_)
 refine au.iR (i:=0) (y:=part (aG f179) [1,0,0,0]) ag [0,1] 0 hk0 (fun p:Nat×Nat=>[.int .u64 (p.1:Nat),.int .u64 (p.2:Nat)]) (fun _=>[]) (fun _=>rfl) (fun _=>trivial)
  (fun p=>Nat.gcd p.1 p.2=Nat.gcd x y) (fun p=>p.2) (x,y) hv rfl ?_
 rintro⟨m,n⟩ hg
 simp only at hg
 refine au.bJ hT ct hm 60 [0,1] Xg ag ?_
 simp only[af.all,aA,bne_iff_ne,ne_eq,bne_eq_false_iff_eq]
 refine⟨fun hb=>⟨hb,fun s' hv=>?_⟩,fun hb s' hv=>fW (cM ?_)⟩
 ·have hlt:=Nat.mod_lt m (show 0<n by omega)
  refine⟨(n,m%n),eH hv (by rw[<-Int.ofNat_tmod]) rfl,?_,hlt⟩
  rw[<-hg,Nat.gcd_comm m n,Nat.gcd_rec n m,Nat.gcd_comm]
 ·refine aF.yN hT ct hm 60 (nx:=0) hv hk0 rfl trivial abI ag ag (bV ?_)
  have:n=0:=aa
  rw[<-hg,this,Nat.gcd_zero_right]
def Gf:Spec:=b7 fun l=>match l with
 |[.int .u64 x,.int .u64 y]=>some (aM (.int .u64 (Nat.gcd x.toNat y.toNat:Nat)) [0<=x,0<=y])
 |_=>none
theorem XA:bA P Gf 179:=by
 refine cP fun K args r hk hs _=>?_
 split at hs
 ·rename_i x y
  simp only[ax]at hs
  subst hs
  intro need
  obtain⟨h1,h2⟩:0<=x/\0<=y:=need
  obtain⟨a,rfl⟩:=Int.eq_ofNat_of_zero_le h1
  obtain⟨b,rfl⟩:=Int.eq_ofNat_of_zero_le h2
  exact Pu K [] trivial
 ·simp at hs
def iY (z:Nat->Nat) (s x:Nat):Nat->Nat:=fun i=>if i=s then x%4294967296 else if i=s+1/\4294967296<=x then x/4294967296 else z i
def fX (x:Nat):Nat:=if x<4294967296 then 1 else 2
theorem W9 {k s n l x:Nat} {z:Nat->Nat} {f:Nat->AV} (hx:x<2^64) (h1:fX x<=n) (hs:s+n<=l) (hf:∀i,i<l->f i=az z i) (K:Nat):
  aQ P 180 K [.own k 1 s n,.int .u64 x] [(k,⟨true,true,1,l,f⟩)] ⟨.int .i64 (fX x:Nat),[(k,⟨true,true,1,l,az (iY z s x)⟩)],[]⟩:=by
 refine oC hT Ur (args0:=[.own 0 1 s n,.int .u64 x]) (pre0:=[(0,⟨true,true,1,l,az z⟩)]) (nx:=1) [(0,k)] bp (by simp[iQ]) ⟨⟨rfl,en rfl rfl rfl⟩,aO,trivial⟩ ⟨⟨k,_,rfl,by simp[look],gq rfl hf⟩,trivial⟩
  (fun a x h=>?_) (fun x o h=>?_) (fun _ c h0=>?_)
 ·simp only[aY,look]at h
  split at h
  ·simp only[ax]at h;subst h;exact⟨_,by simp[look];rfl⟩
  ·simp at h
 ·simp only[look]at h
  split at h
  ·rename_i he
   have:k=x:=by simpa using he
   subst this
   exact .inl ⟨_,by simp[look];rfl⟩
  ·simp at h
 have hk0:∀k x,c.k0 k=some x->k<1:=fun k x hk=>by
  have:=h0 k x hk
  simp only[aY,look]at this
  split at this
  ·rename_i h;simp at h;omega
  ·simp at this
 have key:∀{s':aI} {v:Int} {w:Nat->Nat},bh [0,1,4] s'=some ([.own 0 1 s n,.int .u64 x,.int .i64 v],[(0,⟨true,true,1,l,az w⟩)])->v=(fX x:Nat)->w=iY z s x->
   ∃τ,uZ [(0,k)] K [(k,⟨true,true,1,l,f⟩)] τ/\(Ae T f180 τ [(k,⟨true,true,1,l,f⟩)] ⟨.int .i64 (fX x:Nat),[(k,⟨true,true,1,l,az (iY z s x)⟩)],[]⟩ s'\/xh T f180 τ [(k,⟨true,true,1,l,f⟩)] ⟨.int .i64 (fX x:Nat),[(k,⟨true,true,1,l,az (iY z s x)⟩)],[]⟩ s'):=by
  intro s' v w hv hv1 hw
  refine⟨aY [(k,0)],xI,.inr (uo (vs:=[.own 0 1 s n,.int .u64 x,.int .i64 v]) (us:=[.int .i64 v]) (ws:=[.int .i64 (fX x:Nat)]) (os:=[(0,⟨true,true,1,l,az w⟩)]) (ps:=[(k,⟨true,true,1,l,az (iY z s x)⟩)]) hv ag ⟨⟨rfl,gW hv1⟩,trivial⟩ rfl (by simp[cQ,jC,put]) ⟨⟨0,_,by simp[aY,look],rfl,gq rfl fun i hi=>by rw[hw]⟩,trivial⟩)⟩
 have h12:fX x=1\/fX x=2:=by unfold fX;split<;>simp
 have hset1:(fun j=>if j=s then AV.int .u32 (u32.wrap (x:Int))else az z j)=az (cH z s (x%4294967296)):=by
  funext j;exact iL (by rw[ki]) j
 refine au.hole [1,1,1] ag (aF.bJ hT ct hm 60 [0,1,4] Rw ag ?_)
 simp only[af.all,aA,beq_iff_eq,beq_eq_false_iff_ne,ne_eq,me,Int.toNat_zero,Nat.zero_add,hset1]
 refine⟨⟨aa,aa⟩,aa,fun hb s' hv=>?_,fun hb s' hv=>cM ?_⟩
 ·have hlt:x<4294967296:=aa
  refine fZ ⟨.inr rfl,key hv (by unfold fX;rw[if_pos hlt];rfl) ?_⟩
  funext i
  unfold cH iY
  by_cases h:i=s
  ·simp[h]
  ·simp[h];omega
 ·have hge:4294967296<=x:=aa
  have h2:fX x=2:=by unfold fX;rw[if_neg aa]
  refine au.fT hT ct hm 60 (nx:=1) hv hk0 rfl ⟨⟨aa,fun _ _=>rfl⟩,trivial⟩ [0,1,4] VZ ag ?_
  simp only[af.all,aA,beq_iff_eq,beq_eq_false_iff_ne,ne_eq,me,show Int.toNat 1=1 from rfl]
  refine⟨⟨aa,aa,aa⟩,fun s' hv=>?_⟩
  have hset2:(fun j=>if j=1+s then AV.int .u32 (u32.wrap ((x:Int)/4294967296))else az (cH z s (x%4294967296)) j)=az (cH (cH z s (x%4294967296)) (1+s) (x/4294967296)):=by
   funext j;exact iL (by rw[wrap_u32 aa aa];omega) j
  rw[hset2]at hv
  refine fZ ⟨.inr rfl,key hv (by rw[h2];rfl) ?_⟩
  funext i
  unfold cH iY
  by_cases h:i=s
  ·simp[h]
  ·by_cases h':i=1+s
   ·simp[h',hge,Nat.add_comm]
   ·simp[h,h'];omega
def EF:Spec:=fun _ args pre=>match args,pre with
 |[.own k es s n,.int .u64 x],[(k',o)]=>if k==k'&&es==1&&o.row&&o.wr&&o.es==1 then some ⟨.int .i64 (fX x.toNat:Nat),[(k,⟨true,true,1,o.len,az (iY (fun i=>numOf (o.f i)) s x.toNat)⟩)],[eP o.len o.f,0<=x/\x<2^64,fX x.toNat<=n,s+n<=o.len]⟩else none
 |_,_=>none
theorem ZV:bA P EF 180:=by
 intro K args pre r hs
 unfold EF at hs
 split at hs
 ·rename_i k es s n x k' o
  split at hs
  ·rename_i hc
   simp only[Bool.and_eq_true,beq_iff_eq]at hc
   obtain⟨⟨⟨⟨rfl,rfl⟩,h4⟩,h5⟩,h6⟩:=hc
   simp only[ax]at hs
   subst hs
   intro need
   obtain⟨h1,⟨h2,h2'⟩,h3,h7⟩:eP o.len o.f/\(0<=x/\x<2^64)/\fX x.toNat<=n/\s+n<=o.len:=need
   obtain⟨row,wr,es,len,f⟩:=o
   simp only at h1 h4 h5 h6 h7
   subst h4 h5 h6
   obtain⟨x,rfl⟩:=Int.eq_ofNat_of_zero_le h2
   refine W9 (z:=fun i=>numOf (f i)) aa h3 h7 (fun i hi=>?_) K trivial
   obtain⟨z,g1,g2⟩:=h1 i hi
   simp[g2,numOf,az]
  ·simp at hs
 ·simp at hs
def Mk:Spec:=b7 fun l=>match l with
 |[.int .u64 x,.int .u64 y,.int .u64 z]=>some (aM (.tuple [.int .u64 ((x+y+z)%18446744073709551616),.int .u64 ((x+y+z)/18446744073709551616)]) [0<=x,0<=y,0<=z/\z<=1])
 |_=>none
theorem Wn:bA P Mk 177:=by
 refine cP fun K args r hk hs _=>?_
 split at hs
 ·rename_i x y z
  simp only[ax]at hs
  subst hs
  intro need
  obtain⟨h1,h2,h3,h4⟩:0<=x/\0<=y/\0<=z/\z<=1:=need
  refine⟨fun k o h=>by simp[look]at h,fun c D D' β w vs hw0 hMw hrel hD hK hv=>.inr ?_⟩
  match vs,hv with
  |[a,b,d],hv=>
   obtain⟨ha,hb,hd,_⟩:=hv
   have ha:=(ha.bQ).int
   have hb:=(hb.bQ).int
   have hd:=(hd.bQ).int
   subst ha hb hd
   refine⟨.tuple #[.int .u64 ((x+y+z)%18446744073709551616),.int .u64 ((x+y+z)/18446744073709551616)],?_,β,?_,dc.refl _ _ _,[_,_],rfl,.cz (.int .nil) rfl,.cz (.int .nil) rfl,trivial⟩
   ·rw[run_callFunc_extern (e:=add64Entry) func177 ag ag ag (by rfl)]
    rw[run_add64 x y z h1 h2 h3 h4]
    rfl
   ·exact hrel.lX hD
 ·simp at hs
end Go.Am.B
