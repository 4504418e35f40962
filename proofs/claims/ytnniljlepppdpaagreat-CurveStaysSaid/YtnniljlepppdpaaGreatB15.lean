/- rational.word, divisor, limbs; bits.Add64. -/
import Derived.Test.YtnniljlepppdpaaGreatB14
import Derived.Laws.Externs
set_option linter.unusedVariables false
namespace Go.Am.B
open Go Go.Am.N AV
theorem Yx:aR P E9 sY (az sY):=aS Proofs.Tryz.func271 ag ag ag
theorem ajr {n:Nat} {z:Nat->Nat}:aI T [] [] 30 [0,3,4] (before (az sY) [1,1,0,1]) ⟨aP 0 [.ak 1 n (aB z)],[],0⟩=
  some (ah.leaf aq.normal ([ak 1 n fun a=>int IntKind.u32 (↑(z a):Int),int IntKind.u64 (0:Int),int IntKind.i64 (IntKind.i64.wrap ((↑n:Int)-(1:Int)))],[])):=ag
theorem afW {n k v:Nat} {z:Nat->Nat}:aI T [] [9] 30 [0,3,4] [part (az sY) [1,1,0,1,0,0]] ⟨aE [0,3,4] [.ak 1 n (aB z),.int .u64 v,.int .i64 ((k:Int)-1)],[],0⟩=
  let c2:AV:=ak 1 n fun a=>int IntKind.u32 (↑(z a):Int);let c1:Int:=(↑k:Int)-(1:Int);some (ah.fork (decide (c1>=(0:Int))) (ah.aj [(0:Int)<=(32:Int),(0:Int)<=c1/\c1.toNat<n] (ah.leaf aq.normal ([c2,int IntKind.u64 (IntKind.u64.wrap (↑(BitVec.ofInt IntKind.u64.bits (IntKind.u64.wrap ((↑v:Int)*(2:Int)^min (Int.toNat (32:Int)) IntKind.u64.bits))|||BitVec.ofInt IntKind.u64.bits (IntKind.u64.wrap (↑(z c1.toNat):Int))).toNat:Int)),int IntKind.i64 (IntKind.i64.wrap (c1-(1:Int)))],[]))) (ah.leaf (aq.exit 0) ([c2,int IntKind.u64 (↑v:Int),int IntKind.i64 c1],[]))):=ag
theorem aaZ {n k v:Nat} {z:Nat->Nat}:cJ T [] [] 30 sY (behind (az sY) [1,1,0,1]) ⟨aE [0,3,4] [.ak 1 n (aB z),.int .u64 v,.int .i64 ((k:Int)-1)],[],0⟩=
  some (ah.leaf aq.ret [int IntKind.u64 (↑v:Int)]):=ag
theorem T8 {n:Nat} {z:Nat->Nat} (hz:∀i,i<n->z i<2^32) (hn:n<=2) (K:Nat) (pre:aF):aD P E9 K [.ak 1 n (aB z)] pre (aK (.int .u64 (val n z:Nat)) []):=by
 refine kB hT Yx rfl aW rfl (fun _ c h0=>?_) K pre
 refine ay.hole [1,1,0,1] ag (aG.bB hT bC hm 30 [0,3,4] ajr ag ?_)
 intro s' hv
 have hv64:val n z<2^64:=by
  have h1:=gh hz
  have h2:2^(32*n)<=2^(32*2):=Nat.pow_le_pow_right aa aa
  omega
 refine ay.iS (i:=0) (y:=part (az sY) [1,1,0,1,0,0]) ag
  (fun p:Nat×Nat=>⟨aE [0,3,4] [.ak 1 n (aB z),.int .u64 (p.2:Nat),.int .i64 ((p.1:Nat)-1:Int)],[],0⟩)
  (fun p=>p.1<=n/\p.2*2^(32*p.1)+val p.1 z=val n z) (fun p=>p.1) (n,0)
  (dF [] hv h0 rfl ⟨⟨rfl,aL rfl⟩,⟨rfl,aL rfl⟩,⟨rfl,gB (wrap_i64 aa aa)⟩,trivial⟩ trivial) ⟨by simp,by simp⟩ ?_
 rintro⟨k,v⟩ ⟨hk,hval⟩
 simp only at hk hval
 refine ay.bB hT bC hm 30 [0,3,4] afW ag ?_
 simp only[ah.all,aA,bh,bz]
 refine⟨fun hb=>?_,fun hb s' hv=>?_⟩
 ·obtain⟨j,rfl⟩:∃j,k=j+1:=⟨k-1,aa⟩
  have e:(((j+1:Nat):Int)-1).toNat=j:=aa
  have hzj:=hz j aa
  have hv32:v<2^32:=by
   rcases Nat.lt_or_ge v (2^32)with h|h
   ·exact h
   ·have h1:2^32*2^(32*(j+1))<=v*2^(32*(j+1)):=Nat.mul_le_mul_right _ h
    have h2:2^32<=2^(32*(j+1)):=Nat.pow_le_pow_right aa aa
    have h3:2^32*2^32<=2^32*2^(32*(j+1)):=Nat.mul_le_mul_left _ h2
    omega
  rw[e]
  have hor:IntKind.u64.wrap ((BitVec.ofInt IntKind.u64.bits (IntKind.u64.wrap ((v:Int)*2^min (Int.toNat 32) IntKind.u64.bits))|||BitVec.ofInt IntKind.u64.bits (IntKind.u64.wrap (z j:Int))).toNat:Int)=
    ((v*4294967296+z j:Nat):Int):=by
   rw[xE,cr (x:=(z j:Int)) aa aa,cr (x:=(v:Int)*4294967296) aa aa]
   rw[show(v:Int)*4294967296=((v*2^32:Nat):Int) by omega,vG aa aa,tA hzj]
  refine⟨⟨aa,aa,aa⟩,fun s' hv=>⟨(j,v*4294967296+z j),dF [] hv h0 rfl ⟨⟨rfl,aL rfl⟩,⟨rfl,gB hor⟩,⟨rfl,gB (by rw[wrap_i64 aa aa];simp only;omega)⟩,trivial⟩ trivial,
   ⟨by simp only;omega,MR hval⟩,by simp⟩⟩
 ·have hk0:k=0:=aa
  subst hk0
  have hval:v=val n z:=by simpa [val]using hval
  subst hval
  exact aG.weak ag (dF (vs:=[.ak 1 n (aB z),.int .u64 (val n z:Nat),.int .i64 (((0:Nat):Int)-1)]) (ps:=[]) (nx:=0) [] hv h0 rfl ⟨⟨rfl,aL rfl⟩,⟨rfl,aL rfl⟩,⟨rfl,aL rfl⟩,trivial⟩ trivial)
   (aG.fin hT bC hm 30 aaZ ag (bF.refl _))
theorem als:∀K args pre r,bU (mm AR) K args pre=some r->aD P E9 K args pre r:=
 cB (vW fun _ _ K hz need=>T8 hz need K [])
theorem ace:aR P A3 rS (az rS):=aS Proofs.Tryz.func272 ag ag ag
theorem ad4:aR P E3 vi (az vi):=aS Proofs.Tryz.func273 ag ag ag
theorem aeI {x y:Nat}:aI T [] [] 60 [0,1] (before (az rS) [1,0]) ⟨aP 0 [.int .u64 x,.int .u64 y],[],0⟩=
  some (ah.leaf aq.normal ([int IntKind.u64 (↑x:Int),int IntKind.u64 (↑y:Int)],[])):=ag
theorem akn {x y:Nat}:aI T [] [6] 60 [0,1] [part (az rS) [1,0,0,0]] ⟨aE [0,1] [.int .u64 x,.int .u64 y],[],0⟩=
  let c1 : Int := (↑y : Int); some (ah.fork (c1 != (0 : Int)) (ah.aj [c1 ≠ (0 : Int)] (ah.leaf aq.normal ([int IntKind.u64 c1, int IntKind.u64 ((↑x : Int).tmod c1)], []))) (ah.leaf (aq.exit 0) ([int IntKind.u64 (↑x : Int), int IntKind.u64 c1], []))) := ag
theorem amu {x y:Nat}:cJ T [] [] 60 rS (behind (az rS) [1,0]) ⟨aE [0,1] [.int .u64 x,.int .u64 y],[],0⟩=
  some (ah.leaf aq.ret [int IntKind.u64 (↑x:Int)]):=ag
theorem Zf {s n l x:Nat} {z:Nat->Nat}:aI T [] [11] 60 [0,1,4] (before (az vi) [1,1,1]) ⟨aP 0 [.own 0 1 s n,.int .u64 x],[(0,⟨true,true,1,l,aB z⟩)],1⟩=
  let c4:AV:=int IntKind.u64 (↑x:Int);let c3:AV:=own 0 1 s n;let c2:Nat:=Int.toNat (0:Int);let c1:Nat×au:=(0,au.mk true true 1 l fun j=>if(j==c2+s)=true then int IntKind.u32 (IntKind.u32.wrap (↑x:Int))else aB z j);some (ah.aj [(0:Int)<=(0:Int)/\c2<n,c2+s<l] (ah.aj [(0:Int)<=(32:Int)] (ah.fork ((↑x:Int).fdiv ((2:Int)^min (Int.toNat (32:Int)) IntKind.u64.bits)==(0:Int)) (ah.leaf aq.ret ([c3,c4,int IntKind.i64 (1:Int)],[c1])) (ah.leaf aq.normal ([c3,c4,int IntKind.i64 (0:Int)],[c1]))))):=ag
theorem abi {s n l x:Nat} {z:Nat->Nat}:aI T [] [] 60 [0,1,4] [part (az vi) [1,1,1]] ⟨aE [0,1,4] [.own 0 1 s n,.int .u64 x,.int .i64 0],[(0,⟨true,true,1,l,aB z⟩)],1⟩=
  let c1:Nat:=Int.toNat (1:Int);some (ah.aj [(0:Int)<=(32:Int),(0:Int)<=(1:Int)/\c1<n,c1+s<l] (ah.leaf aq.ret ([own 0 1 s n,int IntKind.u64 (↑x:Int),int IntKind.i64 (2:Int)],[(0,au.mk true true 1 l fun j=>if(j==c1+s)=true then int IntKind.u32 (IntKind.u32.wrap ((↑x:Int).fdiv ((2:Int)^min (Int.toNat (32:Int)) IntKind.u64.bits)))else aB z j)]))):=ag
theorem ac8 {x y:Nat} (K:Nat) (pre:aF):aD P A3 K [.int .u64 x,.int .u64 y] pre (aK (.int .u64 (Nat.gcd x y:Nat)) []):=by
 refine kB hT ace rfl aW rfl (fun _ c h0=>?_) K pre
 have hk0:∀{nx:Nat} k x,c.k0 k=some x->k<nx:=kD h0
 refine ay.hole [1,0] ag (aG.bB hT bC hm 60 [0,1] aeI ag fun s' hv=>cF ?_)
 refine ay.iC (i:=0) (y:=part (az rS) [1,0,0,0]) ag [0,1] 0 hk0 (fun p:Nat×Nat=>[.int .u64 (p.1:Nat),.int .u64 (p.2:Nat)]) (fun _=>[]) (fun _=>rfl) (fun _=>trivial)
  (fun p=>Nat.gcd p.1 p.2=Nat.gcd x y) (fun p=>p.2) (x,y) hv rfl ?_
 rintro⟨m,n⟩ hg
 simp only at hg
 refine ay.bB hT bC hm 60 [0,1] akn ag ?_
 simp only[ah.all,aA,bne_iff_ne,ne_eq,bne_eq_false_iff_eq]
 refine⟨fun hb=>⟨hb,fun s' hv=>?_⟩,fun hb s' hv=>fN (cF ?_)⟩
 ·have hlt:=Nat.mod_lt m (show 0<n by omega)
  refine⟨(n,m%n),dP hv (by rw[<-Int.ofNat_tmod]) rfl,?_,hlt⟩
  rw[<-hg,Nat.gcd_comm m n,Nat.gcd_rec n m,Nat.gcd_comm]
 ·refine aG.DF hT bC hm 60 (nx:=0) hv hk0 rfl trivial amu ag ag (bN ?_)
  have:n=0:=aa
  rw[<-hg,this,Nat.gcd_zero_right]
def MT:Spec:=bU fun l=>match l with
 |[.int .u64 x,.int .u64 y]=>some (aK (.int .u64 (Nat.gcd x.toNat y.toNat:Nat)) [0<=x,0<=y])
 |_=>none
theorem aeP:∀K args pre r,MT K args pre=some r->aD P A3 K args pre r:=by
 refine cB fun K args r hk hs _=>?_
 split at hs
 ·rename_i x y
  simp only[ax]at hs
  subst hs
  intro need
  obtain⟨h1,h2⟩:0<=x/\0<=y:=need
  obtain⟨a,rfl⟩:=Int.eq_ofNat_of_zero_le h1
  obtain⟨b,rfl⟩:=Int.eq_ofNat_of_zero_le h2
  exact ac8 K [] trivial
 ·simp at hs
def iI (z:Nat->Nat) (s x:Nat):Nat->Nat:=fun i=>if i=s then x%4294967296 else if i=s+1/\4294967296<=x then x/4294967296 else z i
def fI (x:Nat):Nat:=if x<4294967296 then 1 else 2
theorem Zu {k s n l x:Nat} {z:Nat->Nat} {f:Nat->AV} (hx:x<2^64) (h1:fI x<=n) (hs:s+n<=l) (hf:∀i,i<l->f i=aB z i) (K:Nat):
  aD P E3 K [.own k 1 s n,.int .u64 x] [(k,⟨true,true,1,l,f⟩)] ⟨.int .i64 (fI x:Nat),[(k,⟨true,true,1,l,aB (iI z s x)⟩)],[]⟩:=by
 refine oJ hT ad4 (args0:=[.own 0 1 s n,.int .u64 x]) (pre0:=[(0,⟨true,true,1,l,aB z⟩)]) (nx:=1) [(0,k)] aW (by simp[iE]) ⟨⟨rfl,cT rfl rfl rfl⟩,⟨rfl,aL rfl⟩,trivial⟩ ⟨⟨k,_,rfl,by simp[look],fU rfl hf⟩,trivial⟩
  (fun a x h=>?_) (fun x o h=>?_) (fun _ c h0=>?_)
 ·simp only[bf,look]at h
  split at h
  ·simp only[ax]at h;subst h;exact⟨_,by simp[look];rfl⟩
  ·simp at h
 ·simp only[look]at h
  split at h
  ·rename_i he
   have:k=x:=by simpa using he
   subst this
   exact .inl ⟨_,by simp[look];rfl⟩
  ·simp at h
 have hk0:∀k x,c.k0 k=some x->k<1:=fun k x hk=>by
  have:=h0 k x hk
  simp only[bf,look]at this
  split at this
  ·rename_i h;simp at h;omega
  ·simp at this
 have key:∀{s':aJ} {v:Int} {w:Nat->Nat},bw [0,1,4] s'=some ([.own 0 1 s n,.int .u64 x,.int .i64 v],[(0,⟨true,true,1,l,aB w⟩)])->v=(fI x:Nat)->w=iI z s x->
   ∃τ,uX [(0,k)] K [(k,⟨true,true,1,l,f⟩)] τ/\(Cq T vi τ [(k,⟨true,true,1,l,f⟩)] ⟨.int .i64 (fI x:Nat),[(k,⟨true,true,1,l,aB (iI z s x)⟩)],[]⟩ s'\/vX T vi τ [(k,⟨true,true,1,l,f⟩)] ⟨.int .i64 (fI x:Nat),[(k,⟨true,true,1,l,aB (iI z s x)⟩)],[]⟩ s'):=by
  intro s' v w hv hv1 hw
  refine⟨bf [(k,0)],rT,.inr (uL (vs:=[.own 0 1 s n,.int .u64 x,.int .i64 v]) (us:=[.int .i64 v]) (ws:=[.int .i64 (fI x:Nat)]) (os:=[(0,⟨true,true,1,l,aB w⟩)]) (ps:=[(k,⟨true,true,1,l,aB (iI z s x)⟩)]) hv ag ⟨⟨rfl,gB hv1⟩,trivial⟩ rfl (by simp[cK,fk,put]) ⟨⟨0,_,by simp[bf,look],rfl,fU rfl fun i hi=>by rw[hw]⟩,trivial⟩)⟩
 have h12:fI x=1\/fI x=2:=by unfold fI;split<;>simp
 have hset1:(fun j=>if j=s then AV.int .u32 (IntKind.u32.wrap (x:Int))else aB z j)=aB (cA z s (x%4294967296)):=by
  funext j;exact g9 (by rw[j8]) j
 refine ay.hole [1,1,1] ag (aG.bB hT bC hm 60 [0,1,4] Zf ag ?_)
 simp only[ah.all,aA,beq_iff_eq,beq_eq_false_iff_ne,ne_eq,mE,Int.toNat_zero,Nat.zero_add,hset1]
 refine⟨⟨aa,aa⟩,aa,fun hb s' hv=>?_,fun hb s' hv=>cF ?_⟩
 ·have hlt:x<4294967296:=aa
  refine fO ⟨.inr rfl,key hv (by unfold fI;rw[if_pos hlt];rfl) ?_⟩
  funext i
  unfold cA iI
  by_cases h:i=s
  ·simp[h]
  ·simp[h];omega
 ·have hge:4294967296<=x:=aa
  have h2:fI x=2:=by unfold fI;rw[if_neg aa]
  refine ay.fE hT bC hm 60 (nx:=1) hv hk0 rfl ⟨⟨aa,fun _ _=>rfl⟩,trivial⟩ [0,1,4] abi ag ?_
  simp only[ah.all,aA,beq_iff_eq,beq_eq_false_iff_ne,ne_eq,mE,show Int.toNat 1=1 from rfl]
  refine⟨⟨aa,aa,aa⟩,fun s' hv=>?_⟩
  have hset2:(fun j=>if j=1+s then AV.int .u32 (IntKind.u32.wrap ((x:Int)/4294967296))else aB (cA z s (x%4294967296)) j)=aB (cA (cA z s (x%4294967296)) (1+s) (x/4294967296)):=by
   funext j;exact g9 (by rw[wrap_u32 aa aa];omega) j
  rw[hset2]at hv
  refine fO ⟨.inr rfl,key hv (by rw[h2];rfl) ?_⟩
  funext i
  unfold cA iI
  by_cases h:i=s
  ·simp[h]
  ·by_cases h':i=1+s
   ·simp[h',hge,Nat.add_comm]
   ·simp[h,h'];omega
def JQ:Spec:=fun _ args pre=>match args,pre with
 |[.own k es s n,.int .u64 x],[(k',o)]=>if k==k'&&es==1&&o.row&&o.wr&&o.es==1 then some ⟨.int .i64 (fI x.toNat:Nat),[(k,⟨true,true,1,o.len,aB (iI (fun i=>numOf (o.f i)) s x.toNat)⟩)],[dZ o.len o.f,0<=x/\x<2^64,fI x.toNat<=n,s+n<=o.len]⟩else none
 |_,_=>none
theorem ahE:∀K args pre r,JQ K args pre=some r->aD P E3 K args pre r:=by
 intro K args pre r hs
 unfold JQ at hs
 split at hs
 ·rename_i k es s n x k' o
  split at hs
  ·rename_i hc
   simp only[Bool.and_eq_true,beq_iff_eq]at hc
   obtain⟨⟨⟨⟨rfl,rfl⟩,h4⟩,h5⟩,h6⟩:=hc
   simp only[ax]at hs
   subst hs
   intro need
   obtain⟨h1,⟨h2,h2'⟩,h3,h7⟩:dZ o.len o.f/\(0<=x/\x<2^64)/\fI x.toNat<=n/\s+n<=o.len:=need
   obtain⟨row,wr,es,len,f⟩:=o
   simp only at h1 h4 h5 h6 h7
   subst h4 h5 h6
   obtain⟨x,rfl⟩:=Int.eq_ofNat_of_zero_le h2
   refine Zu (z:=fun i=>numOf (f i)) aa h3 h7 (fun i hi=>?_) K trivial
   obtain⟨z,g1,g2⟩:=h1 i hi
   simp[g2,numOf,aB]
  ·simp at hs
 ·simp at hs
def RQ:Spec:=bU fun l=>match l with
 |[.int .u64 x,.int .u64 y,.int .u64 z]=>some (aK (.tuple [.int .u64 ((x+y+z)%18446744073709551616),.int .u64 ((x+y+z)/18446744073709551616)]) [0<=x,0<=y,0<=z/\z<=1])
 |_=>none
theorem am8:∀K args pre r,RQ K args pre=some r->aD P Ls K args pre r:=by
 refine cB fun K args r hk hs _=>?_
 split at hs
 ·rename_i x y z
  simp only[ax]at hs
  subst hs
  intro need
  obtain⟨h1,h2,h3,h4⟩:0<=x/\0<=y/\0<=z/\z<=1:=need
  refine⟨fun k o h=>by simp[look]at h,fun c D D' β w vs hw0 hMw hrel hD hK hv=>.inr ?_⟩
  match vs,hv with
  |[a,b,d],hv=>
   obtain⟨ha,hb,hd,_⟩:=hv
   have ha:=(ha.bL).int
   have hb:=(hb.bL).int
   have hd:=(hd.bL).int
   subst ha hb hd
   refine⟨.tuple #[.int .u64 ((x+y+z)%18446744073709551616),.int .u64 ((x+y+z)/18446744073709551616)],?_,β,?_,cV.refl _ _ _,[_,_],rfl,.ck (.int .nil) rfl,.ck (.int .nil) rfl,trivial⟩
   ·rw[run_callFunc_extern (e:=add64Entry) Proofs.Tryz.func268 ag ag ag (by rfl)]
    rw[run_add64 x y z h1 h2 h3 h4]
    rfl
   ·exact hrel.me hD
 ·simp at hs
end Go.Am.B
