/- rational. -/
import Derived.Test.YtppeigelbecpbaaGreatB14
import Derived.Laws.Externs
set_option linter.unusedVariables false
namespace Go.Am.B
open Go Go.Am.N AV
theorem ac1:aT P Fb sC (aA sC):=aY Proofs.Tryz.func229 ag ag ag
theorem ad0 {n:Nat} {z:Nat->Nat}:aH T [] [] 30 [0,3,4] (before (aA sC) [1,1,0,1]) ⟨aQ 0 [.aq 1 n (aD z)],[],0⟩=
  some (ah.leaf au.normal ([aq 1 n fun a=>int IntKind.u32 (↑(z a):Int),int IntKind.u64 (0:Int),int IntKind.i64 (IntKind.i64.wrap ((↑n:Int)-(1:Int)))],[])):=ag
theorem VQ {n k v:Nat} {z:Nat->Nat}:aH T [] [9] 30 [0,3,4] [part (aA sC) [1,1,0,1,0,0]] ⟨aC [0,3,4] [.aq 1 n (aD z),.int .u64 v,.int .i64 ((k:Int)-1)],[],0⟩=
  let c2:AV:=aq 1 n fun a=>int IntKind.u32 (↑(z a):Int);let c1:Int:=(↑k:Int)-(1:Int);some (ah.fork (decide (c1>=(0:Int))) (ah.aj [(0:Int)<=(32:Int),(0:Int)<=c1/\c1.toNat<n] (ah.leaf au.normal ([c2,int IntKind.u64 (IntKind.u64.wrap (↑(BitVec.ofInt IntKind.u64.bits (IntKind.u64.wrap ((↑v:Int)*(2:Int)^min (Int.toNat (32:Int)) IntKind.u64.bits))|||BitVec.ofInt IntKind.u64.bits (IntKind.u64.wrap (↑(z c1.toNat):Int))).toNat:Int)),int IntKind.i64 (IntKind.i64.wrap (c1-(1:Int)))],[]))) (ah.leaf (au.exit 0) ([c2,int IntKind.u64 (↑v:Int),int IntKind.i64 c1],[]))):=ag
theorem ahp {n k v:Nat} {z:Nat->Nat}:cw T [] [] 30 sC (behind (aA sC) [1,1,0,1]) ⟨aC [0,3,4] [.aq 1 n (aD z),.int .u64 v,.int .i64 ((k:Int)-1)],[],0⟩=
  some (ah.leaf au.ret [int IntKind.u64 (↑v:Int)]):=ag
theorem alD {n:Nat} {z:Nat->Nat} (hz:∀i,i<n->z i<2^32) (hn:n<=2) (K:Nat) (pre:aF):aE P Fb K [.aq 1 n (aD z)] pre (aK (.int .u64 (val n z:Nat)) []):=by
 refine jM hT ac1 rfl aX rfl (fun _ c h0=>?_) K pre
 refine ax.hole [1,1,0,1] ag (aI.bA hT bO hm 30 [0,3,4] ad0 ag ?_)
 intro s' hv
 have hv64:val n z<2^64:=by
  have h1:=fO hz
  have h2:2^(32*n)<=2^(32*2):=Nat.pow_le_pow_right aa aa
  omega
 refine ax.iw (i:=0) (y:=part (aA sC) [1,1,0,1,0,0]) ag
  (fun p:Nat×Nat=>⟨aC [0,3,4] [.aq 1 n (aD z),.int .u64 (p.2:Nat),.int .i64 ((p.1:Nat)-1:Int)],[],0⟩)
  (fun p=>p.1<=n/\p.2*2^(32*p.1)+val p.1 z=val n z) (fun p=>p.1) (n,0)
  (dB [] hv h0 rfl ⟨⟨rfl,aN rfl⟩,⟨rfl,aN rfl⟩,⟨rfl,gh (wrap_i64 aa aa)⟩,trivial⟩ trivial) ⟨by simp,by simp⟩ ?_
 rintro⟨k,v⟩ ⟨hk,hval⟩
 simp only at hk hval
 refine ax.bA hT bO hm 30 [0,3,4] VQ ag ?_
 simp only[ah.all,az,aZ,bk]
 refine⟨fun hb=>?_,fun hb s' hv=>?_⟩
 ·obtain⟨j,rfl⟩:∃j,k=j+1:=⟨k-1,aa⟩
  have e:(((j+1:Nat):Int)-1).toNat=j:=aa
  have hzj:=hz j aa
  have hv32:v<2^32:=by
   rcases Nat.lt_or_ge v (2^32)with h|h
   ·exact h
   ·have h1:2^32*2^(32*(j+1))<=v*2^(32*(j+1)):=Nat.mul_le_mul_right _ h
    have h2:2^32<=2^(32*(j+1)):=Nat.pow_le_pow_right aa aa
    have h3:2^32*2^32<=2^32*2^(32*(j+1)):=Nat.mul_le_mul_left _ h2
    omega
  rw[e]
  have hor:IntKind.u64.wrap ((BitVec.ofInt IntKind.u64.bits (IntKind.u64.wrap ((v:Int)*2^min (Int.toNat 32) IntKind.u64.bits))|||BitVec.ofInt IntKind.u64.bits (IntKind.u64.wrap (z j:Int))).toNat:Int)=
    ((v*4294967296+z j:Nat):Int):=by
   rw[Ab,cu (x:=(z j:Int)) aa aa,cu (x:=(v:Int)*4294967296) aa aa]
   rw[show(v:Int)*4294967296=((v*2^32:Nat):Int) by omega,uC aa aa,ue hzj]
  refine⟨⟨aa,aa,aa⟩,fun s' hv=>⟨(j,v*4294967296+z j),dB [] hv h0 rfl ⟨⟨rfl,aN rfl⟩,⟨rfl,gh hor⟩,⟨rfl,gh (by rw[wrap_i64 aa aa];simp only;omega)⟩,trivial⟩ trivial,
   ⟨by simp only;omega,Sb hval⟩,by simp⟩⟩
 ·have hk0:k=0:=aa
  subst hk0
  have hval:v=val n z:=by simpa [val]using hval
  subst hval
  exact aI.weak ag (dB (vs:=[.aq 1 n (aD z),.int .u64 (val n z:Nat),.int .i64 (((0:Nat):Int)-1)]) (ps:=[]) (nx:=0) [] hv h0 rfl ⟨⟨rfl,aN rfl⟩,⟨rfl,aN rfl⟩,⟨rfl,aN rfl⟩,trivial⟩ trivial)
   (aI.fin hT bO hm 30 ahp ag (bG.refl _))
theorem ahN:∀K args pre r,bX (mo Cl) K args pre=some r->aE P Fb K args pre r:=
 cK (uR fun _ _ K hz need=>alD hz need K [])
theorem YM:aT P Cr sZ (aA sZ):=aY Proofs.Tryz.func230 ag ag ag
theorem XX:aT P DI v7 (aA v7):=aY Proofs.Tryz.func231 ag ag ag
theorem afC {x y:Nat}:aH T [] [] 60 [0,1] (before (aA sZ) [1,0]) ⟨aQ 0 [.int .u64 x,.int .u64 y],[],0⟩=
  some (ah.leaf au.normal ([int IntKind.u64 (↑x:Int),int IntKind.u64 (↑y:Int)],[])):=ag
theorem adu {x y:Nat}:aH T [] [6] 60 [0,1] [part (aA sZ) [1,0,0,0]] ⟨aC [0,1] [.int .u64 x,.int .u64 y],[],0⟩=
  let c1 : Int := (↑y : Int); some (ah.fork (c1 != (0 : Int)) (ah.aj [c1 ≠ (0 : Int)] (ah.leaf au.normal ([int IntKind.u64 c1, int IntKind.u64 ((↑x : Int).tmod c1)], []))) (ah.leaf (au.exit 0) ([int IntKind.u64 (↑x : Int), int IntKind.u64 c1], []))) := ag
theorem alL {x y:Nat}:cw T [] [] 60 sZ (behind (aA sZ) [1,0]) ⟨aC [0,1] [.int .u64 x,.int .u64 y],[],0⟩=
  some (ah.leaf au.ret [int IntKind.u64 (↑x:Int)]):=ag
theorem akh {s n l x:Nat} {z:Nat->Nat}:aH T [] [11] 60 [0,1,4] (before (aA v7) [1,1,1]) ⟨aQ 0 [.own 0 1 s n,.int .u64 x],[(0,⟨true,true,1,l,aD z⟩)],1⟩=
  let c4:AV:=int IntKind.u64 (↑x:Int);let c3:AV:=own 0 1 s n;let c2:Nat:=Int.toNat (0:Int);let c1:Nat×ak:=(0,ak.mk true true 1 l fun j=>if(j==c2+s)=true then int IntKind.u32 (IntKind.u32.wrap (↑x:Int))else aD z j);some (ah.aj [(0:Int)<=(0:Int)/\c2<n,c2+s<l] (ah.aj [(0:Int)<=(32:Int)] (ah.fork ((↑x:Int).fdiv ((2:Int)^min (Int.toNat (32:Int)) IntKind.u64.bits)==(0:Int)) (ah.leaf au.ret ([c3,c4,int IntKind.i64 (1:Int)],[c1])) (ah.leaf au.normal ([c3,c4,int IntKind.i64 (0:Int)],[c1]))))):=ag
theorem ain {s n l x:Nat} {z:Nat->Nat}:aH T [] [] 60 [0,1,4] [part (aA v7) [1,1,1]] ⟨aC [0,1,4] [.own 0 1 s n,.int .u64 x,.int .i64 0],[(0,⟨true,true,1,l,aD z⟩)],1⟩=
  let c1:Nat:=Int.toNat (1:Int);some (ah.aj [(0:Int)<=(32:Int),(0:Int)<=(1:Int)/\c1<n,c1+s<l] (ah.leaf au.ret ([own 0 1 s n,int IntKind.u64 (↑x:Int),int IntKind.i64 (2:Int)],[(0,ak.mk true true 1 l fun j=>if(j==c1+s)=true then int IntKind.u32 (IntKind.u32.wrap ((↑x:Int).fdiv ((2:Int)^min (Int.toNat (32:Int)) IntKind.u64.bits)))else aD z j)]))):=ag
theorem ad5 {x y:Nat} (K:Nat) (pre:aF):aE P Cr K [.int .u64 x,.int .u64 y] pre (aK (.int .u64 (Nat.gcd x y:Nat)) []):=by
 refine jM hT YM rfl aX rfl (fun _ c h0=>?_) K pre
 have hk0:∀{nx:Nat} k x,c.k0 k=some x->k<nx:=kA h0
 refine ax.hole [1,0] ag (aI.bA hT bO hm 60 [0,1] afC ag fun s' hv=>cJ ?_)
 refine ax.g9 (i:=0) (y:=part (aA sZ) [1,0,0,0]) ag [0,1] 0 hk0 (fun p:Nat×Nat=>[.int .u64 (p.1:Nat),.int .u64 (p.2:Nat)]) (fun _=>[]) (fun _=>rfl) (fun _=>trivial)
  (fun p=>Nat.gcd p.1 p.2=Nat.gcd x y) (fun p=>p.2) (x,y) hv rfl ?_
 rintro⟨m,n⟩ hg
 simp only at hg
 refine ax.bA hT bO hm 60 [0,1] adu ag ?_
 simp only[ah.all,az,bne_iff_ne,ne_eq,bne_eq_false_iff_eq]
 refine⟨fun hb=>⟨hb,fun s' hv=>?_⟩,fun hb s' hv=>fC (cJ ?_)⟩
 ·have hlt:=Nat.mod_lt m (show 0<n by omega)
  refine⟨(n,m%n),dJ hv (by rw[<-Int.ofNat_tmod]) rfl,?_,hlt⟩
  rw[<-hg,Nat.gcd_comm m n,Nat.gcd_rec n m,Nat.gcd_comm]
 ·refine aI.Ge hT bO hm 60 (nx:=0) hv hk0 rfl trivial alL ag ag (bQ ?_)
  have:n=0:=aa
  rw[<-hg,this,Nat.gcd_zero_right]
def PG:Spec:=bX fun l=>match l with
 |[.int .u64 x,.int .u64 y]=>some (aK (.int .u64 (Nat.gcd x.toNat y.toNat:Nat)) [0<=x,0<=y])
 |_=>none
theorem ag8:∀K args pre r,PG K args pre=some r->aE P Cr K args pre r:=by
 refine cK fun K args r hk hs _=>?_
 split at hs
 ·rename_i x y
  simp only[ay]at hs
  subst hs
  intro need
  obtain⟨h1,h2⟩:0<=x/\0<=y:=need
  obtain⟨a,rfl⟩:=Int.eq_ofNat_of_zero_le h1
  obtain⟨b,rfl⟩:=Int.eq_ofNat_of_zero_le h2
  exact ad5 K [] trivial
 ·simp at hs
def gZ (z:Nat->Nat) (s x:Nat):Nat->Nat:=fun i=>if i=s then x%4294967296 else if i=s+1/\4294967296<=x then x/4294967296 else z i
def fD (x:Nat):Nat:=if x<4294967296 then 1 else 2
theorem adH {k s n l x:Nat} {z:Nat->Nat} {f:Nat->AV} (hx:x<2^64) (h1:fD x<=n) (hs:s+n<=l) (hf:∀i,i<l->f i=aD z i) (K:Nat):
  aE P DI K [.own k 1 s n,.int .u64 x] [(k,⟨true,true,1,l,f⟩)] ⟨.int .i64 (fD x:Nat),[(k,⟨true,true,1,l,aD (gZ z s x)⟩)],[]⟩:=by
 refine nr hT XX (args0:=[.own 0 1 s n,.int .u64 x]) (pre0:=[(0,⟨true,true,1,l,aD z⟩)]) (nx:=1) [(0,k)] aX (by simp[iA]) ⟨⟨rfl,cD rfl rfl rfl⟩,⟨rfl,aN rfl⟩,trivial⟩ ⟨⟨k,_,rfl,by simp[look],fF rfl hf⟩,trivial⟩
  (fun a x h=>?_) (fun x o h=>?_) (fun _ c h0=>?_)
 ·simp only[bh,look]at h
  split at h
  ·simp only[ay]at h;subst h;exact⟨_,by simp[look];rfl⟩
  ·simp at h
 ·simp only[look]at h
  split at h
  ·rename_i he
   have:k=x:=by simpa using he
   subst this
   exact .inl ⟨_,by simp[look];rfl⟩
  ·simp at h
 have hk0:∀k x,c.k0 k=some x->k<1:=fun k x hk=>by
  have:=h0 k x hk
  simp only[bh,look]at this
  split at this
  ·rename_i h;simp at h;omega
  ·simp at this
 have key:∀{s':aM} {v:Int} {w:Nat->Nat},bt [0,1,4] s'=some ([.own 0 1 s n,.int .u64 x,.int .i64 v],[(0,⟨true,true,1,l,aD w⟩)])->v=(fD x:Nat)->w=gZ z s x->
   ∃τ,wI [(0,k)] K [(k,⟨true,true,1,l,f⟩)] τ/\(FF T v7 τ [(k,⟨true,true,1,l,f⟩)] ⟨.int .i64 (fD x:Nat),[(k,⟨true,true,1,l,aD (gZ z s x)⟩)],[]⟩ s'\/vr T v7 τ [(k,⟨true,true,1,l,f⟩)] ⟨.int .i64 (fD x:Nat),[(k,⟨true,true,1,l,aD (gZ z s x)⟩)],[]⟩ s'):=by
  intro s' v w hv hv1 hw
  refine⟨bh [(k,0)],ur,.inr (vL (vs:=[.own 0 1 s n,.int .u64 x,.int .i64 v]) (us:=[.int .i64 v]) (ws:=[.int .i64 (fD x:Nat)]) (os:=[(0,⟨true,true,1,l,aD w⟩)]) (ps:=[(k,⟨true,true,1,l,aD (gZ z s x)⟩)]) hv ag ⟨⟨rfl,gh hv1⟩,trivial⟩ rfl (by simp[cO,eO,put]) ⟨⟨0,_,by simp[bh,look],rfl,fF rfl fun i hi=>by rw[hw]⟩,trivial⟩)⟩
 have h12:fD x=1\/fD x=2:=by unfold fD;split<;>simp
 have hset1:(fun j=>if j=s then AV.int .u32 (IntKind.u32.wrap (x:Int))else aD z j)=aD (cH z s (x%4294967296)):=by
  funext j;exact gO (by rw[jN]) j
 refine ax.hole [1,1,1] ag (aI.bA hT bO hm 60 [0,1,4] akh ag ?_)
 simp only[ah.all,az,beq_iff_eq,beq_eq_false_iff_ne,ne_eq,lM,Int.toNat_zero,Nat.zero_add,hset1]
 refine⟨⟨aa,aa⟩,aa,fun hb s' hv=>?_,fun hb s' hv=>cJ ?_⟩
 ·have hlt:x<4294967296:=aa
  refine fA ⟨.inr rfl,key hv (by unfold fD;rw[if_pos hlt];rfl) ?_⟩
  funext i
  unfold cH gZ
  by_cases h:i=s
  ·simp[h]
  ·simp[h];omega
 ·have hge:4294967296<=x:=aa
  have h2:fD x=2:=by unfold fD;rw[if_neg aa]
  refine ax.fh hT bO hm 60 (nx:=1) hv hk0 rfl ⟨⟨aa,fun _ _=>rfl⟩,trivial⟩ [0,1,4] ain ag ?_
  simp only[ah.all,az,beq_iff_eq,beq_eq_false_iff_ne,ne_eq,lM,show Int.toNat 1=1 from rfl]
  refine⟨⟨aa,aa,aa⟩,fun s' hv=>?_⟩
  have hset2:(fun j=>if j=1+s then AV.int .u32 (IntKind.u32.wrap ((x:Int)/4294967296))else aD (cH z s (x%4294967296)) j)=aD (cH (cH z s (x%4294967296)) (1+s) (x/4294967296)):=by
   funext j;exact gO (by rw[wrap_u32 aa aa];omega) j
  rw[hset2]at hv
  refine fA ⟨.inr rfl,key hv (by rw[h2];rfl) ?_⟩
  funext i
  unfold cH gZ
  by_cases h:i=s
  ·simp[h]
  ·by_cases h':i=1+s
   ·simp[h',hge,Nat.add_comm]
   ·simp[h,h'];omega
def IF:Spec:=fun _ args pre=>match args,pre with
 |[.own k es s n,.int .u64 x],[(k',o)]=>if k==k'&&es==1&&o.row&&o.wr&&o.es==1 then some ⟨.int .i64 (fD x.toNat:Nat),[(k,⟨true,true,1,o.len,aD (gZ (fun i=>numOf (o.f i)) s x.toNat)⟩)],[dQ o.len o.f,0<=x/\x<2^64,fD x.toNat<=n,s+n<=o.len]⟩else none
 |_,_=>none
theorem Xn:∀K args pre r,IF K args pre=some r->aE P DI K args pre r:=by
 intro K args pre r hs
 unfold IF at hs
 split at hs
 ·rename_i k es s n x k' o
  split at hs
  ·rename_i hc
   simp only[Bool.and_eq_true,beq_iff_eq]at hc
   obtain⟨⟨⟨⟨rfl,rfl⟩,h4⟩,h5⟩,h6⟩:=hc
   simp only[ay]at hs
   subst hs
   intro need
   obtain⟨h1,⟨h2,h2'⟩,h3,h7⟩:dQ o.len o.f/\(0<=x/\x<2^64)/\fD x.toNat<=n/\s+n<=o.len:=need
   obtain⟨row,wr,es,len,f⟩:=o
   simp only at h1 h4 h5 h6 h7
   subst h4 h5 h6
   obtain⟨x,rfl⟩:=Int.eq_ofNat_of_zero_le h2
   refine adH (z:=fun i=>numOf (f i)) aa h3 h7 (fun i hi=>?_) K trivial
   obtain⟨z,g1,g2⟩:=h1 i hi
   simp[g2,numOf,aD]
  ·simp at hs
 ·simp at hs
def P1:Spec:=bX fun l=>match l with
 |[.int .u64 x,.int .u64 y,.int .u64 z]=>some (aK (.tuple [.int .u64 ((x+y+z)%18446744073709551616),.int .u64 ((x+y+z)/18446744073709551616)]) [0<=x,0<=y,0<=z/\z<=1])
 |_=>none
theorem alg:∀K args pre r,P1 K args pre=some r->aE P Qw K args pre r:=by
 refine cK fun K args r hk hs _=>?_
 split at hs
 ·rename_i x y z
  simp only[ay]at hs
  subst hs
  intro need
  obtain⟨h1,h2,h3,h4⟩:0<=x/\0<=y/\0<=z/\z<=1:=need
  refine⟨fun k o h=>by simp[look]at h,fun c D D' β w vs hw0 hMw hrel hD hK hv=>.inr ?_⟩
  match vs,hv with
  |[a,b,d],hv=>
   obtain⟨ha,hb,hd,_⟩:=hv
   have ha:=(ha.bS).int
   have hb:=(hb.bS).int
   have hd:=(hd.bS).int
   subst ha hb hd
   refine⟨.tuple #[.int .u64 ((x+y+z)%18446744073709551616),.int .u64 ((x+y+z)/18446744073709551616)],?_,β,?_,cW.refl _ _ _,[_,_],rfl,.cz (.int .nil) rfl,.cz (.int .nil) rfl,trivial⟩
   ·rw[run_callFunc_extern (e:=add64Entry) Proofs.Tryz.func226 ag ag ag (by rfl)]
    rw[run_add64 x y z h1 h2 h3 h4]
    rfl
   ·exact hrel.mm hD
 ·simp at hs
end Go.Am.B
