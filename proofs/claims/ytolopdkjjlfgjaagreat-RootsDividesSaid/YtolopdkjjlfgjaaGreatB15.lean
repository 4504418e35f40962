/- rational.word, divisor, limbs; bits.Add64. -/
import Derived.Test.YtolopdkjjlfgjaaGreatB14
import Derived.Laws.Externs
set_option linter.unusedVariables false
namespace Go.Am.B
open Go Go.Am.N AV Proofs.Tryz IntKind
theorem Ng:aX 159 f159:=aZ func159
theorem Nu {n:Nat} {z:Nat->Nat}:aG T [] [] 30 [0,3,4] (before (aH f159) [1,1,0,1]) ⟨aT 0 [.ak 1 n (aB z)],[],0⟩=
  some (af.leaf aq.normal ([ak 1 n fun a=>int .u32 (↑(z a):Int),int .u64 (0:Int),int .i64 (i64.wrap ((↑n:Int)-1))],[])):=ah
theorem Rl {n k v:Nat} {z:Nat->Nat}:aG T [] [9] 30 [0,3,4] [part (aH f159) [1,1,0,1,0,0]] ⟨aC [0,3,4] [.ak 1 n (aB z),.int .u64 v,.int .i64 ((k:Int)-1)],[],0⟩=
  let c2:AV:=ak 1 n fun a=>int .u32 (↑(z a):Int);let c1:Int:=(↑k:Int)-1;some (af.fork (decide (c1>=0)) (af.aj [(0:Int)<=32,(0:Int)<=c1/\c1.toNat<n] (af.leaf aq.normal ([c2,int .u64 (u64.wrap (↑(BitVec.ofInt u64.bits (u64.wrap ((↑v:Int)*2^min (Int.toNat (32:Int)) u64.bits))|||BitVec.ofInt u64.bits (u64.wrap (↑(z c1.toNat):Int))).toNat:Int)),int .i64 (i64.wrap (c1-1))],[]))) (af.leaf (aq.exit 0) ([c2,int .u64 (↑v:Int),int .i64 c1],[]))):=ah
theorem R4 {n k v:Nat} {z:Nat->Nat}:cA T [] [] 30 f159 (behind (aH f159) [1,1,0,1]) ⟨aC [0,3,4] [.ak 1 n (aB z),.int .u64 v,.int .i64 ((k:Int)-1)],[],0⟩=
  some (af.leaf aq.ret [int .u64 (↑v:Int)]):=ah
theorem Pb {n:Nat} {z:Nat->Nat} (hz:∀i,i<n->z i<2^32) (hn:n<=2) (K:Nat) (pre:aE):aP P 159 K [.ak 1 n (aB z)] pre (aK (.int .u64 (val n z:Nat)) []):=by
 refine jC hT Ng rfl aW rfl (fun _ c h0=>?_) K pre
 refine au.hole [1,1,0,1] ah (aF.bD hT b9 hm 30 [0,3,4] Nu ah ?_)
 intro s' hv
 have hv64:val n z<2^64:=by
  have h1:=fV hz
  have h2:2^(32*n)<=2^(32*2):=Nat.pow_le_pow_right aa aa
  omega
 refine au.g7 (i:=0) (y:=part (aH f159) [1,1,0,1,0,0]) ah
  (fun p:Nat×Nat=>⟨aC [0,3,4] [.ak 1 n (aB z),.int .u64 (p.2:Nat),.int .i64 ((p.1:Nat)-1:Int)],[],0⟩)
  (fun p=>p.1<=n/\p.2*2^(32*p.1)+val p.1 z=val n z) (fun p=>p.1) (n,0)
  (dI [] hv h0 rfl ⟨aO,aO,⟨rfl,gA (wrap_i64 aa aa)⟩,trivial⟩ trivial) ⟨by simp,by simp⟩ ?_
 rintro⟨k,v⟩ ⟨hk,hval⟩
 simp only at hk hval
 refine au.bD hT b9 hm 30 [0,3,4] Rl ah ?_
 simp only[af.all,aA,bw,bB]
 refine⟨fun hb=>?_,fun hb s' hv=>?_⟩
 ·obtain⟨j,rfl⟩:∃j,k=j+1:=⟨k-1,aa⟩
  have e:(((j+1:Nat):Int)-1).toNat=j:=aa
  have hzj:=hz j aa
  have hv32:v<2^32:=by
   rcases Nat.lt_or_ge v (2^32)with h|h
   ·exact h
   ·have h1:2^32*2^(32*(j+1))<=v*2^(32*(j+1)):=Nat.mul_le_mul_right _ h
    have h2:2^32<=2^(32*(j+1)):=Nat.pow_le_pow_right aa aa
    have h3:2^32*2^32<=2^32*2^(32*(j+1)):=Nat.mul_le_mul_left _ h2
    omega
  rw[e]
  have eR:u64.wrap ((BitVec.ofInt u64.bits (u64.wrap ((v:Int)*2^min (Int.toNat 32) u64.bits))|||BitVec.ofInt u64.bits (u64.wrap (z j:Int))).toNat:Int)=
    ((v*4294967296+z j:Nat):Int):=by
   rw[xb,ck (x:=(z j:Int)) aa aa,ck (x:=(v:Int)*4294967296) aa aa]
   rw[show(v:Int)*4294967296=((v*2^32:Nat):Int) by omega,sZ aa aa,qY hzj]
  refine⟨⟨aa,aa,aa⟩,fun s' hv=>⟨(j,v*4294967296+z j),dI [] hv h0 rfl ⟨aO,⟨rfl,gA eR⟩,⟨rfl,gA (by rw[wrap_i64 aa aa];simp only;omega)⟩,trivial⟩ trivial,
   ⟨by simp only;omega,MF hval⟩,by simp⟩⟩
 ·have hk0:k=0:=aa
  subst hk0
  have hval:v=val n z:=by simpa [val]using hval
  subst hval
  exact aF.weak ah (dI (vs:=[.ak 1 n (aB z),.int .u64 (val n z:Nat),.int .i64 (((0:Nat):Int)-1)]) (ps:=[]) (nx:=0) [] hv h0 rfl ⟨aO,aO,aO,trivial⟩ trivial)
   (aF.fin hT b9 hm 30 R4 ah (bA.refl _))
theorem acm:bf P (bU (lN yz)) 159:=
 cJ (sr fun _ _ K hz need=>Pb hz need K [])
theorem U1:aX 179 f179:=aZ func179
theorem Uf:aX 180 f180:=aZ func180
theorem Rg {x y:Nat}:aG T [] [] 60 [0,1] (before (aH f179) [1,0]) ⟨aT 0 [.int .u64 x,.int .u64 y],[],0⟩=
  some (af.leaf aq.normal ([int .u64 (↑x:Int),int .u64 (↑y:Int)],[])):=ah
theorem Pn {x y:Nat}:aG T [] [6] 60 [0,1] [part (aH f179) [1,0,0,0]] ⟨aC [0,1] [.int .u64 x,.int .u64 y],[],0⟩=
  let c1:Int:=(↑y:Int);some (af.fork (c1 !=(0:Int)) (af.aj [c1≠(0:Int)] (af.leaf aq.normal ([int .u64 c1,int .u64 ((↑x:Int).tmod c1)],[]))) (af.leaf (aq.exit 0) ([int .u64 (↑x:Int),int .u64 c1],[]))):=ah
theorem aeN {x y:Nat}:cA T [] [] 60 f179 (behind (aH f179) [1,0]) ⟨aC [0,1] [.int .u64 x,.int .u64 y],[],0⟩=
  some (af.leaf aq.ret [int .u64 (↑x:Int)]):=ah
theorem Yo {s n l x:Nat} {z:Nat->Nat}:aG T [] [11] 60 [0,1,4] (before (aH f180) [1,1,1]) ⟨aT 0 [.own 0 1 s n,.int .u64 x],[(0,⟨true,true,1,l,aB z⟩)],1⟩=
  let c4:AV:=int .u64 (↑x:Int);let c3:AV:=own 0 1 s n;let c2:Nat:=Int.toNat (0:Int);let c1:Nat×ax:=(0,ax.mk true true 1 l fun j=>if(j==c2+s)=true then int .u32 (u32.wrap (↑x:Int))else aB z j);some (af.aj [(0:Int)<=0/\c2<n,c2+s<l] (af.aj [(0:Int)<=32] (af.fork ((↑x:Int).fdiv ((2:Int)^min (Int.toNat (32:Int)) u64.bits)==0) (af.leaf aq.ret ([c3,c4,int .i64 (1:Int)],[c1])) (af.leaf aq.normal ([c3,c4,int .i64 (0:Int)],[c1]))))):=ah
theorem YX {s n l x:Nat} {z:Nat->Nat}:aG T [] [] 60 [0,1,4] [part (aH f180) [1,1,1]] ⟨aC [0,1,4] [.own 0 1 s n,.int .u64 x,.int .i64 0],[(0,⟨true,true,1,l,aB z⟩)],1⟩=
  let c1:Nat:=Int.toNat (1:Int);some (af.aj [(0:Int)<=32,(0:Int)<=1/\c1<n,c1+s<l] (af.leaf aq.ret ([own 0 1 s n,int .u64 (↑x:Int),int .i64 (2:Int)],[(0,ax.mk true true 1 l fun j=>if(j==c1+s)=true then int .u32 (u32.wrap ((↑x:Int).fdiv ((2:Int)^min (Int.toNat (32:Int)) u64.bits)))else aB z j)]))):=ah
theorem R5 {x y:Nat} (K:Nat) (pre:aE):aP P 179 K [.int .u64 x,.int .u64 y] pre (aK (.int .u64 (Nat.gcd x y:Nat)) []):=by
 refine jC hT U1 rfl aW rfl (fun _ c h0=>?_) K pre
 have hk0:∀{nx:Nat} k x,c.k0 k=some x->k<nx:=jA h0
 refine au.hole [1,0] ah (aF.bD hT b9 hm 60 [0,1] Rg ah fun s' hv=>cE ?_)
 refine au.g8 (i:=0) (y:=part (aH f179) [1,0,0,0]) ah [0,1] 0 hk0 (fun p:Nat×Nat=>[.int .u64 (p.1:Nat),.int .u64 (p.2:Nat)]) (fun _=>[]) (fun _=>rfl) (fun _=>trivial)
  (fun p=>Nat.gcd p.1 p.2=Nat.gcd x y) (fun p=>p.2) (x,y) hv rfl ?_
 rintro⟨m,n⟩ hg
 simp only at hg
 refine au.bD hT b9 hm 60 [0,1] Pn ah ?_
 simp only[af.all,aA,bne_iff_ne,ne_eq,bne_eq_false_iff_eq]
 refine⟨fun hb=>⟨hb,fun s' hv=>?_⟩,fun hb s' hv=>fz (cE ?_)⟩
 ·have hlt:=Nat.mod_lt m (show 0<n by omega)
  refine⟨(n,m%n),dY hv (by rw[<-Int.ofNat_tmod]) rfl,?_,hlt⟩
  rw[<-hg,Nat.gcd_comm m n,Nat.gcd_rec n m,Nat.gcd_comm]
 ·refine aF.x7 hT b9 hm 60 (nx:=0) hv hk0 rfl trivial aeN ah ah (bN ?_)
  have:n=0:=aa
  rw[<-hg,this,Nat.gcd_zero_right]
def HO:Spec:=bU fun l=>match l with
 |[.int .u64 x,.int .u64 y]=>some (aK (.int .u64 (Nat.gcd x.toNat y.toNat:Nat)) [0<=x,0<=y])
 |_=>none
theorem N6:bf P HO 179:=by
 refine cJ fun K args r hk hs _=>?_
 split at hs
 ·rename_i x y
  simp only[ay]at hs
  subst hs
  intro need
  obtain⟨h1,h2⟩:0<=x/\0<=y:=need
  obtain⟨a,rfl⟩:=Int.eq_ofNat_of_zero_le h1
  obtain⟨b,rfl⟩:=Int.eq_ofNat_of_zero_le h2
  exact R5 K [] trivial
 ·simp at hs
def gY (z:Nat->Nat) (s x:Nat):Nat->Nat:=fun i=>if i=s then x%4294967296 else if i=s+1/\4294967296<=x then x/4294967296 else z i
def fy (x:Nat):Nat:=if x<4294967296 then 1 else 2
theorem WC {k s n l x:Nat} {z:Nat->Nat} {f:Nat->AV} (hx:x<2^64) (h1:fy x<=n) (hs:s+n<=l) (hf:∀i,i<l->f i=aB z i) (K:Nat):
  aP P 180 K [.own k 1 s n,.int .u64 x] [(k,⟨true,true,1,l,f⟩)] ⟨.int .i64 (fy x:Nat),[(k,⟨true,true,1,l,aB (gY z s x)⟩)],[]⟩:=by
 refine od hT Uf (args0:=[.own 0 1 s n,.int .u64 x]) (pre0:=[(0,⟨true,true,1,l,aB z⟩)]) (nx:=1) [(0,k)] aW (by simp[hH]) ⟨⟨rfl,dH rfl rfl rfl⟩,aO,trivial⟩ ⟨⟨k,_,rfl,by simp[look],fG rfl hf⟩,trivial⟩
  (fun a x h=>?_) (fun x o h=>?_) (fun _ c h0=>?_)
 ·simp only[aY,look]at h
  split at h
  ·simp only[ay]at h;subst h;exact⟨_,by simp[look];rfl⟩
  ·simp at h
 ·simp only[look]at h
  split at h
  ·rename_i he
   have:k=x:=by simpa using he
   subst this
   exact .inl ⟨_,by simp[look];rfl⟩
  ·simp at h
 have hk0:∀k x,c.k0 k=some x->k<1:=fun k x hk=>by
  have:=h0 k x hk
  simp only[aY,look]at this
  split at this
  ·rename_i h;simp at h;omega
  ·simp at this
 have key:∀{s':aJ} {v:Int} {w:Nat->Nat},bk [0,1,4] s'=some ([.own 0 1 s n,.int .u64 x,.int .i64 v],[(0,⟨true,true,1,l,aB w⟩)])->v=(fy x:Nat)->w=gY z s x->
   ∃τ,tB [(0,k)] K [(k,⟨true,true,1,l,f⟩)] τ/\(Az T f180 τ [(k,⟨true,true,1,l,f⟩)] ⟨.int .i64 (fy x:Nat),[(k,⟨true,true,1,l,aB (gY z s x)⟩)],[]⟩ s'\/xG T f180 τ [(k,⟨true,true,1,l,f⟩)] ⟨.int .i64 (fy x:Nat),[(k,⟨true,true,1,l,aB (gY z s x)⟩)],[]⟩ s'):=by
  intro s' v w hv hv1 hw
  refine⟨aY [(k,0)],we,.inr (r8 (vs:=[.own 0 1 s n,.int .u64 x,.int .i64 v]) (us:=[.int .i64 v]) (ws:=[.int .i64 (fy x:Nat)]) (os:=[(0,⟨true,true,1,l,aB w⟩)]) (ps:=[(k,⟨true,true,1,l,aB (gY z s x)⟩)]) hv ah ⟨⟨rfl,gA hv1⟩,trivial⟩ rfl (by simp[cK,iV,put]) ⟨⟨0,_,by simp[aY,look],rfl,fG rfl fun i hi=>by rw[hw]⟩,trivial⟩)⟩
 have h12:fy x=1\/fy x=2:=by unfold fy;split<;>simp
 have hset1:(fun j=>if j=s then AV.int .u32 (u32.wrap (x:Int))else aB z j)=aB (cy z s (x%4294967296)):=by
  funext j;exact gT (by rw[jw]) j
 refine au.hole [1,1,1] ah (aF.bD hT b9 hm 60 [0,1,4] Yo ah ?_)
 simp only[af.all,aA,beq_iff_eq,beq_eq_false_iff_ne,ne_eq,kU,Int.toNat_zero,Nat.zero_add,hset1]
 refine⟨⟨aa,aa⟩,aa,fun hb s' hv=>?_,fun hb s' hv=>cE ?_⟩
 ·have hlt:x<4294967296:=aa
  refine fC ⟨.inr rfl,key hv (by unfold fy;rw[if_pos hlt];rfl) ?_⟩
  funext i
  unfold cy gY
  by_cases h:i=s
  ·simp[h]
  ·simp[h];omega
 ·have hge:4294967296<=x:=aa
  have h2:fy x=2:=by unfold fy;rw[if_neg aa]
  refine au.fu hT b9 hm 60 (nx:=1) hv hk0 rfl ⟨⟨aa,fun _ _=>rfl⟩,trivial⟩ [0,1,4] YX ah ?_
  simp only[af.all,aA,beq_iff_eq,beq_eq_false_iff_ne,ne_eq,kU,show Int.toNat 1=1 from rfl]
  refine⟨⟨aa,aa,aa⟩,fun s' hv=>?_⟩
  have hset2:(fun j=>if j=1+s then AV.int .u32 (u32.wrap ((x:Int)/4294967296))else aB (cy z s (x%4294967296)) j)=aB (cy (cy z s (x%4294967296)) (1+s) (x/4294967296)):=by
   funext j;exact gT (by rw[wrap_u32 aa aa];omega) j
  rw[hset2]at hv
  refine fC ⟨.inr rfl,key hv (by rw[h2];rfl) ?_⟩
  funext i
  unfold cy gY
  by_cases h:i=s
  ·simp[h]
  ·by_cases h':i=1+s
   ·simp[h',hge,Nat.add_comm]
   ·simp[h,h'];omega
def Cd:Spec:=fun _ args pre=>match args,pre with
 |[.own k es s n,.int .u64 x],[(k',o)]=>if k==k'&&es==1&&o.row&&o.wr&&o.es==1 then some ⟨.int .i64 (fy x.toNat:Nat),[(k,⟨true,true,1,o.len,aB (gY (fun i=>numOf (o.f i)) s x.toNat)⟩)],[ej o.len o.f,0<=x/\x<2^64,fy x.toNat<=n,s+n<=o.len]⟩else none
 |_,_=>none
theorem adD:bf P Cd 180:=by
 intro K args pre r hs
 unfold Cd at hs
 split at hs
 ·rename_i k es s n x k' o
  split at hs
  ·rename_i hc
   simp only[Bool.and_eq_true,beq_iff_eq]at hc
   obtain⟨⟨⟨⟨rfl,rfl⟩,h4⟩,h5⟩,h6⟩:=hc
   simp only[ay]at hs
   subst hs
   intro need
   obtain⟨h1,⟨h2,h2'⟩,h3,h7⟩:ej o.len o.f/\(0<=x/\x<2^64)/\fy x.toNat<=n/\s+n<=o.len:=need
   obtain⟨row,wr,es,len,f⟩:=o
   simp only at h1 h4 h5 h6 h7
   subst h4 h5 h6
   obtain⟨x,rfl⟩:=Int.eq_ofNat_of_zero_le h2
   refine WC (z:=fun i=>numOf (f i)) aa h3 h7 (fun i hi=>?_) K trivial
   obtain⟨z,g1,g2⟩:=h1 i hi
   simp[g2,numOf,aB]
  ·simp at hs
 ·simp at hs
def Fx:Spec:=bU fun l=>match l with
 |[.int .u64 x,.int .u64 y,.int .u64 z]=>some (aK (.tuple [.int .u64 ((x+y+z)%18446744073709551616),.int .u64 ((x+y+z)/18446744073709551616)]) [0<=x,0<=y,0<=z/\z<=1])
 |_=>none
theorem ZL:bf P Fx 177:=by
 refine cJ fun K args r hk hs _=>?_
 split at hs
 ·rename_i x y z
  simp only[ay]at hs
  subst hs
  intro need
  obtain⟨h1,h2,h3,h4⟩:0<=x/\0<=y/\0<=z/\z<=1:=need
  refine⟨fun k o h=>by simp[look]at h,fun c D D' β w vs hw0 hMw hrel hD hK hv=>.inr ?_⟩
  match vs,hv with
  |[a,b,d],hv=>
   obtain⟨ha,hb,hd,_⟩:=hv
   have ha:=(ha.bL).int
   have hb:=(hb.bL).int
   have hd:=(hd.bL).int
   subst ha hb hd
   refine⟨.tuple #[.int .u64 ((x+y+z)%18446744073709551616),.int .u64 ((x+y+z)/18446744073709551616)],?_,β,?_,cX.refl _ _ _,[_,_],rfl,.cr (.int .nil) rfl,.cr (.int .nil) rfl,trivial⟩
   ·rw[run_callFunc_extern (e:=add64Entry) func177 ah ah ah (by rfl)]
    rw[run_add64 x y z h1 h2 h3 h4]
    rfl
   ·exact hrel.kD hD
 ·simp at hs
end Go.Am.B
