/- rational.word, divisor, limbs; bits.Add64. -/
import Derived.Test.YtppeigelbecpbaaGreatB14
import Derived.Laws.Externs
set_option linter.unusedVariables false
namespace Go.Am.B
open Go Go.Am.N AV
theorem QL:aP P ye oo (au oo):=aQ aiA (by kernel_rfl) (by kernel_rfl) (by kernel_rfl)
theorem afi {n:Nat} {z:Nat→Nat}:aJ T [] [] 30 [0,3,4] (before (au oo) [1,1,0,1]) ⟨aN 0 [.aj 1 n (ay z)],[],0⟩=
  some (aa.leaf ak.normal ([aj 1 n fun a↦int IntKind.u32 (↑(z a):Int),int IntKind.u64 (0:Int),int IntKind.i64 (IntKind.i64.wrap ((↑n:Int)-(1:Int)))],[])):=by kernel_rfl
theorem aj9 {n k v:Nat} {z:Nat→Nat}:aJ T [] [9] 30 [0,3,4] [part (au oo) [1,1,0,1,0,0]] ⟨aB [0,3,4] [.aj 1 n (ay z),.int .u64 v,.int .i64 ((k:Int)-1)],[],0⟩=
  let c2:AV:=aj 1 n fun a↦int IntKind.u32 (↑(z a):Int);let c1:Int:=(↑k:Int)-(1:Int);some (aa.fork (decide (c1≥(0:Int))) (aa.ag [(0:Int)≤(32:Int),(0:Int)≤c1∧c1.toNat<n] (aa.leaf ak.normal ([c2,int IntKind.u64 (IntKind.u64.wrap (↑(BitVec.ofInt IntKind.u64.bits (IntKind.u64.wrap ((↑v:Int)*(2:Int)^min (Int.toNat (32:Int)) IntKind.u64.bits))|||BitVec.ofInt IntKind.u64.bits (IntKind.u64.wrap (↑(z c1.toNat):Int))).toNat:Int)),int IntKind.i64 (IntKind.i64.wrap (c1-(1:Int)))],[]))) (aa.leaf (ak.exit 0) ([c2,int IntKind.u64 (↑v:Int),int IntKind.i64 c1],[]))):=by kernel_rfl
theorem Zo {n k v:Nat} {z:Nat→Nat}:bY T [] [] 30 oo (behind (au oo) [1,1,0,1]) ⟨aB [0,3,4] [.aj 1 n (ay z),.int .u64 v,.int .i64 ((k:Int)-1)],[],0⟩=
  some (aa.leaf ak.ret [int IntKind.u64 (↑v:Int)]):=by kernel_rfl
theorem Xw {n:Nat} {z:Nat→Nat} (hz:∀i,i<n→z i<2^32) (hn:n≤2) (K:Nat) (pre:aC):aA P ye K [.aj 1 n (ay z)] pre (aG (.int .u64 (val n z:Nat)) []):=by
 refine ja hT QL rfl (of_decide_eq_true (by kernel_rfl)) rfl (fun _ c h0=>?_) K pre
 refine aq.hole [1,1,0,1] (by kernel_rfl) (aD.bk hT bp hm 30 [0,3,4] afi (by kernel_rfl) ?_)
 intro s' hv
 have hv64:val n z<2^64:=by
  have h1:=ff hz
  have h2:2^(32*n)≤2^(32*2):=Nat.pow_le_pow_right (by omega) (by omega)
  omega
 refine aq.gQ (i:=0) (y:=part (au oo) [1,1,0,1,0,0]) (by kernel_rfl)
  (fun p:Nat×Nat=>⟨aB [0,3,4] [.aj 1 n (ay z),.int .u64 (p.2:Nat),.int .i64 ((p.1:Nat)-1:Int)],[],0⟩)
  (fun p=>p.1≤n∧p.2*2^(32*p.1)+val p.1 z=val n z) (fun p=>p.1) (n,0)
  (cW [] hv h0 rfl ⟨⟨rfl,aK rfl⟩,⟨rfl,aK rfl⟩,⟨rfl,fC (wrap_i64 (by omega) (by omega))⟩,trivial⟩ trivial) ⟨by simp,by simp⟩ ?_
 rintro⟨k,v⟩ ⟨hk,hval⟩
 simp only at hk hval
 refine aq.bk hT bp hm 30 [0,3,4] aj9 (by kernel_rfl) ?_
 simp only[aa.all,ax,decide_eq_true_eq,decide_eq_false_iff_not]
 refine⟨fun hb=>?_,fun hb s' hv=>?_⟩
 ·obtain⟨j,rfl⟩:∃j,k=j+1:=⟨k-1,by omega⟩
  have e:(((j+1:Nat):Int)-1).toNat=j:=by omega
  have hzj:=hz j (by omega)
  have hv32:v<2^32:=by
   rcases Nat.lt_or_ge v (2^32)with h|h
   ·exact h
   ·have h1:2^32*2^(32*(j+1))≤v*2^(32*(j+1)):=Nat.mul_le_mul_right _ h
    have h2:2^32≤2^(32*(j+1)):=Nat.pow_le_pow_right (by omega) (by omega)
    have h3:2^32*2^32≤2^32*2^(32*(j+1)):=Nat.mul_le_mul_left _ h2
    omega
  rw[e]
  have hor:IntKind.u64.wrap ((BitVec.ofInt IntKind.u64.bits (IntKind.u64.wrap ((v:Int)*2^min (Int.toNat 32) IntKind.u64.bits))|||BitVec.ofInt IntKind.u64.bits (IntKind.u64.wrap (z j:Int))).toNat:Int)=
    ((v*4294967296+z j:Nat):Int):=by
   rw[yO,bO (x:=(z j:Int)) (by omega) (by omega),bO (x:=(v:Int)*4294967296) (by omega) (by omega)]
   rw[show(v:Int)*4294967296=((v*2^32:Nat):Int) by omega,sk (by omega) (by omega),qm hzj]
  refine⟨⟨by omega,by omega,by omega⟩,fun s' hv=>⟨(j,v*4294967296+z j),cW [] hv h0 rfl ⟨⟨rfl,aK rfl⟩,⟨rfl,fC hor⟩,⟨rfl,fC (by rw[wrap_i64 (by omega) (by omega)];simp only;omega)⟩,trivial⟩ trivial,
   ⟨by simp only;omega,Jn hval⟩,by simp⟩⟩
 ·have hk0:k=0:=by omega
  subst hk0
  have hval:v=val n z:=by simpa [val]using hval
  subst hval
  exact aD.weak (by kernel_rfl) (cW (vs:=[.aj 1 n (ay z),.int .u64 (val n z:Nat),.int .i64 (((0:Nat):Int)-1)]) (ps:=[]) (nx:=0) [] hv h0 rfl ⟨⟨rfl,aK rfl⟩,⟨rfl,aK rfl⟩,⟨rfl,aK rfl⟩,trivial⟩ trivial)
   (aD.fin hT bp hm 30 Zo (by kernel_rfl) (bw.refl _))
theorem S5:∀K args pre r,bE (kQ Cf) K args pre=some r→aA P ye K args pre r:=
 bX (tA fun _ _ K hz need=>Xw hz need K [])
theorem aiZ:aP P y8 o5 (au o5):=aQ ag0 (by kernel_rfl) (by kernel_rfl) (by kernel_rfl)
theorem adE:aP P xh rq (au rq):=aQ U6 (by kernel_rfl) (by kernel_rfl) (by kernel_rfl)
theorem RW {x y:Nat}:aJ T [] [] 60 [0,1] (before (au o5) [1,0]) ⟨aN 0 [.int .u64 x,.int .u64 y],[],0⟩=
  some (aa.leaf ak.normal ([int IntKind.u64 (↑x:Int),int IntKind.u64 (↑y:Int)],[])):=by kernel_rfl
theorem Uq {x y:Nat}:aJ T [] [6] 60 [0,1] [part (au o5) [1,0,0,0]] ⟨aB [0,1] [.int .u64 x,.int .u64 y],[],0⟩=
  let c1 : Int := (↑y : Int); some (aa.fork (c1 != (0 : Int)) (aa.ag [c1 ≠ (0 : Int)] (aa.leaf ak.normal ([int IntKind.u64 c1, int IntKind.u64 ((↑x : Int).tmod c1)], []))) (aa.leaf (ak.exit 0) ([int IntKind.u64 (↑x : Int), int IntKind.u64 c1], []))) := by kernel_rfl
theorem aeO {x y:Nat}:bY T [] [] 60 o5 (behind (au o5) [1,0]) ⟨aB [0,1] [.int .u64 x,.int .u64 y],[],0⟩=
  some (aa.leaf ak.ret [int IntKind.u64 (↑x:Int)]):=by kernel_rfl
theorem ajH {s n l x:Nat} {z:Nat→Nat}:aJ T [] [11] 60 [0,1,4] (before (au rq) [1,1,1]) ⟨aN 0 [.own 0 1 s n,.int .u64 x],[(0,⟨true,true,1,l,ay z⟩)],1⟩=
  let c4:AV:=int IntKind.u64 (↑x:Int);let c3:AV:=own 0 1 s n;let c2:Nat:=Int.toNat (0:Int);let c1:Nat×ah:=((0:Nat),ah.mk true true 1 l fun j↦if(j==c2+s)=true then int IntKind.u32 (IntKind.u32.wrap (↑x:Int))else ay z j);some (aa.ag [(0:Int)≤(0:Int)∧c2<n,c2+s<l] (aa.ag [(0:Int)≤(32:Int)] (aa.fork ((↑x:Int).fdiv ((2:Int)^min (Int.toNat (32:Int)) IntKind.u64.bits)==(0:Int)) (aa.leaf ak.ret ([c3,c4,int IntKind.i64 (1:Int)],[c1])) (aa.leaf ak.normal ([c3,c4,int IntKind.i64 (0:Int)],[c1]))))):=by kernel_rfl
theorem abB {s n l x:Nat} {z:Nat→Nat}:aJ T [] [] 60 [0,1,4] [part (au rq) [1,1,1]] ⟨aB [0,1,4] [.own 0 1 s n,.int .u64 x,.int .i64 0],[(0,⟨true,true,1,l,ay z⟩)],1⟩=
  let c1:Nat:=Int.toNat (1:Int);some (aa.ag [(0:Int)≤(32:Int),(0:Int)≤(1:Int)∧c1<n,c1+s<l] (aa.leaf ak.ret ([own 0 1 s n,int IntKind.u64 (↑x:Int),int IntKind.i64 (2:Int)],[((0:Nat),ah.mk true true 1 l fun j↦if(j==c1+s)=true then int IntKind.u32 (IntKind.u32.wrap ((↑x:Int).fdiv ((2:Int)^min (Int.toNat (32:Int)) IntKind.u64.bits)))else ay z j)]))):=by kernel_rfl
theorem VY {x y:Nat} (K:Nat) (pre:aC):aA P y8 K [.int .u64 x,.int .u64 y] pre (aG (.int .u64 (Nat.gcd x y:Nat)) []):=by
 refine ja hT aiZ rfl (of_decide_eq_true (by kernel_rfl)) rfl (fun _ c h0=>?_) K pre
 have hk0:∀{nx:Nat} k x,c.k0 k=some x→k<nx:=jn h0
 refine aq.hole [1,0] (by kernel_rfl) (aD.bk hT bp hm 60 [0,1] RW (by kernel_rfl) fun s' hv=>b7 ?_)
 refine aq.gv (i:=0) (y:=part (au o5) [1,0,0,0]) (by kernel_rfl) [0,1] 0 hk0 (fun p:Nat×Nat=>[.int .u64 (p.1:Nat),.int .u64 (p.2:Nat)]) (fun _=>[]) (fun _=>rfl) (fun _=>trivial)
  (fun p=>Nat.gcd p.1 p.2=Nat.gcd x y) (fun p=>p.2) (x,y) hv rfl ?_
 rintro⟨m,n⟩ hg
 simp only at hg
 refine aq.bk hT bp hm 60 [0,1] Uq (by kernel_rfl) ?_
 simp only[aa.all,ax,bne_iff_ne,ne_eq,bne_eq_false_iff_eq]
 refine⟨fun hb=>⟨hb,fun s' hv=>?_⟩,fun hb s' hv=>eO (b7 ?_)⟩
 ·have hlt:=Nat.mod_lt m (show 0<n by omega)
  refine⟨(n,m%n),dh hv (by rw[←Int.ofNat_tmod]) rfl,?_,hlt⟩
  rw[←hg,Nat.gcd_comm m n,Nat.gcd_rec n m,Nat.gcd_comm]
 ·refine aD.DH hT bp hm 60 (nx:=0) hv hk0 rfl trivial aeO (by kernel_rfl) (by kernel_rfl) (bt ?_)
  have:n=0:=by omega
  rw[←hg,this,Nat.gcd_zero_right]
def Jq:Spec:=bE fun l=>match l with
 |[.int .u64 x,.int .u64 y]=>some (aG (.int .u64 (Nat.gcd x.toNat y.toNat:Nat)) [0≤x,0≤y])
 |_=>none
theorem V5:∀K args pre r,Jq K args pre=some r→aA P y8 K args pre r:=by
 refine bX fun K args r hk hs _=>?_
 split at hs
 ·rename_i x y
  simp only[Option.some.injEq]at hs
  subst hs
  intro need
  obtain⟨h1,h2⟩:0≤x∧0≤y:=need
  obtain⟨a,rfl⟩:=Int.eq_ofNat_of_zero_le h1
  obtain⟨b,rfl⟩:=Int.eq_ofNat_of_zero_le h2
  exact VY K [] trivial
 ·simp at hs
def gq (z:Nat→Nat) (s x:Nat):Nat→Nat:=fun i=>if i=s then x%4294967296 else if i=s+1∧4294967296≤x then x/4294967296 else z i
def eH (x:Nat):Nat:=if x<4294967296 then 1 else 2
theorem Zt {k s n l x:Nat} {z:Nat→Nat} {f:Nat→AV} (hx:x<2^64) (h1:eH x≤n) (hs:s+n≤l) (hf:∀i,i<l→f i=ay z i) (K:Nat):
  aA P xh K [.own k 1 s n,.int .u64 x] [(k,⟨true,true,1,l,f⟩)] ⟨.int .i64 (eH x:Nat),[(k,⟨true,true,1,l,ay (gq z s x)⟩)],[]⟩:=by
 refine nu hT adE (args0:=[.own 0 1 s n,.int .u64 x]) (pre0:=[(0,⟨true,true,1,l,ay z⟩)]) (nx:=1) [(0,k)] (of_decide_eq_true (by kernel_rfl)) (by simp[gR]) ⟨⟨rfl,cV rfl rfl rfl⟩,⟨rfl,aK rfl⟩,trivial⟩ ⟨⟨k,_,rfl,by simp[look],eV rfl hf⟩,trivial⟩
  (fun a x h=>?_) (fun x o h=>?_) (fun _ c h0=>?_)
 ·simp only[aV,look]at h
  split at h
  ·simp only[Option.some.injEq]at h;subst h;exact⟨_,by simp[look];rfl⟩
  ·simp at h
 ·simp only[look]at h
  split at h
  ·rename_i he
   have:k=x:=by simpa using he
   subst this
   exact .inl ⟨_,by simp[look];rfl⟩
  ·simp at h
 have hk0:∀k x,c.k0 k=some x→k<1:=fun k x hk=>by
  have:=h0 k x hk
  simp only[aV,look]at this
  split at this
  ·rename_i h;simp at h;omega
  ·simp at this
 have key:∀{s':aI} {v:Int} {w:Nat→Nat},aY [0,1,4] s'=some ([.own 0 1 s n,.int .u64 x,.int .i64 v],[(0,⟨true,true,1,l,ay w⟩)])→v=(eH x:Nat)→w=gq z s x→
   ∃τ,tK [(0,k)] K [(k,⟨true,true,1,l,f⟩)] τ∧(C2 T rq τ [(k,⟨true,true,1,l,f⟩)] ⟨.int .i64 (eH x:Nat),[(k,⟨true,true,1,l,ay (gq z s x)⟩)],[]⟩ s'∨wN T rq τ [(k,⟨true,true,1,l,f⟩)] ⟨.int .i64 (eH x:Nat),[(k,⟨true,true,1,l,ay (gq z s x)⟩)],[]⟩ s'):=by
  intro s' v w hv hv1 hw
  refine⟨aV [(k,0)],sY,.inr (tQ (vs:=[.own 0 1 s n,.int .u64 x,.int .i64 v]) (us:=[.int .i64 v]) (ws:=[.int .i64 (eH x:Nat)]) (os:=[(0,⟨true,true,1,l,ay w⟩)]) (ps:=[(k,⟨true,true,1,l,ay (gq z s x)⟩)]) hv (by kernel_rfl) ⟨⟨rfl,fC hv1⟩,trivial⟩ rfl (by simp[ck,eF,put]) ⟨⟨0,_,by simp[aV,look],rfl,eV rfl fun i hi=>by rw[hw]⟩,trivial⟩)⟩
 have h12:eH x=1∨eH x=2:=by unfold eH;split<;>simp
 have hset1:(fun j=>if j=s then AV.int .u32 (IntKind.u32.wrap (x:Int))else ay z j)=ay (bU z s (x%4294967296)):=by
  funext j;exact ga (by rw[iZ]) j
 refine aq.hole [1,1,1] (by kernel_rfl) (aD.bk hT bp hm 60 [0,1,4] ajH (by kernel_rfl) ?_)
 simp only[aa.all,ax,beq_iff_eq,beq_eq_false_iff_ne,ne_eq,ki,Int.toNat_zero,Nat.zero_add,hset1]
 refine⟨⟨by omega,by omega⟩,by omega,fun hb s' hv=>?_,fun hb s' hv=>b7 ?_⟩
 ·have hlt:x<4294967296:=by omega
  refine eM ⟨.inr rfl,key hv (by unfold eH;rw[if_pos hlt];rfl) ?_⟩
  funext i
  unfold bU gq
  by_cases h:i=s
  ·simp[h]
  ·simp[h];omega
 ·have hge:4294967296≤x:=by omega
  have h2:eH x=2:=by unfold eH;rw[if_neg (by omega)]
  refine aq.eE hT bp hm 60 (nx:=1) hv hk0 rfl ⟨⟨by omega,fun _ _=>rfl⟩,trivial⟩ [0,1,4] abB (by kernel_rfl) ?_
  simp only[aa.all,ax,beq_iff_eq,beq_eq_false_iff_ne,ne_eq,ki,show Int.toNat 1=1 from rfl]
  refine⟨⟨by omega,by omega,by omega⟩,fun s' hv=>?_⟩
  have hset2:(fun j=>if j=1+s then AV.int .u32 (IntKind.u32.wrap ((x:Int)/4294967296))else ay (bU z s (x%4294967296)) j)=ay (bU (bU z s (x%4294967296)) (1+s) (x/4294967296)):=by
   funext j;exact ga (by rw[wrap_u32 (by omega) (by omega)];omega) j
  rw[hset2]at hv
  refine eM ⟨.inr rfl,key hv (by rw[h2];rfl) ?_⟩
  funext i
  unfold bU gq
  by_cases h:i=s
  ·simp[h]
  ·by_cases h':i=1+s
   ·simp[h',hge,Nat.add_comm]
   ·simp[h,h'];omega
def Ei:Spec:=fun _ args pre=>match args,pre with
 |[.own k es s n,.int .u64 x],[(k',o)]=>if k==k'&&es==1&&o.row&&o.wr&&o.es==1 then some ⟨.int .i64 (eH x.toNat:Nat),[(k,⟨true,true,1,o.len,ay (gq (fun i=>numOf (o.f i)) s x.toNat)⟩)],[dz o.len o.f,0≤x∧x<2^64,eH x.toNat≤n,s+n≤o.len]⟩else none
 |_,_=>none
theorem aa2:∀K args pre r,Ei K args pre=some r→aA P xh K args pre r:=by
 intro K args pre r hs
 unfold Ei at hs
 split at hs
 ·rename_i k es s n x k' o
  split at hs
  ·rename_i hc
   simp only[Bool.and_eq_true,beq_iff_eq]at hc
   obtain⟨⟨⟨⟨rfl,rfl⟩,h4⟩,h5⟩,h6⟩:=hc
   simp only[Option.some.injEq]at hs
   subst hs
   intro need
   obtain⟨h1,⟨h2,h2'⟩,h3,h7⟩:dz o.len o.f∧(0≤x∧x<2^64)∧eH x.toNat≤n∧s+n≤o.len:=need
   obtain⟨row,wr,es,len,f⟩:=o
   simp only at h1 h4 h5 h6 h7
   subst h4 h5 h6
   obtain⟨x,rfl⟩:=Int.eq_ofNat_of_zero_le h2
   refine Zt (z:=fun i=>numOf (f i)) (by omega) h3 h7 (fun i hi=>?_) K trivial
   obtain⟨z,g1,g2⟩:=h1 i hi
   simp[g2,numOf,ay]
  ·simp at hs
 ·simp at hs
def Qw:Spec:=bE fun l=>match l with
 |[.int .u64 x,.int .u64 y,.int .u64 z]=>some (aG (.tuple [.int .u64 ((x+y+z)%18446744073709551616),.int .u64 ((x+y+z)/18446744073709551616)]) [0≤x,0≤y,0≤z∧z≤1])
 |_=>none
theorem agq:∀K args pre r,Qw K args pre=some r→aA P GZ K args pre r:=by
 refine bX fun K args r hk hs _=>?_
 split at hs
 ·rename_i x y z
  simp only[Option.some.injEq]at hs
  subst hs
  intro need
  obtain⟨h1,h2,h3,h4⟩:0≤x∧0≤y∧0≤z∧z≤1:=need
  refine⟨fun k o h=>by simp[look]at h,fun c D D' β w vs hw0 hMw hrel hD hK hv=>.inr ?_⟩
  match vs,hv with
  |[a,b,d],hv=>
   obtain⟨ha,hb,hd,_⟩:=hv
   have ha:=(ha.bD).int
   have hb:=(hb.bD).int
   have hd:=(hd.bD).int
   subst ha hb hd
   refine⟨.tuple #[.int .u64 ((x+y+z)%18446744073709551616),.int .u64 ((x+y+z)/18446744073709551616)],?_,β,?_,cC.refl _ _ _,[_,_],rfl,.bW (.int .nil) rfl,.bW (.int .nil) rfl,trivial⟩
   ·rw[run_callFunc_extern (e:=add64Entry) aec (by kernel_rfl) (by kernel_rfl) (by kernel_rfl) (by rfl)]
    rw[run_add64 x y z h1 h2 h3 h4]
    rfl
   ·exact hrel.l8 hD
 ·simp at hs
end Go.Am.B
