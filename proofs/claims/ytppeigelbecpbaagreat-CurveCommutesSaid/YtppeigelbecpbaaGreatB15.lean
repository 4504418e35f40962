/- rational.word, divisor, limbs; bits.Add64. -/
import Derived.Test.YtppeigelbecpbaaGreatB14
import Derived.Laws.Externs
set_option linter.unusedVariables false
namespace Go.Am.B
open Go Go.Am.N AV
theorem ZW:aP P xj pH (au pH):=aQ WJ (by kernel_rfl) (by kernel_rfl) (by kernel_rfl)
theorem adG {n:Nat} {z:Nat→Nat}:aH T [] [] 30 [0,3,4] (before (au pH) [1,1,0,1]) ⟨aN 0 [.ak 1 n (ay z)],[],0⟩=
  some (aa.leaf aj.normal ([ak 1 n fun a↦int IntKind.u32 (↑(z a):Int),int IntKind.u64 (0:Int),int IntKind.i64 (IntKind.i64.wrap ((↑n:Int)-(1:Int)))],[])):=by kernel_rfl
theorem Xc {n k v:Nat} {z:Nat→Nat}:aH T [] [9] 30 [0,3,4] [part (au pH) [1,1,0,1,0,0]] ⟨aB [0,3,4] [.ak 1 n (ay z),.int .u64 v,.int .i64 ((k:Int)-1)],[],0⟩=
  let c2:AV:=ak 1 n fun a↦int IntKind.u32 (↑(z a):Int);let c1:Int:=(↑k:Int)-(1:Int);some (aa.fork (decide (c1≥(0:Int))) (aa.ag [(0:Int)≤(32:Int),(0:Int)≤c1∧c1.toNat<n] (aa.leaf aj.normal ([c2,int IntKind.u64 (IntKind.u64.wrap (↑(BitVec.ofInt IntKind.u64.bits (IntKind.u64.wrap ((↑v:Int)*(2:Int)^min (Int.toNat (32:Int)) IntKind.u64.bits))|||BitVec.ofInt IntKind.u64.bits (IntKind.u64.wrap (↑(z c1.toNat):Int))).toNat:Int)),int IntKind.i64 (IntKind.i64.wrap (c1-(1:Int)))],[]))) (aa.leaf (aj.exit 0) ([c2,int IntKind.u64 (↑v:Int),int IntKind.i64 c1],[]))):=by kernel_rfl
theorem aiX {n k v:Nat} {z:Nat→Nat}:cm T [] [] 30 pH (behind (au pH) [1,1,0,1]) ⟨aB [0,3,4] [.ak 1 n (ay z),.int .u64 v,.int .i64 ((k:Int)-1)],[],0⟩=
  some (aa.leaf aj.ret [int IntKind.u64 (↑v:Int)]):=by kernel_rfl
theorem SD {n:Nat} {z:Nat→Nat} (hz:∀i,i<n→z i<2^32) (hn:n≤2) (K:Nat) (pre:aC):aA P xj K [.ak 1 n (ay z)] pre (aK (.int .u64 (val n z:Nat)) []):=by
 refine jq hT ZW rfl (of_decide_eq_true (by kernel_rfl)) rfl (fun _ c h0=>?_) K pre
 refine aq.hole [1,1,0,1] (by kernel_rfl) (aD.bf hT bh hm 30 [0,3,4] adG (by kernel_rfl) ?_)
 intro s' hv
 have hv64:val n z<2^64:=by
  have h1:=fy hz
  have h2:2^(32*n)≤2^(32*2):=Nat.pow_le_pow_right (by omega) (by omega)
  omega
 refine aq.ig (i:=0) (y:=part (au pH) [1,1,0,1,0,0]) (by kernel_rfl)
  (fun p:Nat×Nat=>⟨aB [0,3,4] [.ak 1 n (ay z),.int .u64 (p.2:Nat),.int .i64 ((p.1:Nat)-1:Int)],[],0⟩)
  (fun p=>p.1≤n∧p.2*2^(32*p.1)+val p.1 z=val n z) (fun p=>p.1) (n,0)
  (cW [] hv h0 rfl ⟨⟨rfl,aI rfl⟩,⟨rfl,aI rfl⟩,⟨rfl,fR (wrap_i64 (by omega) (by omega))⟩,trivial⟩ trivial) ⟨by simp,by simp⟩ ?_
 rintro⟨k,v⟩ ⟨hk,hval⟩
 simp only at hk hval
 refine aq.bf hT bh hm 30 [0,3,4] Xc (by kernel_rfl) ?_
 simp only[aa.all,ax,decide_eq_true_eq,decide_eq_false_iff_not]
 refine⟨fun hb=>?_,fun hb s' hv=>?_⟩
 ·obtain⟨j,rfl⟩:∃j,k=j+1:=⟨k-1,by omega⟩
  have e:(((j+1:Nat):Int)-1).toNat=j:=by omega
  have hzj:=hz j (by omega)
  have hv32:v<2^32:=by
   rcases Nat.lt_or_ge v (2^32)with h|h
   ·exact h
   ·have h1:2^32*2^(32*(j+1))≤v*2^(32*(j+1)):=Nat.mul_le_mul_right _ h
    have h2:2^32≤2^(32*(j+1)):=Nat.pow_le_pow_right (by omega) (by omega)
    have h3:2^32*2^32≤2^32*2^(32*(j+1)):=Nat.mul_le_mul_left _ h2
    omega
  rw[e]
  have hor:IntKind.u64.wrap ((BitVec.ofInt IntKind.u64.bits (IntKind.u64.wrap ((v:Int)*2^min (Int.toNat 32) IntKind.u64.bits))|||BitVec.ofInt IntKind.u64.bits (IntKind.u64.wrap (z j:Int))).toNat:Int)=
    ((v*4294967296+z j:Nat):Int):=by
   rw[x8,bL (x:=(z j:Int)) (by omega) (by omega),bL (x:=(v:Int)*4294967296) (by omega) (by omega)]
   rw[show(v:Int)*4294967296=((v*2^32:Nat):Int) by omega,uY (by omega) (by omega),qz hzj]
  refine⟨⟨by omega,by omega,by omega⟩,fun s' hv=>⟨(j,v*4294967296+z j),cW [] hv h0 rfl ⟨⟨rfl,aI rfl⟩,⟨rfl,fR hor⟩,⟨rfl,fR (by rw[wrap_i64 (by omega) (by omega)];simp only;omega)⟩,trivial⟩ trivial,
   ⟨by simp only;omega,Lj hval⟩,by simp⟩⟩
 ·have hk0:k=0:=by omega
  subst hk0
  have hval:v=val n z:=by simpa [val]using hval
  subst hval
  exact aD.weak (by kernel_rfl) (cW (vs:=[.ak 1 n (ay z),.int .u64 (val n z:Nat),.int .i64 (((0:Nat):Int)-1)]) (ps:=[]) (nx:=0) [] hv h0 rfl ⟨⟨rfl,aI rfl⟩,⟨rfl,aI rfl⟩,⟨rfl,aI rfl⟩,trivial⟩ trivial)
   (aD.fin hT bh hm 30 aiX (by kernel_rfl) (bB.refl _))
theorem XQ:∀K args pre r,bC (kE Dm) K args pre=some r→aA P xj K args pre r:=
 bW (uv fun _ _ K hz need=>SD hz need K [])
theorem Sc:aP P yZ oK (au oK):=aQ Ve (by kernel_rfl) (by kernel_rfl) (by kernel_rfl)
theorem ak4:aP P xu rZ (au rZ):=aQ Wp (by kernel_rfl) (by kernel_rfl) (by kernel_rfl)
theorem Yk {x y:Nat}:aH T [] [] 60 [0,1] (before (au oK) [1,0]) ⟨aN 0 [.int .u64 x,.int .u64 y],[],0⟩=
  some (aa.leaf aj.normal ([int IntKind.u64 (↑x:Int),int IntKind.u64 (↑y:Int)],[])):=by kernel_rfl
theorem W4 {x y:Nat}:aH T [] [6] 60 [0,1] [part (au oK) [1,0,0,0]] ⟨aB [0,1] [.int .u64 x,.int .u64 y],[],0⟩=
  let c1 : Int := (↑y : Int); some (aa.fork (c1 != (0 : Int)) (aa.ag [c1 ≠ (0 : Int)] (aa.leaf aj.normal ([int IntKind.u64 c1, int IntKind.u64 ((↑x : Int).tmod c1)], []))) (aa.leaf (aj.exit 0) ([int IntKind.u64 (↑x : Int), int IntKind.u64 c1], []))) := by kernel_rfl
theorem UF {x y:Nat}:cm T [] [] 60 oK (behind (au oK) [1,0]) ⟨aB [0,1] [.int .u64 x,.int .u64 y],[],0⟩=
  some (aa.leaf aj.ret [int IntKind.u64 (↑x:Int)]):=by kernel_rfl
theorem Y1 {s n l x:Nat} {z:Nat→Nat}:aH T [] [11] 60 [0,1,4] (before (au rZ) [1,1,1]) ⟨aN 0 [.own 0 1 s n,.int .u64 x],[(0,⟨true,true,1,l,ay z⟩)],1⟩=
  let c4:AV:=int IntKind.u64 (↑x:Int);let c3:AV:=own 0 1 s n;let c2:Nat:=Int.toNat (0:Int);let c1:Nat×ah:=((0:Nat),ah.mk true true 1 l fun j↦if(j==c2+s)=true then int IntKind.u32 (IntKind.u32.wrap (↑x:Int))else ay z j);some (aa.ag [(0:Int)≤(0:Int)∧c2<n,c2+s<l] (aa.ag [(0:Int)≤(32:Int)] (aa.fork ((↑x:Int).fdiv ((2:Int)^min (Int.toNat (32:Int)) IntKind.u64.bits)==(0:Int)) (aa.leaf aj.ret ([c3,c4,int IntKind.i64 (1:Int)],[c1])) (aa.leaf aj.normal ([c3,c4,int IntKind.i64 (0:Int)],[c1]))))):=by kernel_rfl
theorem agP {s n l x:Nat} {z:Nat→Nat}:aH T [] [] 60 [0,1,4] [part (au rZ) [1,1,1]] ⟨aB [0,1,4] [.own 0 1 s n,.int .u64 x,.int .i64 0],[(0,⟨true,true,1,l,ay z⟩)],1⟩=
  let c1:Nat:=Int.toNat (1:Int);some (aa.ag [(0:Int)≤(32:Int),(0:Int)≤(1:Int)∧c1<n,c1+s<l] (aa.leaf aj.ret ([own 0 1 s n,int IntKind.u64 (↑x:Int),int IntKind.i64 (2:Int)],[((0:Nat),ah.mk true true 1 l fun j↦if(j==c1+s)=true then int IntKind.u32 (IntKind.u32.wrap ((↑x:Int).fdiv ((2:Int)^min (Int.toNat (32:Int)) IntKind.u64.bits)))else ay z j)]))):=by kernel_rfl
theorem abX {x y:Nat} (K:Nat) (pre:aC):aA P yZ K [.int .u64 x,.int .u64 y] pre (aK (.int .u64 (Nat.gcd x y:Nat)) []):=by
 refine jq hT Sc rfl (of_decide_eq_true (by kernel_rfl)) rfl (fun _ c h0=>?_) K pre
 have hk0:∀{nx:Nat} k x,c.k0 k=some x→k<nx:=jk h0
 refine aq.hole [1,0] (by kernel_rfl) (aD.bf hT bh hm 60 [0,1] Yk (by kernel_rfl) fun s' hv=>bZ ?_)
 refine aq.gA (i:=0) (y:=part (au oK) [1,0,0,0]) (by kernel_rfl) [0,1] 0 hk0 (fun p:Nat×Nat=>[.int .u64 (p.1:Nat),.int .u64 (p.2:Nat)]) (fun _=>[]) (fun _=>rfl) (fun _=>trivial)
  (fun p=>Nat.gcd p.1 p.2=Nat.gcd x y) (fun p=>p.2) (x,y) hv rfl ?_
 rintro⟨m,n⟩ hg
 simp only at hg
 refine aq.bf hT bh hm 60 [0,1] W4 (by kernel_rfl) ?_
 simp only[aa.all,ax,bne_iff_ne,ne_eq,bne_eq_false_iff_eq]
 refine⟨fun hb=>⟨hb,fun s' hv=>?_⟩,fun hb s' hv=>eL (bZ ?_)⟩
 ·have hlt:=Nat.mod_lt m (show 0<n by omega)
  refine⟨(n,m%n),dw hv (by rw[←Int.ofNat_tmod]) rfl,?_,hlt⟩
  rw[←hg,Nat.gcd_comm m n,Nat.gcd_rec n m,Nat.gcd_comm]
 ·refine aD.Dv hT bh hm 60 (nx:=0) hv hk0 rfl trivial UF (by kernel_rfl) (by kernel_rfl) (bw ?_)
  have:n=0:=by omega
  rw[←hg,this,Nat.gcd_zero_right]
def P7:Spec:=bC fun l=>match l with
 |[.int .u64 x,.int .u64 y]=>some (aK (.int .u64 (Nat.gcd x.toNat y.toNat:Nat)) [0≤x,0≤y])
 |_=>none
theorem WS:∀K args pre r,P7 K args pre=some r→aA P yZ K args pre r:=by
 refine bW fun K args r hk hs _=>?_
 split at hs
 ·rename_i x y
  simp only[Option.some.injEq]at hs
  subst hs
  intro need
  obtain⟨h1,h2⟩:0≤x∧0≤y:=need
  obtain⟨a,rfl⟩:=Int.eq_ofNat_of_zero_le h1
  obtain⟨b,rfl⟩:=Int.eq_ofNat_of_zero_le h2
  exact abX K [] trivial
 ·simp at hs
def gF (z:Nat→Nat) (s x:Nat):Nat→Nat:=fun i=>if i=s then x%4294967296 else if i=s+1∧4294967296≤x then x/4294967296 else z i
def eR (x:Nat):Nat:=if x<4294967296 then 1 else 2
theorem afT {k s n l x:Nat} {z:Nat→Nat} {f:Nat→AV} (hx:x<2^64) (h1:eR x≤n) (hs:s+n≤l) (hf:∀i,i<l→f i=ay z i) (K:Nat):
  aA P xu K [.own k 1 s n,.int .u64 x] [(k,⟨true,true,1,l,f⟩)] ⟨.int .i64 (eR x:Nat),[(k,⟨true,true,1,l,ay (gF z s x)⟩)],[]⟩:=by
 refine me hT ak4 (args0:=[.own 0 1 s n,.int .u64 x]) (pre0:=[(0,⟨true,true,1,l,ay z⟩)]) (nx:=1) [(0,k)] (of_decide_eq_true (by kernel_rfl)) (by simp[gB]) ⟨⟨rfl,cy rfl rfl rfl⟩,⟨rfl,aI rfl⟩,trivial⟩ ⟨⟨k,_,rfl,by simp[look],fe rfl hf⟩,trivial⟩
  (fun a x h=>?_) (fun x o h=>?_) (fun _ c h0=>?_)
 ·simp only[aT,look]at h
  split at h
  ·simp only[Option.some.injEq]at h;subst h;exact⟨_,by simp[look];rfl⟩
  ·simp at h
 ·simp only[look]at h
  split at h
  ·rename_i he
   have:k=x:=by simpa using he
   subst this
   exact .inl ⟨_,by simp[look];rfl⟩
  ·simp at h
 have hk0:∀k x,c.k0 k=some x→k<1:=fun k x hk=>by
  have:=h0 k x hk
  simp only[aT,look]at this
  split at this
  ·rename_i h;simp at h;omega
  ·simp at this
 have key:∀{s':aF} {v:Int} {w:Nat→Nat},aX [0,1,4] s'=some ([.own 0 1 s n,.int .u64 x,.int .i64 v],[(0,⟨true,true,1,l,ay w⟩)])→v=(eR x:Nat)→w=gF z s x→
   ∃τ,ud [(0,k)] K [(k,⟨true,true,1,l,f⟩)] τ∧(DK T rZ τ [(k,⟨true,true,1,l,f⟩)] ⟨.int .i64 (eR x:Nat),[(k,⟨true,true,1,l,ay (gF z s x)⟩)],[]⟩ s'∨uO T rZ τ [(k,⟨true,true,1,l,f⟩)] ⟨.int .i64 (eR x:Nat),[(k,⟨true,true,1,l,ay (gF z s x)⟩)],[]⟩ s'):=by
  intro s' v w hv hv1 hw
  refine⟨aT [(k,0)],qa,.inr (uC (vs:=[.own 0 1 s n,.int .u64 x,.int .i64 v]) (us:=[.int .i64 v]) (ws:=[.int .i64 (eR x:Nat)]) (os:=[(0,⟨true,true,1,l,ay w⟩)]) (ps:=[(k,⟨true,true,1,l,ay (gF z s x)⟩)]) hv (by kernel_rfl) ⟨⟨rfl,fR hv1⟩,trivial⟩ rfl (by simp[cj,ew,put]) ⟨⟨0,_,by simp[aT,look],rfl,fe rfl fun i hi=>by rw[hw]⟩,trivial⟩)⟩
 have h12:eR x=1∨eR x=2:=by unfold eR;split<;>simp
 have hset1:(fun j=>if j=s then AV.int .u32 (IntKind.u32.wrap (x:Int))else ay z j)=ay (bT z s (x%4294967296)):=by
  funext j;exact gm (by rw[jj]) j
 refine aq.hole [1,1,1] (by kernel_rfl) (aD.bf hT bh hm 60 [0,1,4] Y1 (by kernel_rfl) ?_)
 simp only[aa.all,ax,beq_iff_eq,beq_eq_false_iff_ne,ne_eq,kW,Int.toNat_zero,Nat.zero_add,hset1]
 refine⟨⟨by omega,by omega⟩,by omega,fun hb s' hv=>?_,fun hb s' hv=>bZ ?_⟩
 ·have hlt:x<4294967296:=by omega
  refine eU ⟨.inr rfl,key hv (by unfold eR;rw[if_pos hlt];rfl) ?_⟩
  funext i
  unfold bT gF
  by_cases h:i=s
  ·simp[h]
  ·simp[h];omega
 ·have hge:4294967296≤x:=by omega
  have h2:eR x=2:=by unfold eR;rw[if_neg (by omega)]
  refine aq.eH hT bh hm 60 (nx:=1) hv hk0 rfl ⟨⟨by omega,fun _ _=>rfl⟩,trivial⟩ [0,1,4] agP (by kernel_rfl) ?_
  simp only[aa.all,ax,beq_iff_eq,beq_eq_false_iff_ne,ne_eq,kW,show Int.toNat 1=1 from rfl]
  refine⟨⟨by omega,by omega,by omega⟩,fun s' hv=>?_⟩
  have hset2:(fun j=>if j=1+s then AV.int .u32 (IntKind.u32.wrap ((x:Int)/4294967296))else ay (bT z s (x%4294967296)) j)=ay (bT (bT z s (x%4294967296)) (1+s) (x/4294967296)):=by
   funext j;exact gm (by rw[wrap_u32 (by omega) (by omega)];omega) j
  rw[hset2]at hv
  refine eU ⟨.inr rfl,key hv (by rw[h2];rfl) ?_⟩
  funext i
  unfold bT gF
  by_cases h:i=s
  ·simp[h]
  ·by_cases h':i=1+s
   ·simp[h',hge,Nat.add_comm]
   ·simp[h,h'];omega
def Gl:Spec:=fun _ args pre=>match args,pre with
 |[.own k es s n,.int .u64 x],[(k',o)]=>if k==k'&&es==1&&o.row&&o.wr&&o.es==1 then some ⟨.int .i64 (eR x.toNat:Nat),[(k,⟨true,true,1,o.len,ay (gF (fun i=>numOf (o.f i)) s x.toNat)⟩)],[dD o.len o.f,0≤x∧x<2^64,eR x.toNat≤n,s+n≤o.len]⟩else none
 |_,_=>none
theorem afb:∀K args pre r,Gl K args pre=some r→aA P xu K args pre r:=by
 intro K args pre r hs
 unfold Gl at hs
 split at hs
 ·rename_i k es s n x k' o
  split at hs
  ·rename_i hc
   simp only[Bool.and_eq_true,beq_iff_eq]at hc
   obtain⟨⟨⟨⟨rfl,rfl⟩,h4⟩,h5⟩,h6⟩:=hc
   simp only[Option.some.injEq]at hs
   subst hs
   intro need
   obtain⟨h1,⟨h2,h2'⟩,h3,h7⟩:dD o.len o.f∧(0≤x∧x<2^64)∧eR x.toNat≤n∧s+n≤o.len:=need
   obtain⟨row,wr,es,len,f⟩:=o
   simp only at h1 h4 h5 h6 h7
   subst h4 h5 h6
   obtain⟨x,rfl⟩:=Int.eq_ofNat_of_zero_le h2
   refine afT (z:=fun i=>numOf (f i)) (by omega) h3 h7 (fun i hi=>?_) K trivial
   obtain⟨z,g1,g2⟩:=h1 i hi
   simp[g2,numOf,ay]
  ·simp at hs
 ·simp at hs
def QC:Spec:=bC fun l=>match l with
 |[.int .u64 x,.int .u64 y,.int .u64 z]=>some (aK (.tuple [.int .u64 ((x+y+z)%18446744073709551616),.int .u64 ((x+y+z)/18446744073709551616)]) [0≤x,0≤y,0≤z∧z≤1])
 |_=>none
theorem TT:∀K args pre r,QC K args pre=some r→aA P HR K args pre r:=by
 refine bW fun K args r hk hs _=>?_
 split at hs
 ·rename_i x y z
  simp only[Option.some.injEq]at hs
  subst hs
  intro need
  obtain⟨h1,h2,h3,h4⟩:0≤x∧0≤y∧0≤z∧z≤1:=need
  refine⟨fun k o h=>by simp[look]at h,fun c D D' β w vs hw0 hMw hrel hD hK hv=>.inr ?_⟩
  match vs,hv with
  |[a,b,d],hv=>
   obtain⟨ha,hb,hd,_⟩:=hv
   have ha:=(ha.bq).int
   have hb:=(hb.bq).int
   have hd:=(hd.bq).int
   subst ha hb hd
   refine⟨.tuple #[.int .u64 ((x+y+z)%18446744073709551616),.int .u64 ((x+y+z)/18446744073709551616)],?_,β,?_,cw.refl _ _ _,[_,_],rfl,.bN (.int .nil) rfl,.bN (.int .nil) rfl,trivial⟩
   ·rw[run_callFunc_extern (e:=add64Entry) ajy (by kernel_rfl) (by kernel_rfl) (by kernel_rfl) (by rfl)]
    rw[run_add64 x y z h1 h2 h3 h4]
    rfl
   ·exact hrel.kO hD
 ·simp at hs
end Go.Am.B
