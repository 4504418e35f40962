/- natural.Add. -/
import Derived.Test.YtppeigelbecpbaaGreatB1
set_option linter.unusedVariables false
namespace Go.Am.B
open Go Go.Am.N AV
theorem aff:aO P uw iE (au iE):=aQ af9 (by kernel_rfl) (by kernel_rfl) (by kernel_rfl)
theorem ZL {n m:Nat} {z y:Nat→Nat}:aH T G1 [13] 30 [0,1,5,6,20,21,22] (before (au iE) [1,1,1,1,0,1]) ⟨aN 0 [.ak 1 n (ay z),.ak 1 m (ay y)],[],0⟩=
  let c10:Int:=(↑m:Int);let c9:Int:=(↑n:Int);let c8:AV:=int IntKind.i64 (0:Int);let c7:AV:=int IntKind.u64 (0:Int);let c6:AV:=int IntKind.u32 (0:Int);let c5:Int:=(2:Int)^47;let c4:AV:=ak 1 n fun a↦int IntKind.u32 (↑(z a):Int);let c3:AV:=ak 1 m fun a↦int IntKind.u32 (↑(y a):Int);let c2:Int:=IntKind.i64.wrap (c10+(1:Int));let c1:Int:=IntKind.i64.wrap (c9+(1:Int));some (aa.fork (decide (c9<c10)) (aa.ag [(0:Int)≤c2∧c2≤c2∧c2≤c5∧c2*(↑(4:Nat):Int)≤c5] (aa.leaf aj.normal ([c3,c4,own 53248 1 0 c2.toNat,c7,c3,int IntKind.i64 c10,c8],[((53248:Nat),ah.mk true true 1 c2.toNat fun x↦c6)]))) (aa.ag [(0:Int)≤c1∧c1≤c1∧c1≤c5∧c1*(↑(4:Nat):Int)≤c5] (aa.leaf aj.normal ([c4,c3,own 36864 1 0 c1.toNat,c7,c4,int IntKind.i64 c9,c8],[((36864:Nat),ah.mk true true 1 c1.toNat fun x↦c6)])))):=by kernel_rfl
abbrev By:List Nat:=[1,1,1,1,0,1]
abbrev rR:List Nat:=[0,1,5,6,20,21,22]
theorem ain {n m i c:Nat} {z y o:Nat→Nat}:aH T G1 [23,34] 30 [0,1,5,6,20,21,22] [part (au iE) [1,1,1,1,0,1,0,0]] ⟨aA [0,1,5,6,20,21,22] [.ak 1 n (ay z),.ak 1 m (ay y),.own 7 1 0 (n+1),.int .u64 c,.ak 1 n (ay z),.int .i64 n,.int .i64 i],[(7,⟨true,true,1,n+1,ay o⟩)],8⟩=
  let c12:AV:=int IntKind.i64 (↑n:Int);let c10:Int:=(2:Int)^min (Int.toNat (32:Int)) IntKind.u64.bits;let c8:Nat:=n+1;let c4:AV:=ak 1 m fun a↦int IntKind.u32 (↑(y a):Int);let c3:Int:=(↑i:Int);let c1:AV:=ak 1 n fun a↦int IntKind.u32 (↑(z a):Int);let c11:Prop:=(0:Int)≤c3;let c7:List AV:=[c1,c12,int IntKind.i64 (IntKind.i64.wrap (c3+(1:Int)))];let c6:Nat:=c3.toNat+0;let c5:AV:=own 7 1 0 c8;let c2:Int:=IntKind.u64.wrap ((↑c:Int)+IntKind.u64.wrap (↑(z c3.toNat):Int));let c13:List Prop:=[c11∧c3.toNat<c8,c6<c8];let c9:Int:=IntKind.u64.wrap (c2+IntKind.u64.wrap (↑(y c3.toNat):Int));some (aa.fork (decide (c3<(↑n:Int))) (aa.ag [c11∧c3.toNat<n] (aa.fork (decide (c3<(↑m:Int))) (aa.ag [c11∧c3.toNat<m] (aa.ag c13 (aa.ag [(0:Int)≤(32:Int)] (aa.leaf aj.normal (c1::c4::c5::int IntKind.u64 (c9.fdiv c10)::c7,[((7:Nat),ah.mk true true 1 c8 fun j↦if(j==c6)=true then int IntKind.u32 (IntKind.u32.wrap c9)else ay o j)]))))) (aa.ag c13 (aa.ag [(0:Int)≤(32:Int)] (aa.leaf aj.normal (c1::c4::c5::int IntKind.u64 (c2.fdiv c10)::c7,[((7:Nat),ah.mk true true 1 c8 fun j↦if(j==c6)=true then int IntKind.u32 (IntKind.u32.wrap c2)else ay o j)])))))) (aa.leaf (aj.exit 0) ([c1,c4,c5,int IntKind.u64 (↑c:Int),c1,c12,int IntKind.i64 c3],[((7:Nat),ah.mk true true 1 c8 fun a↦int IntKind.u32 (↑(o a):Int))]))):=by kernel_rfl
theorem Z3 {n m i c:Nat} {z y o:Nat→Nat}:cm T G1 [] 30 iE (behind (au iE) [1,1,1,1,0,1]) ⟨aA [0,1,5,6,20,21,22] [.ak 1 n (ay z),.ak 1 m (ay y),.own 7 1 0 (n+1),.int .u64 c,.ak 1 n (ay z),.int .i64 n,.int .i64 i],[(7,⟨true,true,1,n+1,ay o⟩)],8⟩=
  let c3:Nat:=n+1;let c2:AV:=int IntKind.u32 (IntKind.u32.wrap (↑c:Int));let c1:Nat:=(↑n:Int).toNat+0;some (aa.ag [(0:Int)≤(↑n:Int)∧(↑n:Int).toNat<c3,c1<c3] (aa.ag [dB c3 fun i↦if(i+0==c1)=true then c2 else ay o (i+0),c3<2^62] (aa.leaf aj.ret [mag (val c3 fun i↦numOf (if(i+0==c1)=true then c2 else ay o (i+0)))]))):=by kernel_rfl
theorem Pr {i m:Nat} {y:Nat→Nat}:val (min (i+1) m) y=val (min i m) y+(if i<m then y i else 0)*2^(32*i):=by
 by_cases h:i<m
 ·rw[Nat.min_eq_left (by omega),Nat.min_eq_left (by omega),if_pos h];rfl
 ·rw[Nat.min_eq_right (by omega),Nat.min_eq_right (by omega),if_neg h];simp
theorem ZA {i c zi yi vz vy:Nat} {o o':Nat→Nat} (hv:val i o+c*2^(32*i)=vz+vy) (ho:∀j,j<i→o' j=o j) (h1:o' i=(c+zi+yi)%4294967296):
  val (i+1) o'+(c+zi+yi)/4294967296*2^(32*(i+1))=(vz+zi*2^(32*i))+(vy+yi*2^(32*i)):=by
 rw[val,val_congr ho,h1,gz]
 have:=Et (B:=2^(32*i)) (c:=c) (z:=zi) (y:=yi) rfl hv
 omega
theorem Ph {c0:Ctx} (h0:c0.k0=aW) {n m:Nat} {z y:Nat→Nat} (hn:n<2^40) (hmn:m≤n) (hz:∀i,i<n→z i<2^32) (hy:∀i,i<m→y i<2^32) {K L:Nat} {f0:Nat→AV} {s':aF}
  (hv:aX rR s'=some ([.ak 1 n (ay z),.ak 1 m (ay y),.own K 1 0 L,.int .u64 0,.ak 1 n (ay z),.int .i64 n,.int .i64 0],[(K,⟨true,true,1,L,f0⟩)])) (hL:L=n+1) (hf:f0=ay fun _=>0):
  aq P c0 iE.ntmps (part (au iE) By) s' (dz (fun s''=>aD P c0 iE.ntmps (behind (au iE) By) s'' (Fin T iE (.mag (val n z+val m y)))) (Fin T iE (.mag (val n z+val m y)))):=by
 subst hL hf
 refine aq.g8 (i:=0) (y:=part (au iE) [1,1,1,1,0,1,0,0]) (by kernel_rfl)
  (fun p:Nat×Nat×(Nat→Nat)=>⟨aA rR [.ak 1 n (ay z),.ak 1 m (ay y),.own 7 1 0 (n+1),.int .u64 (p.2.1:Nat),.ak 1 n (ay z),.int .i64 n,.int .i64 (p.1:Nat)],[(7,⟨true,true,1,n+1,ay p.2.2⟩)],8⟩)
  (fun p=>p.1≤n∧p.2.1≤1∧(∀j,j<n+1→p.2.2 j<2^32)∧val p.1 p.2.2+p.2.1*2^(32*p.1)=val p.1 z+val (min p.1 m) y)
  (fun p=>n-p.1) (0,0,fun _=>0)
  (cX [(7,K)] hv h0 (by simp[gD]) ⟨⟨rfl,aI rfl⟩,⟨rfl,aI rfl⟩,⟨rfl,cw rfl rfl rfl⟩,⟨rfl,aI rfl⟩,⟨rfl,aI rfl⟩,⟨rfl,aI rfl⟩,⟨rfl,aI rfl⟩,trivial⟩
   ⟨⟨K,_,rfl,by simp[look],ji rfl fun i _=>aI rfl⟩,trivial⟩)
  ⟨by simp,by simp,fun j _=>by simp,by simp[val]⟩ ?_
 rintro⟨i,c,o⟩ ⟨hi,hc,ho,hval⟩
 simp only at hi hc ho hval
 refine aq.bf hT gj hm 30 rR ain (by kernel_rfl) ?_
 have key:∀{yi:Nat} {s':aF} {u v:Int} {f':Nat→AV},i<n→yi=(if i<m then y i else 0)→yi<2^32→
   aX rR s'=some ([.ak 1 n (ay z),.ak 1 m (ay y),.own 7 1 0 (n+1),.int .u64 u,.ak 1 n (ay z),.int .i64 n,.int .i64 v],[(7,⟨true,true,1,n+1,f'⟩)])→
   u=((c+z i+yi)/4294967296:Nat)→v=(i+1:Nat)→(∀j,f' j=if j=i then .int .u32 ((c+z i+yi)%4294967296:Nat)else ay o j)→
   ∃k:Nat×Nat×(Nat→Nat),(∃ρ,Le c0 ρ s' ⟨aA rR [.ak 1 n (ay z),.ak 1 m (ay y),.own 7 1 0 (n+1),.int .u64 (k.2.1:Nat),.ak 1 n (ay z),.int .i64 n,.int .i64 (k.1:Nat)],[(7,⟨true,true,1,n+1,ay k.2.2⟩)],8⟩)∧
    (k.1≤n∧k.2.1≤1∧(∀j,j<n+1→k.2.2 j<2^32)∧val k.1 k.2.2+k.2.1*2^(32*k.1)=val k.1 z+val (min k.1 m) y)∧n-k.1<n-i:=by
  intro yi s' u v f' hin hyi hyl hv hu hv1 hf
  have hzi:=hz i hin
  refine⟨(i+1,(c+z i+yi)/4294967296,fun j=>if j=i then(c+z i+yi)%4294967296 else o j),?_,⟨by simp;omega,by simp;omega,fun j hj=>?_,?_⟩,by simp;omega⟩
  ·exact cX [(7,7)] hv h0 rfl ⟨⟨rfl,aI rfl⟩,⟨rfl,aI rfl⟩,⟨rfl,cw rfl rfl rfl⟩,⟨rfl,fN hu⟩,⟨rfl,aI rfl⟩,⟨rfl,aI rfl⟩,⟨rfl,fN hv1⟩,trivial⟩
    ⟨⟨7,_,rfl,rfl,ji rfl fun j _=>by
     rw[hf j];simp only[ay]
     by_cases hj:j=i
     ·simp only[if_pos hj];exact aI rfl
     ·simp only[if_neg hj];exact aI rfl⟩,trivial⟩
  ·simp only
   split
   ·omega
   ·exact ho j hj
  ·simp only
   rw[Pr,←hyi]
   exact ZA hval (fun j hj=>if_neg (by omega)) (if_pos rfl)
 have fin:i=n→∀s',aX rR s'=some ([.ak 1 n (ay z),.ak 1 m (ay y),.own 7 1 0 (n+1),.int .u64 (c:Nat),.ak 1 n (ay z),.int .i64 n,.int .i64 (i:Nat)],[(7,⟨true,true,1,n+1,ay o⟩)])→
   aD P c0 iE.ntmps (behind (au iE) By) s' (Fin T iE (.mag (val n z+val m y))):=by
  intro hin s' hv
  subst hin
  rw[Nat.min_eq_right hmn]at hval
  have e:∀j,j<i+1→numOf (if(j+0==(i:Int).toNat+0)=true then .int .u32 (IntKind.u32.wrap (c:Int))else ay o (j+0))=if j=i then c else o j:=by
   intro j hj
   have:=ho j hj
   by_cases h:j=i
   ·simp[h,numOf,jr];omega
   ·simp[h,numOf,ay]
  refine aD.weak (by kernel_rfl) (cX (vs:=[.ak 1 i (ay z),.ak 1 m (ay y),.own 7 1 0 (i+1),.int .u64 (c:Nat),.ak 1 i (ay z),.int .i64 i,.int .i64 (i:Nat)])
    (ps:=[(7,⟨true,true,1,i+1,ay o⟩)]) (nx:=8) [(7,7)] hv h0 rfl ⟨⟨rfl,aI rfl⟩,⟨rfl,aI rfl⟩,⟨rfl,cw rfl rfl rfl⟩,⟨rfl,aI rfl⟩,⟨rfl,aI rfl⟩,⟨rfl,aI rfl⟩,⟨rfl,aI rfl⟩,trivial⟩
    ⟨⟨7,_,rfl,rfl,ji rfl fun j _=>aI rfl⟩,trivial⟩)
   (aD.fin hT gj hm 30 Z3 (by kernel_rfl) ?_)
  simp only[aa.all,ax]
  refine⟨⟨by omega,by omega⟩,⟨fun j hj=>?_,by omega⟩,?_⟩
  ·have:=ho j hj
   by_cases h:j=i
   ·exact⟨c,by omega,by simp[h,jr];omega⟩
   ·exact⟨o j,this,by simp[h,ay]⟩
  ·rw[val_congr e]
   refine dc (congrArg AV.mag ?_)
   rw[←hval,val,val_congr (y:=o) fun j hj=>if_neg (by omega),if_pos rfl]
 simp only[aa.all,ax,decide_eq_true_eq,decide_eq_false_iff_not,Int.toNat_natCast,Nat.add_zero,beq_iff_eq,nh,k9,kB]
 refine⟨fun hb=>?_,fun hb s' hv=>fin (by omega) s' hv⟩
 have h1:i<n:=by omega
 have hzi:=hz i h1
 refine⟨by omega,fun hb2=>?_,fun hb2=>?_⟩
 ·have h2:i<m:=by omega
  have hyi:=hy i h2
  refine⟨by omega,by omega,by omega,fun s' hv=>key (yi:=y i) h1 (by rw[if_pos h2]) hyi hv (by omega) (by rw[wrap_i64 (by omega) (by omega)];omega) fun j=>?_⟩
  split
  ·congr 1;omega
  ·rfl
 ·have h2:¬i<m:=by omega
  refine⟨by omega,by omega,fun s' hv=>key (yi:=0) h1 (by rw[if_neg h2]) (by omega) hv (by omega) (by rw[wrap_i64 (by omega) (by omega)];omega) fun j=>?_⟩
  split
  ·congr 1;omega
  ·rfl
theorem TE {n m:Nat} {z y:Nat→Nat} (hz:∀i,i<n→z i<2^32) (hy:∀i,i<m→y i<2^32) (hn:n<2^40) (hm':m<2^40) (K:Nat) (pre:aC):
  aB P uw K [.ak 1 n (ay z),.ak 1 m (ay y)] pre (aK (.mag (val n z+val m y)) []):=by
 refine jk hT aff rfl (of_decide_eq_true (by kernel_rfl)) rfl (fun _ c h0=>?_) K pre
 refine aq.hole By (by kernel_rfl) (aD.bf hT gj hm 30 rR ZL (by kernel_rfl) ?_)
 simp only[aa.all,ax,decide_eq_true_eq,decide_eq_false_iff_not]
 have hw:∀k:Nat,k<2^40→IntKind.i64.wrap ((k:Int)+1)=((k+1:Nat):Int):=fun k hk=>by rw[wrap_i64 (by omega) (by omega)];omega
 rw[hw n hn,hw m hm']
 simp only[Int.toNat_natCast]
 refine⟨fun hb=>⟨by omega,fun s' hv=>?_⟩,fun hb=>⟨by omega,fun s' hv=>?_⟩⟩
 ·have:=Ph (m:=n) (y:=z) (z:=y) h0 hm' (by omega) hy hz hv rfl rfl
  rw[Nat.add_comm (val n z)];exact this
 ·exact Ph h0 hn (by omega) hz hy hv rfl rfl
def FU (A n B m:Nat):cJ:=aK (.mag (A+B)) [n<2^40,m<2^40]
theorem QK:∀K args pre r,bC (gP FU) K args pre=some r→aB P uw K args pre r:=
 bV (r4 fun _ _ _ _ K hz hy need=>TE hz hy need.1 need.2 K [])
end Go.Am.B
