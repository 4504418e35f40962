/- natural.Sub, natural.small, natural.raise. -/
import Derived.Test.YtppeigelbecpbaaGreatB3
set_option linter.unusedVariables false
namespace Go.Am.B
open Go Go.Am.N AV
theorem akS:aO P zK lP (au lP):=aQ Yf (by kernel_rfl) (by kernel_rfl) (by kernel_rfl)
theorem aa7:aO P zu pC (au pC):=aQ Tb (by kernel_rfl) (by kernel_rfl) (by kernel_rfl)
theorem WK:aO P wV l5 (au l5):=aQ agu (by kernel_rfl) (by kernel_rfl) (by kernel_rfl)
def G2:aR:=(rE,bC (gP BO))::G1
theorem ajD:aY P G2:=aG El gj
theorem ab7 {n m:Nat} {z y:Nat→Nat}:aH T G2 [15] 30 [1,6,7,21,22,23,4,5] (before (au lP) [1,1,1,1,1,0,1]) ⟨aN 0 [.ak 1 n (ay z),.ak 1 m (ay y)],[],0⟩=
  let c5:AV:=tuple [];let c4:AV:=int IntKind.i64 (0:Int);let c3:Nat:=val m fun i↦numOf (ay y i);let c2:Int:=(↑n:Int);let c1:Int:=cA (val n fun i↦numOf (ay z i)) c3;some (aa.ag [dB n (ay z),dB m (ay y),n<2^40,m<2^40] (aa.fork (decide (c1<(0:Int))) (aa.leaf aj.ret ([ak 1 m fun a↦int IntKind.u32 (↑(y a):Int),c5,c5,c5,c5,c5,nil,int IntKind.i64 (7:Int)],[])) (aa.ag [dB m (ay y),m<2^62] (aa.ag [(0:Int)≤c2∧c2≤c2∧c2≤(2:Int)^47∧c2*(↑(4:Nat):Int)≤(2:Int)^47] (aa.leaf aj.normal ([mag c3,own 45056 1 0 c2.toNat,int IntKind.u64 (0:Int),ak 1 n fun a↦int IntKind.u32 (↑(z a):Int),int IntKind.i64 c2,c4,nil,c4],[((45056:Nat),ah.mk true true 1 c2.toNat fun x↦int IntKind.u32 (0:Int))])))))):=by kernel_rfl
theorem akR {n B i w:Nat} {z o:Nat→Nat}:aH T [] [24,32] 30 [1,6,7,21,22,23,4,5] [part (au lP) [1,1,1,1,1,0,1,0,0]] ⟨aA [1,6,7,21,22,23,4,5] [.mag B,.own 7 1 0 n,.int .u64 w,.ak 1 n (ay z),.int .i64 n,.int .i64 i,.nil,.int .i64 0],[(7,⟨true,true,1,n,ay o⟩)],8⟩=
  let c13:AV:=int IntKind.i64 (↑n:Int);let c12:List AV:=[nil,int IntKind.i64 (0:Int)];let c9:Int:=(2:Int)^min (Int.toNat (63:Int)) IntKind.u64.bits;let c8:AV:=ak 1 n fun a↦int IntKind.u32 (↑(z a):Int);let c5:AV:=own 7 1 0 n;let c4:Int:=(↑i:Int);let c2:List AV:=c8::c13::int IntKind.i64 (IntKind.i64.wrap (c4+(1:Int)))::c12;let c1:Nat:=c4.toNat;let c11:Int:=IntKind.u64.wrap (↑(z c1):Int);let c10:Prop:=(0:Int)≤c4∧c1<n;let c7:Nat:=c1+0;let c6:Int:=IntKind.u64.wrap (c11-(↑w:Int));let c3:Int:=IntKind.u64.wrap (c11-IntKind.u64.wrap ((↑w:Int)+IntKind.u64.wrap (↑(az B c1):Int)));some (aa.fork (decide (c4<(↑n:Int))) (aa.ag [c10] (aa.fork (decide (c4<(↑(nl B):Int))) (aa.ag [(0:Int)≤c4∧c1<nl B] (aa.ag [c10,c7<n] (aa.ag [(0:Int)≤(63:Int)] (aa.leaf aj.normal (mag B::c5::int IntKind.u64 (c3.fdiv c9)::c2,[((7:Nat),ah.mk true true 1 n fun j↦if(j==c7)=true then int IntKind.u32 (IntKind.u32.wrap c3)else ay o j)]))))) (aa.ag [c10,c7<n] (aa.ag [(0:Int)≤(63:Int)] (aa.leaf aj.normal (mag B::c5::int IntKind.u64 (c6.fdiv c9)::c2,[((7:Nat),ah.mk true true 1 n fun j↦if(j==c7)=true then int IntKind.u32 (IntKind.u32.wrap c6)else ay o j)])))))) (aa.leaf (aj.exit 0) (mag B::c5::int IntKind.u64 (↑w:Int)::c8::c13::int IntKind.i64 c4::c12,[((7:Nat),ah.mk true true 1 n fun a↦int IntKind.u32 (↑(o a):Int))]))):=by kernel_rfl
theorem Xa {n B i w:Nat} {z o:Nat→Nat}:cm T G1 [] 30 lP (behind (au lP) [1,1,1,1,1,0,1]) ⟨aA [1,6,7,21,22,23,4,5] [.mag B,.own 7 1 0 n,.int .u64 w,.ak 1 n (ay z),.int .i64 n,.int .i64 i,.nil,.int .i64 0],[(7,⟨true,true,1,n,ay o⟩)],8⟩=
  some (aa.ag [dB n fun i↦ay o (i+0),n<2^62] (aa.leaf aj.ret [mag (val n fun i↦numOf (ay o (i+0))),int IntKind.i64 (0:Int)])):=by kernel_rfl
theorem Yy {n b:Nat} {z:Nat→Nat}:aH T G1 [] 30 [0,1,6,7,8] (before (au pC) [1,1,1,0,1]) ⟨aN 0 [.ak 1 n (ay z),.int .u32 b],[],0⟩=
  let c1:Int:=(↑n:Int);some (aa.ag [(0:Int)≤c1∧c1≤c1∧c1≤(2:Int)^47∧c1*(↑(4:Nat):Int)≤(2:Int)^47] (aa.leaf aj.normal ([ak 1 n fun a↦int IntKind.u32 (↑(z a):Int),int IntKind.u32 (↑b:Int),own 16384 1 0 c1.toNat,int IntKind.u64 (0:Int),int IntKind.i64 (IntKind.i64.wrap (c1-(1:Int)))],[((16384:Nat),ah.mk true true 1 c1.toNat fun x↦int IntKind.u32 (0:Int))]))):=by kernel_rfl
theorem Xn {n b k r:Nat} {z o:Nat→Nat}:aH T [] [16] 30 [0,1,6,7,8] [part (au pC) [1,1,1,0,1,0,0]] ⟨aA [0,1,6,7,8] [.ak 1 n (ay z),.int .u32 b,.own 7 1 0 n,.int .u64 r,.int .i64 ((k:Int)-1)],[(7,⟨true,true,1,n,ay o⟩)],8⟩=
  let c8:AV:=int IntKind.u32 (↑b:Int);let c6:AV:=own 7 1 0 n;let c4:AV:=ak 1 n fun a↦int IntKind.u32 (↑(z a):Int);let c3:Int:=IntKind.u64.wrap (↑b:Int);let c2:Int:=(↑k:Int)-(1:Int);let c7:Prop:=(0:Int)≤c2∧c2.toNat<n;let c5:Nat:=c2.toNat+0;let c1:Int:=IntKind.u64.wrap (↑(BitVec.ofInt IntKind.u64.bits (IntKind.u64.wrap ((↑r:Int)*(2:Int)^min (Int.toNat (32:Int)) IntKind.u64.bits))|||BitVec.ofInt IntKind.u64.bits (IntKind.u64.wrap (↑(z c2.toNat):Int))).toNat:Int);some (aa.fork (decide (c2≥(0:Int))) (aa.ag [(0:Int)≤(32:Int),c7] (aa.ag [c3≠(0:Int),c7,c5<n] (aa.ag [c3≠(0:Int)] (aa.leaf aj.normal ([c4,c8,c6,int IntKind.u64 (c1.tmod c3),int IntKind.i64 (IntKind.i64.wrap (c2-(1:Int)))],[((7:Nat),ah.mk true true 1 n fun j↦if(j==c5)=true then int IntKind.u32 (IntKind.u32.wrap (IntKind.u64.wrap (c1.tdiv c3)))else ay o j)]))))) (aa.leaf (aj.exit 0) ([c4,c8,c6,int IntKind.u64 (↑r:Int),int IntKind.i64 c2],[((7:Nat),ah.mk true true 1 n fun a↦int IntKind.u32 (↑(o a):Int))]))):=by kernel_rfl
theorem age {n b k r:Nat} {z o:Nat→Nat}:cm T G1 [] 30 pC (behind (au pC) [1,1,1,0,1]) ⟨aA [0,1,6,7,8] [.ak 1 n (ay z),.int .u32 b,.own 7 1 0 n,.int .u64 r,.int .i64 ((k:Int)-1)],[(7,⟨true,true,1,n,ay o⟩)],8⟩=
  some (aa.ag [dB n fun i↦ay o (i+0),n<2^62] (aa.leaf aj.ret [mag (val n fun i↦numOf (ay o (i+0))),int IntKind.u32 (IntKind.u32.wrap (↑r:Int))])):=by kernel_rfl
theorem Z2 {n s:Nat} {z:Nat→Nat}:aH T G1 [] 30 [0,1,5,6,13,14,15] (before (au l5) [1,1,1,0,1]) ⟨aN 0 [.ak 1 n (ay z),.int .i64 s],[],0⟩=
  let c2:AV:=ak 1 n fun a↦int IntKind.u32 (↑(z a):Int);let c1:Int:=IntKind.i64.wrap ((↑n:Int)+(1:Int));some (aa.ag [(0:Int)≤c1∧c1≤c1∧c1≤(2:Int)^47∧c1*(↑(4:Nat):Int)≤(2:Int)^47] (aa.leaf aj.normal ([c2,int IntKind.i64 (↑s:Int),own 16384 1 0 c1.toNat,int IntKind.u64 (0:Int),c2,int IntKind.i64 (↑n:Int),int IntKind.i64 (0:Int)],[((16384:Nat),ah.mk true true 1 c1.toNat fun x↦int IntKind.u32 (0:Int))]))):=by kernel_rfl
theorem abw {n s i c:Nat} {z o:Nat→Nat}:aH T [] [16] 30 [0,1,5,6,13,14,15] [part (au l5) [1,1,1,0,1,0,0]] ⟨aA [0,1,5,6,13,14,15] [.ak 1 n (ay z),.int .i64 s,.own 7 1 0 (n+1),.int .u64 c,.ak 1 n (ay z),.int .i64 n,.int .i64 i],[(7,⟨true,true,1,n+1,ay o⟩)],8⟩=
  let c8:AV:=int IntKind.i64 (↑s:Int);let c7:AV:=int IntKind.i64 (↑n:Int);let c4:Nat:=n+1;let c3:Int:=(↑i:Int);let c2:AV:=ak 1 n fun a↦int IntKind.u32 (↑(z a):Int);let c6:Nat:=c3.toNat+0;let c5:AV:=own 7 1 0 c4;let c1:Int:=IntKind.u64.wrap (↑(BitVec.ofInt IntKind.u64.bits (↑c:Int)|||BitVec.ofInt IntKind.u64.bits (IntKind.u64.wrap (IntKind.u64.wrap (↑(z c3.toNat):Int)*(2:Int)^min (↑s:Int).toNat IntKind.u64.bits))).toNat:Int);some (aa.fork (decide (c3<(↑n:Int))) (aa.ag [(0:Int)≤c3∧c3.toNat<n] (aa.ag [(0:Int)≤(↑s:Int)] (aa.ag [(0:Int)≤c3∧c3.toNat<c4,c6<c4] (aa.ag [(0:Int)≤(32:Int)] (aa.leaf aj.normal ([c2,c8,c5,int IntKind.u64 (c1.fdiv ((2:Int)^min (Int.toNat (32:Int)) IntKind.u64.bits)),c2,c7,int IntKind.i64 (IntKind.i64.wrap (c3+(1:Int)))],[((7:Nat),ah.mk true true 1 c4 fun j↦if(j==c6)=true then int IntKind.u32 (IntKind.u32.wrap c1)else ay o j)])))))) (aa.leaf (aj.exit 0) ([c2,c8,c5,int IntKind.u64 (↑c:Int),c2,c7,int IntKind.i64 c3],[((7:Nat),ah.mk true true 1 c4 fun a↦int IntKind.u32 (↑(o a):Int))]))):=by kernel_rfl
theorem XD {B x y r v w' t:Nat} (hr:r+y=x+w'*4294967296) (h:v=t):v+r*B+y*B=t+x*B+w'*(4294967296*B):=by
 subst h
 have:(r+y)*B=(x+w'*4294967296)*B:=by rw[hr]
 grind
theorem KM {x y:Nat} (hx:x<2^32) (hy:y≤2^32):∃r w:Nat,r<2^32∧w≤1∧r+y=x+w*4294967296∧((x:Int)-y)%2^64%2^32=r∧((x:Int)-y)%2^64/9223372036854775808=w:=by
 rcases Nat.lt_or_ge x y with h|h
 ·exact⟨x+4294967296-y,1,by omega,by omega,by omega,by omega,by omega⟩
 ·exact⟨x-y,0,by omega,by omega,by omega,by omega,by omega⟩
abbrev s8:List Nat:=[1,6,7,21,22,23,4,5]
abbrev Cc (B n:Nat) (z:Nat→Nat) (K w i:Nat):List AV:=[.mag B,.own K 1 0 n,.int .u64 w,.ak 1 n (ay z),.int .i64 n,.int .i64 i,.nil,.int .i64 0]
theorem WT {n m:Nat} {z y:Nat→Nat} (hz:∀i,i<n→z i<2^32) (hy:∀i,i<m→y i<2^32) (hn:n<2^40) (hm':m<2^40) (K:Nat) (pre:aC):
  aB P zK K [.ak 1 n (ay z),.ak 1 m (ay y)] pre (aK (.tuple [.mag (val n z-val m y),.int .i64 (if val n z<val m y then 7 else 0)]) []):=by
 refine jk hT akS rfl (of_decide_eq_true (by kernel_rfl)) rfl (fun _ c h0=>?_) K pre
 refine aq.hole [1,1,1,1,1,0,1] (by kernel_rfl) (aD.bf hT ajD hm 30 s8 ab7 (by kernel_rfl) ?_)
 have hA:nl (val n z)≤n:=cT.2 (fq hz)
 have hAlt:=fq hz
 generalize hB:val m y=B at*
 simp only[aa.all,ax,decide_eq_true_eq,decide_eq_false_iff_not,jn,hB]
 refine⟨⟨fR hz,fR hy,by omega,by omega⟩,fun hb s' hv=>?_,fun hb=>⟨⟨fR hy,by omega⟩,by omega,fun s' hv=>?_⟩⟩
 ·have h1:val n z<B:=by
   unfold cA at hb
   split at hb
   ·assumption
   ·split at hb<;>omega
  refine fZ (us:=[.nil,.int .i64 7]) (.inr rfl) hv (by kernel_rfl) ⟨jV.trans (dc (congrArg AV.mag (by omega))),bw (by rw[if_pos h1]),trivial⟩
 have hBA:B≤val n z:=by
  unfold cA at hb
  split at hb<;>omega
 have hnB:nl B≤n:=Nat.le_trans (gB hBA) hA
 refine aq.g8 (i:=0) (y:=part (au lP) [1,1,1,1,1,0,1,0,0]) (by kernel_rfl)
  (fun p:Nat×Nat×(Nat→Nat)=>⟨aA s8 (Cc B n z 7 p.2.1 p.1),[(7,⟨true,true,1,n,ay p.2.2⟩)],8⟩)
  (fun p=>p.1≤n∧p.2.1≤1∧(∀j,j<n→p.2.2 j<2^32)∧val p.1 p.2.2+val (min p.1 (nl B)) (az B)=val p.1 z+p.2.1*2^(32*p.1))
  (fun p=>n-p.1) (0,0,fun _=>0)
  (cX [(7,45056)] hv h0 rfl ⟨⟨rfl,aI rfl⟩,⟨rfl,cw rfl rfl rfl⟩,⟨rfl,aI rfl⟩,⟨rfl,aI rfl⟩,⟨rfl,aI rfl⟩,⟨rfl,aI rfl⟩,⟨rfl,aI rfl⟩,⟨rfl,aI rfl⟩,trivial⟩
   ⟨⟨_,_,rfl,rfl,e9 rfl fun j _=>rfl⟩,trivial⟩)
  ⟨by simp,by simp,fun j _=>by simp,by simp[val]⟩ ?_
 rintro⟨i,w,o⟩ ⟨hi,hw,ho,hval⟩
 simp only at hi hw ho hval
 refine aq.bf hT bk hm 30 s8 akR (by kernel_rfl) ?_
 have key:∀{yi:Nat} {s':aF} {u v:Int} {f':Nat→AV} {r w':Nat},i<n→yi=(if i<nl B then az B i else 0)→r<2^32→w'≤1→r+(w+yi)=z i+w'*4294967296→
   aX s8 s'=some ([.mag B,.own 7 1 0 n,.int .u64 u,.ak 1 n (ay z),.int .i64 n,.int .i64 v,.nil,.int .i64 0],[(7,⟨true,true,1,n,f'⟩)])→
   u=(w':Nat)→v=(i+1:Nat)→(∀j,f' j=ay (bU o i r) j)→
   ∃k:Nat×Nat×(Nat→Nat),(∃ρ,Le c ρ s' ⟨aA s8 (Cc B n z 7 k.2.1 k.1),[(7,⟨true,true,1,n,ay k.2.2⟩)],8⟩)∧
    (k.1≤n∧k.2.1≤1∧(∀j,j<n→k.2.2 j<2^32)∧val k.1 k.2.2+val (min k.1 (nl B)) (az B)=val k.1 z+k.2.1*2^(32*k.1))∧n-k.1<n-i:=by
  intro yi s' u v f' r w' hin hyi hr hw1 hrw hv hu hv1 hf
  refine⟨(i+1,w',bU o i r),cX [(7,7)] hv h0 rfl ⟨⟨rfl,aI rfl⟩,⟨rfl,cw rfl rfl rfl⟩,⟨rfl,fN hu⟩,⟨rfl,aI rfl⟩,⟨rfl,aI rfl⟩,⟨rfl,fN hv1⟩,⟨rfl,aI rfl⟩,⟨rfl,aI rfl⟩,trivial⟩
   ⟨⟨_,_,rfl,rfl,e9 rfl fun j _=>hf j⟩,trivial⟩,⟨by simp only;omega,hw1,gT hr ho,?_⟩,by simp only;omega⟩
  simp only
  rw[Pr,←hyi,qO,gz]
  show _=val i z+z i*2^(32*i)+_
  have:=XD (B:=2^(32*i)) hrw hval
  rw[Nat.add_mul]at this
  omega
 have fin:i=n→∀s',aX s8 s'=some (Cc B n z 7 w i,[(7,⟨true,true,1,n,ay o⟩)])→
   aD P c lP.ntmps (behind (au lP) [1,1,1,1,1,0,1]) s' (Fin T lP (.tuple [.mag (val n z-B),.int .i64 (if val n z<B then 7 else 0)])):=by
  intro hin s' hv
  subst hin
  rw[Nat.min_eq_right hnB,fJ]at hval
  have hlt:=fq ho
  have hw0:w=0:=by
   rcases Nat.eq_zero_or_pos w with h|h
   ·exact h
   ·have:w=1:=by omega
    subst this
    omega
  subst hw0
  refine aD.weak (by kernel_rfl) (cX (vs:=Cc B i z 7 0 i) (ps:=[(7,⟨true,true,1,i,ay o⟩)]) (nx:=8) [(7,7)] hv h0 rfl
    ⟨⟨rfl,aI rfl⟩,⟨rfl,cw rfl rfl rfl⟩,⟨rfl,aI rfl⟩,⟨rfl,aI rfl⟩,⟨rfl,aI rfl⟩,⟨rfl,aI rfl⟩,⟨rfl,aI rfl⟩,⟨rfl,aI rfl⟩,trivial⟩
    ⟨⟨_,_,rfl,rfl,e9 rfl fun j _=>rfl⟩,trivial⟩)
   (aD.fin hT gj hm 30 Xa (by kernel_rfl) ?_)
  simp only[aa.all,ax,Nat.add_zero,jn]
  exact⟨⟨fR ho,by omega⟩,dc (congrArg AV.mag (by omega)),bw (by rw[if_neg (by omega)]),trivial⟩
 simp only[aa.all,ax,decide_eq_true_eq,decide_eq_false_iff_not,Int.toNat_natCast,Nat.add_zero,beq_iff_eq]
 refine⟨fun hb=>?_,fun hb s' hv=>fin (by omega) s' hv⟩
 have h1:i<n:=by omega
 have hzi:=hz i h1
 have hl:=de (N:=B) (i:=i)
 have e1:IntKind.u64.wrap (z i:Int)=(z i:Int):=bN (by omega) (by omega)
 have e2:IntKind.u64.wrap (az B i:Int)=(az B i:Int):=bN (by omega) (by omega)
 have e3:IntKind.u64.wrap ((w:Int)+(az B i:Int))=((w+az B i:Nat):Int):=by rw[bN (by omega) (by omega)];omega
 rw[e1,e2,e3]
 refine⟨by omega,fun hb2=>?_,fun hb2=>?_⟩
 ·have h2:i<nl B:=by omega
  obtain⟨r,w',q1,q2,q3,q4,q5⟩:=KM hzi (y:=w+az B i) (by omega)
  refine⟨by omega,by omega,by omega,fun s' hv=>key (yi:=az B i) h1 (by rw[if_pos h2]) q1 q2 q3 hv ?_ (by rw[wrap_i64 (by omega) (by omega)];omega) fun j=>gu ?_ j⟩
  ·rw[FT,nh];exact q5
  ·rw[k9,nh];exact q4
 ·have h2:¬i<nl B:=by omega
  obtain⟨r,w',q1,q2,q3,q4,q5⟩:=KM hzi (y:=w) (by omega)
  refine⟨by omega,by omega,fun s' hv=>key (yi:=0) h1 (by rw[if_neg h2]) q1 q2 q3 hv ?_ (by rw[wrap_i64 (by omega) (by omega)];omega) fun j=>gu ?_ j⟩
  ·rw[FT,nh];exact q5
  ·rw[k9,nh];exact q4
theorem aey {r x:Nat} (hr:r<2^32) (hx:x<2^32):
  IntKind.u64.wrap ((BitVec.ofInt IntKind.u64.bits (IntKind.u64.wrap ((r:Int)*2^min (Int.toNat 32) IntKind.u64.bits))|||BitVec.ofInt IntKind.u64.bits (IntKind.u64.wrap (x:Int))).toNat:Int)=((r*4294967296+x:Nat):Int):=by
 rw[vZ,bN (x:=(x:Int)) (by omega) (by omega),bN (x:=(r:Int)*4294967296) (by omega) (by omega)]
 rw[show(r:Int)*4294967296=((r*2^32:Nat):Int) by omega,uI (by omega) (by omega),rM hx]
theorem I4 {r z b B v t vz q r':Nat} (h:v*b+r*(4294967296*B)+(vz+z*B)=t) (hq:r*4294967296+z=b*q+r'):(v+q*B)*b+r'*B+vz=t:=by
 have:(r*4294967296+z)*B=(b*q+r')*B:=by rw[hq]
 grind
abbrev EZ:List Nat:=[0,1,6,7,8]
abbrev Ql (n:Nat) (z:Nat→Nat) (b K r k:Nat):List AV:=[.ak 1 n (ay z),.int .u32 b,.own K 1 0 n,.int .u64 r,.int .i64 ((k:Int)-1)]
theorem ZX {n b:Nat} {z:Nat→Nat} (hz:∀i,i<n→z i<2^32) (hn:n<2^40) (hb0:0<b) (hb32:b<2^32) (K:Nat) (pre:aC):
  aB P zu K [.ak 1 n (ay z),.int .u32 b] pre (aK (.tuple [.mag (val n z/b),.int .u32 (val n z%b:Nat)]) []):=by
 refine jk hT aa7 rfl (of_decide_eq_true (by kernel_rfl)) rfl (fun _ c h0=>?_) K pre
 refine aq.hole [1,1,1,0,1] (by kernel_rfl) (aD.bf hT gj hm 30 EZ Yy (by kernel_rfl) ?_)
 simp only[aa.all,ax]
 refine⟨by omega,fun s' hv=>?_⟩
 refine aq.g8 (i:=0) (y:=part (au pC) [1,1,1,0,1,0,0]) (by kernel_rfl)
  (fun p:Nat×Nat×(Nat→Nat)=>⟨aA EZ (Ql n z b 7 p.2.1 p.1),[(7,⟨true,true,1,n,ay p.2.2⟩)],8⟩)
  (fun p=>p.1≤n∧p.2.1<b∧(∀j,j<n→p.2.2 j<2^32)∧(∀j,j<p.1→p.2.2 j=0)∧val n p.2.2*b+p.2.1*2^(32*p.1)+val p.1 z=val n z)
  (fun p=>p.1) (n,0,fun _=>0)
  (cX [(7,16384)] hv h0 rfl ⟨⟨rfl,aI rfl⟩,⟨rfl,aI rfl⟩,⟨rfl,cw rfl rfl rfl⟩,⟨rfl,aI rfl⟩,⟨rfl,fN (wrap_i64 (by omega) (by omega))⟩,trivial⟩
   ⟨⟨_,_,rfl,rfl,e9 rfl fun j _=>rfl⟩,trivial⟩)
  ⟨by simp,hb0,fun j _=>by simp,fun j _=>rfl,?_⟩ ?_
 ·simp only
  rw[mV (k:=0) (by omega) fun _ _ _=>rfl]
  simp[val]
 rintro⟨k,r,o⟩ ⟨hk,hr,ho,ho0,hval⟩
 simp only at hk hr ho ho0 hval
 refine aq.bf hT bk hm 30 EZ Xn (by kernel_rfl) ?_
 simp only[aa.all,ax,decide_eq_true_eq,decide_eq_false_iff_not,Nat.add_zero,beq_iff_eq]
 have hbw:IntKind.u64.wrap (b:Int)=(b:Int):=bN (by omega) (by omega)
 refine⟨fun hb=>?_,fun hb s' hv=>?_⟩
 ·obtain⟨j,rfl⟩:∃j,k=j+1:=⟨k-1,by omega⟩
  have e:(((j+1:Nat):Int)-1).toNat=j:=by omega
  have hzj:=hz j (by omega)
  have hor:=aey (r:=r) (x:=z j) (by omega) hzj
  rw[e,hor,hbw]
  have hq1:(r*4294967296+z j)/b<2^32:=by
   rw[Nat.div_lt_iff_lt_mul hb0]
   have:(r+1)*4294967296≤b*4294967296:=Nat.mul_le_mul_right _ hr
   omega
  have hdm:=Nat.div_add_mod (r*4294967296+z j) b
  refine⟨⟨by omega,by omega,by omega⟩,⟨by omega,⟨by omega,by omega⟩,by omega⟩,by omega,fun s' hv=>⟨(j,(r*4294967296+z j)%b,bU o j ((r*4294967296+z j)/b)),?_,⟨by simp only;omega,Nat.mod_lt _ hb0,gT hq1 ho,fun i hi=>?_,?_⟩,by simp only;omega⟩⟩
  ·refine cX [(7,7)] hv h0 rfl ⟨⟨rfl,aI rfl⟩,⟨rfl,aI rfl⟩,⟨rfl,cw rfl rfl rfl⟩,⟨rfl,fN (Int.ofNat_tmod _ _).symm⟩,⟨rfl,fN ?_⟩,trivial⟩
    ⟨⟨_,_,rfl,rfl,e9 rfl fun i _=>gu ?_ i⟩,trivial⟩
   ·rw[wrap_i64 (by omega) (by omega)];simp only;omega
   ·rw[←Int.ofNat_tdiv]
    clear hdm
    generalize (r*4294967296+z j)/b=q at hq1 ⊢
    rw[bN (by omega) (by omega),wrap_u32 (by omega) (by omega)]
  ·exact(fm (by simp only at hi;omega)).trans (ho0 i (by simp only at hi;omega))
  ·simp only
   rw[qB (by omega) (ho0 j (by omega))]
   rw[gz,val]at hval
   exact I4 hval hdm.symm
 ·have hk0:k=0:=by omega
  subst hk0
  have hv2:val n o*b+r=val n z:=by simpa [val]using hval
  refine aD.weak (by kernel_rfl) (cX (vs:=Ql n z b 7 r 0) (ps:=[(7,⟨true,true,1,n,ay o⟩)]) (nx:=8) [(7,7)] hv h0 rfl
    ⟨⟨rfl,aI rfl⟩,⟨rfl,aI rfl⟩,⟨rfl,cw rfl rfl rfl⟩,⟨rfl,aI rfl⟩,⟨rfl,aI rfl⟩,trivial⟩
    ⟨⟨_,_,rfl,rfl,e9 rfl fun j _=>rfl⟩,trivial⟩)
   (aD.fin hT gj hm 30 age (by kernel_rfl) ?_)
  simp only[aa.all,ax,Nat.add_zero,jn]
  have hdiv:val n z/b=val n o:=by
   rw[←hv2,Nat.mul_comm,Nat.mul_add_div hb0,Nat.div_eq_of_lt hr,Nat.add_zero]
  have hmod:val n z%b=r:=by
   rw[←hv2,Nat.mul_comm,Nat.mul_add_mod,Nat.mod_eq_of_lt hr]
  exact⟨⟨fR ho,by omega⟩,dc (congrArg AV.mag hdiv.symm),bw (by rw[hmod,wrap_u32 (by omega) (by omega)]),trivial⟩
theorem Ug {x s:Nat} (hs:s<32) (hx:x<2^32):IntKind.u64.wrap (IntKind.u64.wrap (x:Int)*2^min (s:Int).toNat IntKind.u64.bits)=((x*2^s:Nat):Int)∧x*2^s<2^64:=by
 have e:min (s:Int).toNat IntKind.u64.bits=s:=by
  have:IntKind.u64.bits=64:=rfl
  omega
 have hlt:x*2^s<2^64:=by
  have h1:2^s≤2^31:=Nat.pow_le_pow_right (by omega) (by omega)
  have h2:x*2^s≤2^32*2^31:=Nat.mul_le_mul (by omega) h1
  omega
 refine⟨?_,hlt⟩
 rw[e,bN (x:=(x:Int)) (by omega) (by omega)]
 have:(x:Int)*2^s=((x*2^s:Nat):Int):=by simp
 rw[this]
 exact bN (by omega) (by omega)
theorem My {c x s:Nat} (hs:s<32) (hx:x<2^32) (hc:c<2^s):
  IntKind.u64.wrap ((BitVec.ofInt IntKind.u64.bits (c:Int)|||BitVec.ofInt IntKind.u64.bits (IntKind.u64.wrap (IntKind.u64.wrap (x:Int)*2^min (s:Int).toNat IntKind.u64.bits))).toNat:Int)=((c+x*2^s:Nat):Int):=by
 obtain⟨h1,h2⟩:=Ug hs hx
 have h3:2^s≤2^31:=Nat.pow_le_pow_right (by omega) (by omega)
 rw[h1,uI (by omega) h2,Nat.or_comm,rM hc,Nat.add_comm]
theorem QE {c x s:Nat} (hs:s<32) (hx:x<2^32) (hc:c<2^s):c+x*2^s<2^63∧(c+x*2^s)/4294967296<2^s:=by
 have h3:2^s≤2^31:=Nat.pow_le_pow_right (by omega) (by omega)
 have h4:(x+1)*2^s≤2^32*2^s:=Nat.mul_le_mul_right _ hx
 rw[Nat.add_mul,Nat.one_mul]at h4
 refine⟨by omega,?_⟩
 rw[Nat.div_lt_iff_lt_mul (by omega)]
 omega
theorem NZ {B c x t v S:Nat} (h:v+c*B=t*S):v+(c+x*S)%4294967296*B+(c+x*S)/4294967296*(4294967296*B)=(t+x*B)*S:=by
 have h1:=Nat.div_add_mod (c+x*S) 4294967296
 generalize (c+x*S)/4294967296=q at*
 generalize (c+x*S)%4294967296=r at*
 have:(4294967296*q+r)*B=(c+x*S)*B:=by rw[h1]
 grind
abbrev C0:List Nat:=[0,1,5,6,13,14,15]
abbrev JG (n s:Nat) (z:Nat→Nat) (K c i:Nat):List AV:=[.ak 1 n (ay z),.int .i64 s,.own K 1 0 (n+1),.int .u64 c,.ak 1 n (ay z),.int .i64 n,.int .i64 i]
theorem ajR {n s:Nat} {z:Nat→Nat} (hz:∀i,i<n→z i<2^32) (hn:n<2^40) (hs:s<32) {c:Ctx} (h0:c.k0=aW) {Q:aj→aF→Prop}
  (fin:∀(c':Nat) (o:Nat→Nat) (s':aF),c'<2^s→(∀j,j<n+1→o j<2^32)→val n o+c'*2^(32*n)=val n z*2^s→aX C0 s'=some (JG n s z 7 c' n,[(7,⟨true,true,1,n+1,ay o⟩)])→
   aD P c l5.ntmps (behind (au l5) [1,1,1,0,1]) s' Q):
  aq P c l5.ntmps (au l5) ⟨aN 0 [.ak 1 n (ay z),.int .i64 s],[],0⟩ Q:=by
 refine aq.hole [1,1,1,0,1] (by kernel_rfl) (aD.bf hT gj hm 30 C0 Z2 (by kernel_rfl) ?_)
 have hw:IntKind.i64.wrap ((n:Int)+1)=((n+1:Nat):Int):=by rw[wrap_i64 (by omega) (by omega)];omega
 simp only[aa.all,ax,hw,Int.toNat_natCast]
 refine⟨by omega,fun s' hv=>?_⟩
 refine aq.g8 (i:=0) (y:=part (au l5) [1,1,1,0,1,0,0]) (by kernel_rfl)
  (fun p:Nat×Nat×(Nat→Nat)=>⟨aA C0 (JG n s z 7 p.2.1 p.1),[(7,⟨true,true,1,n+1,ay p.2.2⟩)],8⟩)
  (fun p=>p.1≤n∧p.2.1<2^s∧(∀j,j<n+1→p.2.2 j<2^32)∧val p.1 p.2.2+p.2.1*2^(32*p.1)=val p.1 z*2^s)
  (fun p=>n-p.1) (0,0,fun _=>0)
  (cX [(7,16384)] hv h0 rfl ⟨⟨rfl,aI rfl⟩,⟨rfl,aI rfl⟩,⟨rfl,cw rfl rfl rfl⟩,⟨rfl,aI rfl⟩,⟨rfl,aI rfl⟩,⟨rfl,aI rfl⟩,⟨rfl,aI rfl⟩,trivial⟩
   ⟨⟨_,_,rfl,rfl,e9 rfl fun j _=>rfl⟩,trivial⟩)
  ⟨by simp,Nat.two_pow_pos s,fun j _=>by simp,by simp[val]⟩ ?_
 rintro⟨i,c',o⟩ ⟨hi,hc,ho,hval⟩
 simp only at hi hc ho hval
 refine aq.bf hT bk hm 30 C0 abw (by kernel_rfl) ?_
 simp only[aa.all,ax,decide_eq_true_eq,decide_eq_false_iff_not,Nat.add_zero,beq_iff_eq,Int.toNat_natCast]
 refine⟨fun hb=>?_,fun hb s' hv=>?_⟩
 ·have h1:i<n:=by omega
  have hzi:=hz i h1
  have hor:=My hs hzi hc
  simp only[Int.toNat_natCast]at hor
  rw[hor]
  obtain⟨b1,b2⟩:=QE hs hzi hc
  refine⟨by omega,by omega,by omega,by omega,fun s' hv=>⟨(i+1,(c'+z i*2^s)/4294967296,bU o i ((c'+z i*2^s)%4294967296)),?_,⟨by simp only;omega,b2,gT (by omega) ho,?_⟩,by simp only;omega⟩⟩
  ·refine cX [(7,7)] hv h0 rfl ⟨⟨rfl,aI rfl⟩,⟨rfl,aI rfl⟩,⟨rfl,cw rfl rfl rfl⟩,⟨rfl,fN ?_⟩,⟨rfl,aI rfl⟩,⟨rfl,aI rfl⟩,⟨rfl,fN ?_⟩,trivial⟩
    ⟨⟨_,_,rfl,rfl,e9 rfl fun j _=>gu ?_ j⟩,trivial⟩
   ·rw[kB];simp only;omega
   ·rw[wrap_i64 (by omega) (by omega)];simp only;omega
   ·rw[jr]
  ·simp only
   rw[qO,gz]
   exact NZ hval
 ·have hin:i=n:=by omega
  subst hin
  exact fin c' o s' hc ho hval hv
theorem ak1 {s c' i:Nat} {o:Nat→Nat} (hs:s<32) (hc:c'<2^s):∀j,(if j=i then AV.int .u32 (IntKind.u32.wrap (c':Int))else ay o j)=ay (bU o i c') j:=fun j=>gu (by
 have h3:2^s≤2^31:=Nat.pow_le_pow_right (by omega) (by omega)
 exact wrap_u32 (by omega) (by omega)) j
def KT (A n B m:Nat):cJ:=aK (.tuple [.mag (A-B),.int .i64 (if A<B then 7 else 0)]) [n<2^40,m<2^40]
theorem Ye:∀K args pre r,bC (gP KT) K args pre=some r→aB P zK K args pre r:=
 bV (r4 fun _ _ _ _ K hz hy need=>WT hz hy need.1 need.2 K [])
def LY (N n:Nat) (b:Int):cJ:=aK (.tuple [.mag (N/b.toNat),.int .u32 (N%b.toNat:Nat)]) [n<2^40,0<b,b<2^32]
theorem ag9:∀K args pre r,bC (Dw LY) K args pre=some r→aB P zu K args pre r:=
 bV (aeD fun z n i K hz need=>by
  obtain⟨h1,h2,h3⟩:n<2^40∧0<i∧i<2^32:=need
  obtain⟨b,rfl⟩:=Int.eq_ofNat_of_zero_le (Int.le_of_lt h2)
  exact ZX hz h1 (by omega) (by omega) K [])
end Go.Am.B
