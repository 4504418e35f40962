/- ref12: IsoV, IsoU, Eval at any parameters; program and reference say the same. -/
import Derived.Test.YtppeigelbecpbaaGreatY51
import Derived.Test.YtppeigelbecpbaaGreatM18
import Derived.Test.YtppeigelbecpbaaGreatY49
set_option linter.unusedVariables false
namespace Go.Am.B
open Go Go.Am.N AV aa aj IntKind
def fo (s:Sf) (v:Rat):Cu:=if bF s.b s.kv v then lK else mc s v
def Em:Spec:=cC (kC (gD sK sK) (kC (fy sK) kN)) (fun a=>.tuple [e9 (fo a.1 a.2.1) sK sE,.int .i64 (bt a.1.b a.1.kv a.2.1)]) fun a=>[jd a.1]
noncomputable def Gv:aS:=[nG,(xu,GY),(qL,Em)]
def Dn:Spec:=cC (kC (gD sK sK) (kC (fy sK) kN)) (fun a=>.tuple [e9 (fo (dr a.1) a.2.1) sK sE,.int .i64 (bt a.1.a a.1.ku a.2.1)]) fun a=>[jd a.1]
noncomputable def MD:aS:=[nG,(sS,Dn),(Ak,Lr)]
theorem Vo {s:Sf} {v:Rat}:bu T x8 [100020] 60 pn (aq pn) ⟨aM 0 [cq s sK sK,.rat v sK],[],0⟩=
  let c2 : Int := bt s.b (fun i ↦ aI (rat (s.kv i) sK)) v; let c1 : Prop := 0 < 1; some (af [c1, c1, c1, bB (fun i ↦ rat (s.kv i) sK) s.b sK, sK ≤ sK, Kn s.b s.v.toNat fun i ↦ aI (rat (s.kv i) sK), (0 : Int) ≤ s.v, s.b < 2 ^ 40] (af [(c2 != (0 : Int)) = true] (af [c1] (af [c1] (leaf ret [agg [int i64 (0 : Int), nil, nil], int i64 c2]))))) := by kernel_rfl
theorem VO {s:Sf} {u:Rat}:bu T Gv [] 60 uB (aq uB) ⟨aM 0 [cq s sK sK,.rat u sK],[],0⟩=
  let c4:Prop:=0<1;let c3:Nat:=2^30;let c2:Nat:=ec (bg (s.f 0) s.m sK);let c1:Sf:=Sf.mk s.v s.u s.b (fun i↦aI (rat (aI (rat (s.kv i) sK)) sK)) s.a (fun i↦aI (rat (aI (rat (s.ku i) sK)) sK)) c2 (ec (bg (fun i↦eL (fun i↦bg (s.f i) s.m sK) i 0) s.n sK)) (eL fun i↦bg (fun i_1↦eL (fun i↦bg (s.f i) s.m sK) i_1 i) s.n sK);let c5:Cu:=fo c1 u;some (af [c4,bB (fun i↦rat (s.ku i) sK) s.a sK,bB (fun i↦rat (s.kv i) sK) s.b sK,eH (fun i↦bg (s.f i) s.m sK) s.n sK,(1:Nat)≤s.n,s.n<c3,c2<c3,s.a<c3,s.b<c3,c4,bB (fun i↦rat (aI (rat (s.kv i) sK)) sK) s.b sK,bB (fun i↦rat (aI (rat (s.ku i) sK)) sK) s.a sK,eH (fun i↦bg (fun i_1↦eL (fun i↦bg (s.f i) s.m sK) i_1 i) s.n sK) c2 sK,sK≤sK,jd c1,c4] (af [c4] (leaf ret [agg [int i64 c5.p,ag 3 c5.n fun i↦rat (c5.k i) 4096,ag 12 c5.m fun i↦agg [agg [rat (c5.f i).n.x 4294967298,rat (c5.f i).n.y 4294967298,rat (c5.f i).n.z 4294967298],rat (c5.f i).d 4294967298]],int i64 (bt s.a (fun i↦aI (rat (aI (rat (s.ku i) sK)) sK)) u)]))):=by kernel_rfl
theorem Yq {s:Sf} {u v:Rat}:bu T MD [17] 60 u9 (aq u9) ⟨aM 0 [cq s sK sK,.rat u sK,.rat v sK],[],0⟩=
  let c6 : Int := bt s.a (fun i ↦ aI (rat (s.ku i) sK)) u; let c5 : AV := rat 0 1; let c4 : Prop := 0 < 1; let c3 : Sf := Sf.mk s.u s.v s.a (fun i ↦ aI (rat (s.ku i) sK)) s.b (fun i ↦ aI (rat (s.kv i) sK)) s.n (ec (bg (s.f 0) s.m sK)) (eL fun i ↦ bg (s.f i) s.m sK); let c1 : Cu := fo (dr c3) u; let c2 : V3 := j8 (Cu.mk c1.p c1.n (fun i ↦ aI (rat (c1.k i) sK)) c1.m fun i ↦ iu (bN (c1.f i) sE)) v; some (af [c4, c4, bB (fun i ↦ rat (s.ku i) sK) s.a sK, bB (fun i ↦ rat (s.kv i) sK) s.b sK, eH (fun i ↦ bg (s.f i) s.m sK) s.n sK, sK ≤ sK, jd c3, c4] (fork (c6 != (0 : Int)) (af [c4] (af [c4] (leaf ret [agg [c5, c5, c5], int i64 c6]))) (af [c4, c4, bB (fun i ↦ rat (c1.k i) sK) c1.n sK, gd (fun i ↦ bN (c1.f i) sE) c1.m sE, sK ≤ sK, Kn c1.n c1.p.toNat fun i ↦ aI (rat (c1.k i) sK), (0 : Int) ≤ c1.p, c1.p ≤ (6 : Int), c1.n < 2 ^ 40, (↑c1.m : Int) = (↑c1.n : Int) - c1.p - (1 : Int), c4] (af [c4] (leaf ret [agg [rat c2.x 137438953474, rat c2.y 137438953474, rat c2.z 137438953474], int i64 (bt c1.n (fun i ↦ aI (rat (c1.k i) sK)) v)]))))) := by kernel_rfl
theorem dG.weak {s:Sf} (h:dG s):jd s:=⟨h.ku,h.kv,h.u0,h.u6,h.v0,h.v6,by have:=h.a;have:=h.u6;omega,by have:=h.b;have:=h.v6;omega,h.n,h.m⟩
theorem jd.swap {s:Sf} (h:jd s):jd (dr s):=⟨h.kv,h.ku,h.v0,h.v6,h.u0,h.u6,h.b,h.a,h.m,h.n⟩
theorem F6:∀K args pre r,Em K args pre=some r→az P qL K args pre r:=cz fun⟨s,v,_⟩ K hn=>by
 have hs:jd s:=hn
 obtain⟨ku,kv,u0,u6,v0,v6,ha,hb,hn,hm2⟩:=id hs
 by_cases hout:bF s.b s.kv v
 ·refine bC (r:=aF (.tuple [e9 (fo s v) sK sE,.int .i64 (bt s.b s.kv v)]) []) hT D6 hm Fb rfl (of_decide_eq_true (by kernel_rfl)) rfl 60 Vo (fun _=>?_) K []
  have hE:bt s.b s.kv v=7:=by unfold bt;rw[if_pos hout]
  have hE':bt s.b (fun i=>aI (rat (s.kv i) sK)) v=7:=hE
  have hG:fo s v=lK:=if_pos hout
  simp only[aa.all,ax,hE']
  exact⟨⟨by omega,by omega,by omega,cm (Nat.le_refl _),Nat.le_refl _,kv,v0,by omega⟩,by decide,by omega,by omega,by rw[hG];exact FU,br hE.symm,trivial⟩
 ·have:=R9 kv v0 v6 (by omega) ha hb hm2 hout K
  rw[show(.tuple [e9 (mc s v) sK sE,.int .i64 0]:AV)=.tuple [e9 (fo s v) sK sE,.int .i64 (bt s.b s.kv v)] by unfold fo bt;rw[if_neg hout,if_neg hout]]at this
  exact this
theorem O7 {h:Pl} (hd:h.d≠0):kX (gm h)=h:=by
 obtain⟨⟨x,y,z⟩,d⟩:=h
 have e:∀q:Rat,d*(q/d)=q:=fun q=>by rw[Rat.mul_comm];exact Rat.div_mul_cancel hd
 show Pl.mk ⟨d*(x/d),d*(y/d),d*(z/d)⟩ d=_
 rw[e,e,e]
theorem VP {h:Pl}:gm h=⟨mQ h,h.d⟩:=by
 rw[←HW];rfl
theorem E1 {s:Sf} {u:Rat}:eI s u=fo (dr s) u:=by
 by_cases hout:bF s.a s.ku u
 ·rw[show eI s u=lK from if_pos hout];exact(if_pos hout).symm
 ·rw[show eI s u=⟨s.v,s.b,s.kv,s.m,fun j=>gm (cV (dQ s j) u)⟩from if_neg hout,show fo (dr s) u=mc (dr s) u from if_neg hout]
  show Cu.mk s.v s.b s.kv s.m (fun j=>gm (cV (dQ s j) u))=Cu.mk s.v s.b s.kv s.m (rV (dr s) u)
  congr 1
  funext j
  rw[VP]
  unfold rV cV
  rw[if_neg (show¬bF (dQ s j).n (dQ s j).k u from hout)]
  rfl
theorem PT {s:Sf} {u:Rat} {j:Nat} (hs:dG s) (hin:¬bF s.a s.ku u) (hj:j<s.m):0<(cV (dQ s j) u).d:=by
 have hiv:=hs.ku.mY hin
 have hIs:=hs.ku.QZ hin
 have h1:=hs.n
 have h2:=hs.u0
 unfold cV
 rw[if_neg (show¬bF (dQ s j).n (dQ s j).k u from hin)]
 show 0<bU (s.u.toNat+1) fun i=>vB s.ku (bG s.a s.ku u) u s.u.toNat i*(s.f (bG s.a s.ku u-s.u.toNat+i) j).d
 exact Ib (fun i _=>IB hIs.at_ hIs.lo hIs.hi hiv.1 (by omega) i) (fun i hi=>hs.w _ j (by omega) hj) (by rw[FR];decide)
theorem aff {s:Sf} {u v:Rat} (hs:dG s) (hu:¬bF s.a s.ku u):jQ s u v=j8 (fo (dr s) u) v:=by
 have hG:fo (dr s) u=mc (dr s) u:=if_neg hu
 unfold jQ
 rw[if_neg hu]
 by_cases hv:bF s.b s.kv v
 ·rw[if_pos hv,hG]
  unfold j8
  rw[if_pos (show bF (mc (dr s) u).n (mc (dr s) u).k v from hv)]
 ·rw[if_neg hv,HW,←E1]
  have hiv:=hs.kv.mY hv
  have h1:=hs.m
  have h2:=hs.v0
  rw[show eI s u=⟨s.v,s.b,s.kv,s.m,fun j=>gm (cV (dQ s j) u)⟩from if_neg hu,Bd hu]
  unfold j8 cV
  rw[if_neg (show¬bF s.b s.kv v from hv),if_neg (show¬bF s.b s.kv v from hv)]
  congr 1
  have key:∀(g:Pl→Rat) (x:Nat→Rat),bU (s.v.toNat+1) (fun j=>x j*g (cV (dQ s (bG s.b s.kv v-s.v.toNat+j)) u))=bU (s.v.toNat+1) (fun j=>x j*g (kX (gm (cV (dQ s (bG s.b s.kv v-s.v.toNat+j)) u)))):=fun g x=>
   rW fun j hj=>by rw[O7 (by have:=PT hs hu (j:=bG s.b s.kv v-s.v.toNat+j) (by omega);grind)]
  have ext:∀{a b c d a' b' c' d':Rat},a=a'→b=b'→c=c'→d=d'→Pl.mk ⟨a,b,c⟩ d=Pl.mk ⟨a',b',c'⟩ d':=by intros;subst_vars;rfl
  exact ext (key (fun h=>h.n.x) _) (key (fun h=>h.n.y) _) (key (fun h=>h.n.z) _) (key (fun h=>h.d) _)
theorem aaz:aW P Gv:=cw (aD aeg (aD F6 aX))
theorem MQ:∀K args pre r,Dn K args pre=some r→az P sS K args pre r:=cz fun⟨s,u,_⟩ K hn=>by
 have hs:jd s:=hn
 obtain⟨ku,kv,u0,u6,v0,v6,ha,hb,hn,hm2⟩:=id hs
 have hl:=ku.len
 refine bC (r:=aF (.tuple [e9 (fo (dr s) u) sK sE,.int .i64 (bt s.a s.ku u)]) []) hT aaz hm Sj rfl (of_decide_eq_true (by kernel_rfl)) rfl 60 VO (fun _=>?_) K []
 have lv:ec (bg (s.f 0) s.m sK)=s.m:=rfl
 simp only[aa.all,ax,lv]
 (repeat' with_reducible refine And.intro ?_ ?_)
 all_goals first|omega|exact Nat.le_refl _|exact cm (by decide)|exact gj (by decide)|exact hs.swap|skip
 exact⟨.refl _,.refl _,trivial⟩
theorem aek:aW P MD:=cw (aD MQ (aD TD aX))
def lU (s:Sf) (u v:Rat):V3:=if bF s.a s.ku u then⟨0,0,0⟩else j8 (fo (dr s) u) v
theorem Qg {s:Sf} {u v:Rat} (hs:dG s):jQ s u v=lU s u v:=by
 unfold lU
 by_cases hu:bF s.a s.ku u
 ·rw[if_pos hu];unfold jQ;rw[if_pos hu]
 ·rw[if_neg hu];exact aff hs hu
def Hy:Spec:=cC (kC (gD sK sK) (kC (fy sK) (kC (fy sK) kN))) (fun a=>.tuple [vA (lU a.1 a.2.1 a.2.2.1) nv,.int .i64 (iR a.1 a.2.1 a.2.2.1)]) fun a=>[jd a.1]
theorem Q5:∀K args pre r,Hy K args pre=some r→az P AQ K args pre r:=cz fun⟨s,u,v,_⟩ K hn=>by
 have hs:jd s:=hn
 obtain⟨ku,kv,u0,u6,v0,v6,ha,hb,hn,hm2⟩:=id hs
 refine bC (r:=aF (.tuple [vA (lU s u v) nv,.int .i64 (iR s u v)]) []) hT aek hm PM rfl (of_decide_eq_true (by kernel_rfl)) rfl 60 Yq (fun _=>?_) K []
 have hE:bt s.a (fun i=>aI (rat (s.ku i) sK)) u=bt s.a s.ku u:=rfl
 simp only[aa.all,ax,hE,bne_iff_ne,ne_eq,bne_eq_false_iff_eq]
 generalize hg:fo _ u=c1
 have hc:c1=fo (dr s) u:=hg.symm
 refine⟨⟨by omega,by omega,cm (Nat.le_refl _),cm (Nat.le_refl _),gj (Nat.le_refl _),Nat.le_refl _,hs,by omega⟩,fun h=>?_,fun h=>?_⟩
 ·have ho:=qi h
  exact⟨by omega,by omega,oH (u:=⟨0,0,0⟩) (by unfold lU;rw[if_pos ho]) (by decide),br (by unfold iR bt;rw[if_pos ho,if_pos ho]),trivial⟩
 ·have ho:=pU h
  have hi:fo (dr s) u=mc (dr s) u:=if_neg ho
  have hq:lU s u v=j8 c1 v:=by unfold lU;rw[if_neg ho,hc]
  have e1:c1.n=s.b:=by rw[hc,hi];rfl
  have e2:c1.k=s.kv:=by rw[hc,hi];rfl
  have e3:c1.p=s.v:=by rw[hc,hi];rfl
  have e4:c1.m=s.m:=by rw[hc,hi];rfl
  refine⟨⟨by omega,by omega,cm (by decide),nw (Nat.le_refl _),Nat.le_refl _,?_,by omega,by omega,by omega,by omega,by omega⟩,by omega,oH (u:=j8 c1 v) hq.symm (Nat.le_refl _),br ?_,trivial⟩
  ·show Kn c1.n c1.p.toNat c1.k
   rw[e1,e2,e3];exact kv
  ·show bt c1.n c1.k v=_
   rw[e1,e2];unfold iR;rw[if_neg ho]
end Go.Am.B

/- The closures of surface.Check. -/
namespace Go.Am.B
open Go Go.Am.N AV aa aj IntKind
theorem Qc:aO P gX tX (aq tX):=aP acS (by kernel_rfl) (by kernel_rfl) (by kernel_rfl)
theorem Rn:aO P fF wG (aq wG):=aP Y4 (by kernel_rfl) (by kernel_rfl) (by kernel_rfl)
theorem YB:aO P gy tW (aq tW):=aP agc (by kernel_rfl) (by kernel_rfl) (by kernel_rfl)
noncomputable def mO:aS:=nG::(gX,zB)::(gy,zB)::(fF,Gd)::[]
noncomputable def Nm:Spec:=cC (kC (kL 2048) (kC Bs kN)) (fun _=>.int .i64 (-1)) fun a=>[a.1.1<2^40,a.2.1=gX∨a.2.1=gy]
noncomputable def FZ:Spec:=cC (kC (kL 2048) (kC Bs kN)) (fun _=>.bool false) fun a=>[a.1.1<2^40,a.2.1=gX∨a.2.1=gy]
noncomputable def KX:aS:=nG::(sC,Nm)::[]
noncomputable def Nf:Spec:=cC (kC (mz 2048) (kC Bs kN)) (fun _=>.int .i64 (-1)) fun a=>[a.1.1<2^40,∀i,i<a.1.1→0<(a.1.2 i).d,a.2.1=fF]
noncomputable def FC:Spec:=cC (kC (mz 2048) (kC Bs kN)) (fun _=>.bool false) fun a=>[a.1.1<2^40,∀i,i<a.1.1→0<(a.1.2 i).d,a.2.1=fF]
noncomputable def Mn:aS:=nG::(tM,Nf)::[]
theorem Q7 {q:Rat} {n:Nat}:bu T Bk [] 60 tX (aq tX) ⟨aM 0 [.rat q n],[],0⟩=
  some (af [(0:Nat)<1,n<2^44] (leaf ret [AV.bool false])):=by kernel_rfl
theorem aad {q:Rat} {n:Nat}:bu T Bk [] 60 tW (aq tW) ⟨aM 0 [.rat q n],[],0⟩=
  some (af [(0:Nat)<1,n<2^44] (leaf ret [AV.bool (decide ((↑(ck q):Int)>(2048:Int)))])):=by kernel_rfl
theorem OA {p:Pl}:bu T Bk [] 60 wG (aq wG) ⟨aM 0 [bN p 2048],[],0⟩=
  some (af [(0:Nat)<1,(2048:Nat)<2^42] (leaf ret [AV.bool (decide (dL p.d≤(0:Int)))])):=by kernel_rfl
theorem Kz {n:Nat} {k:Nat→Rat} {g:FuncId}:aG T mO [] 60 ja (before nO [1,0,1]) ⟨aM 0 [bM k n 2048,.func g []],[],0⟩=
  some (leaf normal ([int i64 (0:Int),ag 3 n fun i↦rat (k i) 2048,func g [],int i64 (↑n:Int),int i64 (0:Int)],[])):=by kernel_rfl
theorem YO {n i:Nat} {k:Nat→Rat}:aG T mO [9] 60 ja [part nO [1,0,1,0,0]] ⟨aB ja (wR n i k gX),[],0⟩=
  let c4:Int:=(↑n:Int);let c2:AV:=ag 3 n fun i↦rat (k i) 2048;let c1:Int:=(↑i:Int);let c3:Int:=c1+(1:Int);some (fork (decide (c1<c4)) (af [(0:Int)≤c1∧c1.toNat<n,(2048:Nat)≤2048] (af [-(2:Int)^63≤c3∧c3<(2:Int)^63] (leaf normal ([int i64 (0:Int),c2,func gX [],int i64 c4,int i64 c3],[])))) (leaf (exit 0) ([int i64 (0:Int),c2,func gX [],int i64 c4,int i64 c1],[]))):=by kernel_rfl
theorem aan {n i:Nat} {k:Nat→Rat}:aG T mO [9] 60 ja [part nO [1,0,1,0,0]] ⟨aB ja (wR n i k gy),[],0⟩=
  let c4:Int:=(↑n:Int);let c2:AV:=ag 3 n fun i↦rat (k i) 2048;let c1:Int:=(↑i:Int);let c3:Int:=c1+(1:Int);some (fork (decide (c1<c4)) (af [(0:Int)≤c1∧c1.toNat<n,(2048:Nat)≤2048] (af [-(2:Int)^63≤c3∧c3<(2:Int)^63] (leaf normal ([int i64 (0:Int),c2,func gy [],int i64 c4,int i64 c3],[])))) (leaf (exit 0) ([int i64 (0:Int),c2,func gy [],int i64 c4,int i64 c1],[]))):=by kernel_rfl
theorem Il {n i:Nat} {k:Nat→Rat} {g:FuncId}:bZ T mO [] 60 vP [part nO [1,1]] ⟨aB ja (wR n i k g),[],0⟩=
  some (leaf ret [int i64 (-1:Int)]):=by kernel_rfl
theorem Yc {n:Nat} {f:Nat→Pl}:aG T mO [] 60 ja (before uq [1,0,1]) ⟨aM 0 [bg f n 2048,.func fF []],[],0⟩=
  some (leaf normal ([int i64 (0:Int),ag 12 n fun i↦agg [agg [rat (f i).n.x 2048,rat (f i).n.y 2048,rat (f i).n.z 2048],rat (f i).d 2048],func fF [],int i64 (↑n:Int),int i64 (0:Int)],[])):=by kernel_rfl
theorem aah {n i:Nat} {f:Nat→Pl}:aG T mO [9] 60 ja [part uq [1,0,1,0,0]] ⟨aB ja (Cy n i f fF),[],0⟩=
  let c5:Int:=(↑n:Int);let c3:Prop:=2048≤2048;let c2:Int:=(↑i:Int);let c1:AV:=ag 12 n fun i↦agg [agg [rat (f i).n.x 2048,rat (f i).n.y 2048,rat (f i).n.z 2048],rat (f i).d 2048];let c4:Int:=c2+(1:Int);some (fork (decide (c2<c5)) (af [(0:Int)≤c2∧c2.toNat<n,c3,c3,Max.max 2048 2048≤2048,(0:Rat)<(f c2.toNat).d] (af [-(2:Int)^63≤c4∧c4<(2:Int)^63] (leaf normal ([int i64 (0:Int),c1,func fF [],int i64 c5,int i64 c4],[])))) (leaf (exit 0) ([int i64 (0:Int),c1,func fF [],int i64 c5,int i64 c2],[]))):=by kernel_rfl
theorem afT {n i:Nat} {f:Nat→Pl}:bZ T mO [] 60 uG [part uq [1,1]] ⟨aB ja (Cy n i f fF),[],0⟩=
  some (leaf ret [int i64 (-1:Int)]):=by kernel_rfl
theorem Sh {n:Nat} {k:Nat→Rat} {g:FuncId}:bu T KX [] 60 yH (aq yH) ⟨aM 0 [bM k n 2048,.func g []],[],0⟩=
  some (af [bB (fun i↦rat (k i) 2048) n 2048,n<2^40,g=gX∨g=gy] (leaf ret [AV.bool false])):=by kernel_rfl
theorem ac2 {n:Nat} {f:Nat→Pl}:bu T Mn [] 60 uj (aq uj) ⟨aM 0 [bg f n 2048,.func fF []],[],0⟩=
  some (af [gd (fun i↦bN (f i) 2048) n 2048,n<2^40,∀(i:Nat),i<n→0<aI (rat (f i).d 2048),fF=fF] (leaf ret [AV.bool false])):=by kernel_rfl
theorem Ua:∀K args pre r,zB K args pre=some r→az P gX K args pre r:=by
 refine bS fun K args r hk hs _=>?_
 split at hs
 ·rename_i q n
  simp only[Option.some.injEq]at hs
  subst hs
  intro need
  have hn:n≤2048:=need
  refine bC (r:=aF (.bool false) [n≤2048]) hT Et hm Qc rfl (of_decide_eq_true (by kernel_rfl)) rfl 60 Q7 (fun _=>?_) K [] need
  simp only[aa.all,ax]
  (repeat' with_reducible refine And.intro ?_ ?_)
  all_goals first|omega|exact .refl _|skip
 ·simp at hs
theorem abo:∀K args pre r,zB K args pre=some r→az P gy K args pre r:=by
 refine bS fun K args r hk hs _=>?_
 split at hs
 ·rename_i q n
  simp only[Option.some.injEq]at hs
  subst hs
  intro need
  have hn:n≤2048:=need
  refine(gU (P:=P) (f:=gy) (K:=K) (args:=[.rat q n]) (pre:=[]) (v:=.bool false) (l:=[n≤2048]) fun⟨hs1,_⟩=>?_) need
  have h1:=ad5.1 hs1
  refine bC (r:=aF (.bool false) [n≤2048]) hT Et hm YB rfl (of_decide_eq_true (by kernel_rfl)) rfl 60 aad (fun _=>?_) K []
  simp only[aa.all,ax]
  (repeat' with_reducible refine And.intro ?_ ?_)
  all_goals first|omega|skip
  exact eM (decide_eq_false (by omega))
 ·simp at hs
theorem acM:∀K args pre r,Gd K args pre=some r→az P fF K args pre r:=cz fun⟨p,_⟩ K hn=>by
 have hd:0<p.d:=hn
 refine bC (r:=aF (.bool false) []) hT Et hm Rn rfl (of_decide_eq_true (by kernel_rfl)) rfl 60 OA (fun _=>?_) K []
 have hs:dL p.d=1:=by
  unfold dL
  rw[if_neg (by grind),if_pos hd]
 simp only[aa.all,ax,hs]
 (repeat' with_reducible refine And.intro ?_ ?_)
 all_goals first|omega|decide|exact .refl _|skip
theorem DI:aW P mO:=cw (aD Ua (aD abo (aD acM aX)))
theorem Tp {n:Nat} {k:Nat→Rat} {g:FuncId} (hn:n<2^40) (hg:g=gX∨g=gy) (K:Nat):az P sC K [bM k n 2048,.func g []] [] (aF (.int .i64 (-1)) []):=by
 rcases hg with rfl|rfl
 ·refine iL (r:=aF (.int .i64 (-1)) []) hT DI hm JM rfl (of_decide_eq_true (by kernel_rfl)) rfl [1,0,1] (i:=0) (y:=part nO [1,0,1,0,0]) (z:=part nO [1,1]) (by kernel_rfl) (by kernel_rfl) (by kernel_rfl) (f1:=[]) (f2:=[9]) (f3:=[]) 60 ja 0
   (fun i:Nat=>wR n i k gX) (fun _=>[]) (fun i=>i≤n) (fun i=>i=n) (fun i=>n-i) (fun _=>⟨⟨_,Kz,?_⟩,fun i hi=>⟨_,YO,?_⟩,fun i hi=>⟨_,Il,?_⟩⟩) K []
  ·simp only[aa.all,ax]
   exact⟨0,Nat.zero_le _,[],rfl,rfl,rfl,trivial⟩
  ·simp only[aa.all,ax,decide_eq_true_eq,decide_eq_false_iff_not,Int.toNat_natCast]
   exact⟨fun h=>⟨⟨by omega,by omega⟩,by omega,i+1,by omega,by dsimp only;omega,[],rfl,rfl,rfl,trivial⟩,fun h=>⟨rfl,i,by omega,[],rfl,rfl,rfl,trivial⟩⟩
  ·simp only[aa.all,ax]
   exact .refl _
 ·refine iL (r:=aF (.int .i64 (-1)) []) hT DI hm JM rfl (of_decide_eq_true (by kernel_rfl)) rfl [1,0,1] (i:=0) (y:=part nO [1,0,1,0,0]) (z:=part nO [1,1]) (by kernel_rfl) (by kernel_rfl) (by kernel_rfl) (f1:=[]) (f2:=[9]) (f3:=[]) 60 ja 0
   (fun i:Nat=>wR n i k gy) (fun _=>[]) (fun i=>i≤n) (fun i=>i=n) (fun i=>n-i) (fun _=>⟨⟨_,Kz,?_⟩,fun i hi=>⟨_,aan,?_⟩,fun i hi=>⟨_,Il,?_⟩⟩) K []
  ·simp only[aa.all,ax]
   exact⟨0,Nat.zero_le _,[],rfl,rfl,rfl,trivial⟩
  ·simp only[aa.all,ax,decide_eq_true_eq,decide_eq_false_iff_not,Int.toNat_natCast]
   exact⟨fun h=>⟨⟨by omega,by omega⟩,by omega,i+1,by omega,by dsimp only;omega,[],rfl,rfl,rfl,trivial⟩,fun h=>⟨rfl,i,by omega,[],rfl,rfl,rfl,trivial⟩⟩
  ·simp only[aa.all,ax]
   exact .refl _
theorem Zg:∀K args pre r,Nm K args pre=some r→az P sC K args pre r:=cz fun⟨⟨n,k⟩,g,_⟩ K hn=>Tp hn.1 hn.2 K
theorem aal:aW P KX:=cw (aD Zg aX)
theorem Pv:∀K args pre r,FZ K args pre=some r→az P BN K args pre r:=cz fun⟨⟨n,k⟩,g,_⟩ K hn=>by
 refine bC (r:=aF (.bool false) []) hT aal hm aac rfl (of_decide_eq_true (by kernel_rfl)) rfl 60 Sh (fun _=>?_) K []
 simp only[aa.all,ax]
 exact⟨⟨cm (Nat.le_refl _),hn.1,hn.2⟩,.refl _⟩
theorem Pt {n:Nat} {f:Nat→Pl} (hn:n<2^40) (hf:∀i,i<n→0<(f i).d) (K:Nat):az P tM K [bg f n 2048,.func fF []] [] (aF (.int .i64 (-1)) []):=by
 refine iL (r:=aF (.int .i64 (-1)) []) hT DI hm RW rfl (of_decide_eq_true (by kernel_rfl)) rfl [1,0,1] (i:=0) (y:=part uq [1,0,1,0,0]) (z:=part uq [1,1]) (by kernel_rfl) (by kernel_rfl) (by kernel_rfl) (f1:=[]) (f2:=[9]) (f3:=[]) 60 ja 0
  (fun i:Nat=>Cy n i f fF) (fun _=>[]) (fun i=>i≤n) (fun i=>i=n) (fun i=>n-i) (fun _=>⟨⟨_,Yc,?_⟩,fun i hi=>⟨_,aah,?_⟩,fun i hi=>⟨_,afT,?_⟩⟩) K []
 ·simp only[aa.all,ax]
  exact⟨0,Nat.zero_le _,[],rfl,rfl,rfl,trivial⟩
 ·simp only[aa.all,ax,decide_eq_true_eq,decide_eq_false_iff_not,Int.toNat_natCast]
  exact⟨fun h=>⟨⟨by omega,by omega,by omega,by decide,hf i (by omega)⟩,by omega,i+1,by omega,by dsimp only;omega,[],rfl,rfl,rfl,trivial⟩,fun h=>⟨rfl,i,by omega,[],rfl,rfl,rfl,trivial⟩⟩
 ·simp only[aa.all,ax]
  exact .refl _
theorem Pd:∀K args pre r,Nf K args pre=some r→az P tM K args pre r:=cz fun⟨⟨n,f⟩,g,_⟩ K hn=>by
 have hg:g=fF:=hn.2.2
 subst hg
 exact Pt hn.1 hn.2.1 K
theorem TK:aW P Mn:=cw (aD Pd aX)
theorem XC:∀K args pre r,FC K args pre=some r→az P Bp K args pre r:=cz fun⟨⟨n,f⟩,g,_⟩ K hn=>by
 have hg:g=fF:=hn.2.2
 subst hg
 refine bC (r:=aF (.bool false) []) hT TK hm afp rfl (of_decide_eq_true (by kernel_rfl)) rfl 60 ac2 (fun _=>?_) K []
 simp only[aa.all,ax]
 exact⟨⟨nw (Nat.le_refl _),hn.1,hn.2.1,by trivial⟩,.refl _⟩
end Go.Am.B

/- slices.Grow, Concat of numbers; law12.awake. -/
namespace Go.Am.B
open Go Go.Am.N AV aa aj IntKind
theorem VT:aO P Cf Ah (aq Ah):=aP UZ (by kernel_rfl) (by kernel_rfl) (by kernel_rfl)
theorem ae4:aO P B8 zm (aq zm):=aP QY (by kernel_rfl) (by kernel_rfl) (by kernel_rfl)
theorem Pe:aO P uh xJ (aq xJ):=aP ZE (by kernel_rfl) (by kernel_rfl) (by kernel_rfl)
abbrev Nt:FuncId:=Cf
noncomputable abbrev afO:Func:=Ah
abbrev Hh:FuncId:=B8
noncomputable abbrev Uw:Func:=zm
def HA:Spec:=n6 fun K l=>match l with
 |[.nil,.int .i64 n]=>some ⟨kV [.own K 3 0 0],[(K,⟨true,true,3,n.toNat,fun _=>.rat 0 1⟩)],[0<n∧n<2^30]⟩
 |_=>none
abbrev Fq (na nb:Nat) (f g:Nat→Rat):AV:=.ag 1 2 fun i=>nth [bM f na 2048,bM g nb 2048] .nil i
def A0 (na:Nat) (f g:Nat→Rat) (i:Nat):Rat:=if i<na then f i else g (i-na)
noncomputable def Nq:Spec:=n6 fun K l=>match l with
 |[.ag 1 2 h]=>match h 0,h 1 with
  |.ag 3 na f,.ag 3 nb g=>some ⟨kV [.own K 3 0 (na+nb)],[(K,⟨true,true,3,na+nb,fun i=>.rat (A0 na (fun i=>aI (f i)) (fun i=>aI (g i)) i) 2048⟩)],[bB f na 2048,bB g nb 2048,0<na+nb,na+nb<2^30]⟩
  |_,_=>none
 |_=>none
noncomputable def J7:aS:=nG::(Hh,Nq)::[]
noncomputable def Jg:aS:=nG::(HP,fL T J7 [] 400 Kx)::(BN,FZ)::(Bp,FC)::(qj,Fi)::(uo,DS)::[]
def M4:Spec:=bA fun l=>match l with
 |[.rat q _]=>match decide (q=1/4),decide (q=1)with
  |true,_=>some (aF (.str [49,47,52]) [])
  |false,true=>some (aF (.str [49]) [])
  |_,_=>none
 |_=>none
noncomputable def F1:aS:=sG::(yK,E9)::(oZ,zK)::(Gr,fL T Jg [200018,200026] 400 GC)::(IS,fL T (sG::lQ) [] 200 Gm)::(lY,qg)::(uk,M4)::lQ
theorem QN {n:Int}:aG T [nG] [200006,100016] 60 [4] [aq afO] ⟨aM 0 [.nil,.int .i64 n],[],0⟩=
  let c4:Prop:=(0:Int)≤(0:Int);let c3:Int:=(2:Int)^63;let c2:Int:=(↑(0:Nat):Int);let c1:Int:=(0:Int)-c2;let c5:Nat:=(n-c1).toNat;some (af [decide (n<(0:Int))=false] (af [-c3≤c1∧c1<c3,-c3≤n-c1∧n-c1<c3] (af [decide (n-c1>(0:Int))=true] (af [c4∧c4∧c4∧(0:Int)≤c2,(0:Int)<n-c1∧c5*((56:Nat)+1)*2≤2^47,c4∧(0:Int)≤c2∧c2≤c2∧c2≤(↑c5:Int)] (leaf ret ([own 73728 3 0 0],[((73728:Nat),ah.mk true true 3 c5 fun x↦rat 0 1)])))))):=by kernel_rfl
theorem XO {na nb:Nat} {f g:Nat→Rat}:aG T [nG,(Nt,HA)] [200020] 60 [2] [aq Uw] ⟨aM 0 [Fq na nb f g],[],0⟩=
  let c6:Prop:=(0:Int)≤(0:Int)∧Int.toNat (0:Int)<2;let c4:Nat:=0+na;let c3:Int:=(0:Int)+(↑na:Int);let c2:Int:=(0:Int)+(1:Int);let c1:Int:=(2:Int)^63;let c8:Prop:=(0:Int)≤c2∧c2.toNat<2;let c7:Prop:=-c1≤c2+(1:Int)∧c2+(1:Int)<c1;let c5:Int:=c3+(↑nb:Int);some (af [c6] (af [-c1≤c3∧c3<c1] (af [decide (c3<(0:Int))=false] (af [-c1≤c2∧c2<c1] (af [c8] (af [-c1≤c5∧c5<c1] (af [decide (c5<(0:Int))=false] (af [c7] (af [(0:Int)<c5∧c5<(2:Int)^30] (af [c6] (af [c4*((56:Nat)+1)*2≤2^47] (af [-c1≤c2∧c2<c1] (af [c8] (af [(c4+nb)*((56:Nat)+1)*2≤2^47] (af [c7] (leaf ret ([own 221184 3 0 (c4+nb)],[((221184:Nat),ah.mk true true 3 (c4+nb) fun i↦if i<c4 then if i<0 then rat 0 1 else rat (f (i-0)) 2048 else rat (g (i-c4)) 2048)]))))))))))))))))):=by kernel_rfl
theorem ad8:bu T zV [] 60 lD (aq lD) ⟨aM 0 [.agg [.bool false,.mag 1,.mag 0]],[],0⟩=
  some (leaf ret [str [(49:UInt8)]]):=by kernel_rfl
theorem TN:bu T F1 [100023,100027,100033,100037,100043] 400 xJ (aq xJ) ⟨aM 0 [],[],0⟩=
  let c38:Prop:=fF=fF;let c37:List UInt8:=[(49:UInt8),(47:UInt8),(52:UInt8)];let c36:Rat:=(↑(1:Int):Rat)/(↑(2:Int):Rat);let c29:Nat:=2^47;let c28:Nat:=56+1;let c23:Nat:=2^40;let c17:Prop:=4*3≤2^24;let c15:Prop:=(0:Int)≤(0:Int)∧Int.toNat (0:Int)<2;let c14:Nat:=4+4;let c13:Int:=(↑(3:Nat):Int);let c12:Int:=(2:Int)^63;let c10:Int:=(0:Int)+(1:Int);let c8:Prop:=0<1;let c7:AV:=agg [AV.bool (decide ((0:Rat)<0)),mag (↑(nat_lit 0):Int).natAbs,mag (if 1=1 then 0 else 1)];let c5:AV:=rat 0 1;let c3:AV:=rat (↑(1:Int):Rat) (Max.max 1 (bp (Int.natAbs (1:Int))));let c33:Nat:=c14+4;let c32:List AV:=[agg [agg [c5,c5,c5],c3],agg [agg [c7,c3,c5],c3]];let c31:List AV:=[agg [agg [c3,c5,c5],c3],agg [agg [c3,c3,c3],c3]];let c30:Prop:=-c12≤c10∧c10<c12;let c26:AV:=agg [agg [c5,c5,c5],c5];let c21:Prop:=(0:Int)≤(1:Int)∧(1:Int)<c13;let c20:Prop:=(0:Int)≤c10∧c10.toNat<2;let c19:Prop:=(0:Int)≤(0:Int)∧(0:Int)<c13;let c18:Prop:=(0:Int)≤(2:Int)∧(2:Int)<c13;let c16:Prop:=-c12≤c10+(1:Int)∧c10+(1:Int)<c12;let c2:List AV:=[c7,c7,c3,c3];let c27:Prop:=bB (fun i↦nth c2 c5 (i+0)) 4 2048;let c24:Prop:=(fq 4 (fun i↦aI (nth c2 c5 (i+0))) (1:Int)!=(0:Int))=false;let c11:Prop:=bB (fun i↦nth c2 c5 (i+0)) 4 sJ;let c9:Nat:=c33+4;let c1:List AV:=[ag 12 2 fun i↦nth c32 c26 (i+0),ag 12 2 fun i↦nth c31 c26 (i+0)];let c34:Nat:=ec (nth c1 nil ((0:Nat)+0));let c25:Nat:=c9+4;let c22:Prop:=eH (fun i↦nth c1 nil (i+0)) 2 sJ;let c35:Nat:=c25+4;let c6:Sf:=Sf.mk (1:Int) (1:Int) 4 (fun i↦aI (nth c2 c5 (i+0))) 4 (fun i↦aI (nth c2 c5 (i+0))) 2 c34 (eL fun i↦nth c1 nil (i+0));let c4:Prop:=bB (fun i↦if i+0<c25 then if i+0<c9 then if i+0<c33 then if i+0<c14 then rat (A0 4 (fun i↦aI (nth c2 c5 (i+0))) (fun i↦aI (nth c2 c5 (i+0))) (i+0)) 2048 else nth [c5,c5,c5,c3] c5 (i+0-c14+0)else nth [c7,c3,c5,c3] c5 (i+0-c33+0)else nth [c3,c5,c5,c3] c5 (i+0-c9+0)else nth [c3,c3,c3,c3] c5 (i+0-c25+0)) c35 2048;some (af [-c12≤(1:Int),(1:Int)<c12,-c12≤(2:Int),(2:Int)<c12] (af [c8,c11,c11,c22,(64:Nat)≤sK,(64:Nat)≤sK,dG c6] (af [c8,c11,c11,c22,(1:Nat)≤sK,dG c6] (af [c8,c8,c8,c8,(2:Nat)*1≤2^24,c27,c27,(0:Nat)<c14,c14<2^30,c8,c15,c15,c8,c19,c8,c21,c8,c18,c8,c8,c17,c33*c28*2≤c29,c30,c20,c8,c19,c8,c21,c8,c18,c8,c8,c17,c9*c28*2≤c29,c16,c30,c20,c15,c8,c19,c8,c21,c8,c18,c8,c8,c17,c25*c28*2≤c29,c30,c20,c8,c19,c8,c21,c8,c18,c8,c8,c17,c35*c28*2≤c29,c16,c16,c4,c35<c23,gX=gX∨gX=gy,c8,c8,c11,(4:Nat)<c23,c24,c8,c8,c11,(4:Nat)<c23,c24,c8,c11,c11,c22,dG c6,c8,c15,gd (fun i↦nth c32 c26 (i+0)) 2 2048,(2:Nat)<c23,∀(i:Nat),i<2→0<(iu (nth c32 c26 (i+0))).d,c38,c30,c20,gd (fun i↦nth c31 c26 (i+0)) 2 2048,(2:Nat)<c23,∀(i:Nat),i<2→0<(iu (nth c31 c26 (i+0))).d,c38,c16,c4,c35<c23,gy=gX∨gy=gy,((0:Int)==(0:Int))=true,(bif true then iR c6 c36 c36==(0:Int)else false)=true,(bif true then c37==c37 else false)=true,(bif true then bt 4 (fun i↦aI (nth c2 c5 (i+0))) 0==(0:Int)else false)=true,(bif true then(↑c34:Int)==(2:Int)else false)=true] (leaf ret [AV.bool true]))))):=by kernel_rfl
theorem acP:∀K args pre r,HA K args pre=some r→az P Nt K args pre r:=by
 refine s8 fun K args r hk hs=>?_
 split at hs
 ·rename_i n
  simp only[Option.some.injEq]at hs
  subst hs
  refine BZ hT VT (fun _=>Ao hk rfl (show dM [.nil,.int .i64 n] [.nil,.int .i64 n]from⟨.refl _,.refl _,trivial⟩)) (of_decide_eq_true (by kernel_rfl)) fun need c hkp=>?_
  have need:0<n∧n<2^30:=need
  obtain⟨h1,h2⟩:=need
  refine ak.bf hT (cw aX) hm 60 [4] QN (by kernel_rfl) ?_
  have e:n-(0-((0:Nat):Int))=n:=by omega
  simp only[aa.all,ax,e]
  exact⟨decide_eq_false (by omega),⟨by omega,by omega⟩,decide_eq_true (by omega),⟨by omega,by omega,by omega⟩,fun s' hs'=>⟨by simp,[4],_,[.own 73728 3 0 0],_,73728,_,hs',by kernel_rfl,⟨⟨rfl,bR (by simp[aT,look]) rfl rfl⟩,trivial⟩,rfl,ic rfl fun i hi=>aH rfl⟩⟩
 ·simp at hs
theorem SV:∀K args pre r,Nq K args pre=some r→az P Hh K args pre r:=by
 refine s8 fun K args r hk hs=>?_
 split at hs
 ·rename_i h
  split at hs
  ·rename_i na f nb g h0 h1
   simp only[Option.some.injEq]at hs
   subst hs
   refine BZ hT ae4 (args0:=[Fq na nb (fun i=>aI (f i)) (fun i=>aI (g i))]) (fun need=>Ao hk rfl (show dM [.ag 1 2 h] [Fq na nb (fun i=>aI (f i)) (fun i=>aI (g i))]from⟨mu fun i hi=>?_,trivial⟩)) (of_decide_eq_true (by kernel_rfl)) fun need c hkp=>?_
   ·obtain⟨n1,n2,n3,n4⟩:=need
    match i,hi with
    |0,_=>rw[h0];exact xD n1
    |1,_=>rw[h1];exact xD n2
   ·obtain⟨n1,n2,n3,n4⟩:bB f na 2048∧bB g nb 2048∧0<na+nb∧na+nb<2^30:=need
    refine ak.bf hT (cw (aD acP aX)) hm 60 [2] XO (by kernel_rfl) ?_
    simp only[aa.all,ax]
    (repeat' with_reducible refine And.intro ?_ ?_)
    all_goals first|omega|exact decide_eq_false (by omega)|skip
    intro s' hs'
    refine⟨by simp,[2],_,[.own 221184 3 0 (0+na+nb)],_,221184,_,hs',by kernel_rfl,⟨⟨rfl,bR (by simp[aT,look]) rfl (by omega)⟩,trivial⟩,rfl,ic (by omega) fun i hi=>?_⟩
    have e:(if i<0+na then if i<0 then AV.rat 0 1 else .rat (aI (f (i-0))) 2048 else .rat (aI (g (i-(0+na)))) 2048)=AV.rat (A0 na (fun i=>aI (f i)) (fun i=>aI (g i)) i) 2048:=by
     unfold A0
     rw[Nat.zero_add,Nat.sub_zero,if_neg (Nat.not_lt_zero i)]
     split<;>rfl
    show eE _ (if i<0+na then if i<0 then AV.rat 0 1 else .rat (aI (f (i-0))) 2048 else .rat (aI (g (i-(0+na)))) 2048) _
    rw[e];exact aH rfl
  ·simp at hs
 ·simp at hs
theorem Tn:∀K args pre r,M4 K args pre=some r→az P uk K args pre r:=by
 refine bS fun K args r hk hs _=>?_
 have fin:∀{q:Rat} {n a b:Nat} {t:aa (List AV)} {l:List UInt8},kids (.rat q n)=[.bool false,.mag a,.mag b]→bu T zV [] 60 lD (aq lD) ⟨aM 0 [.agg [.bool false,.mag a,.mag b]],[],0⟩=some t→(t.all fun _ us=>dK us (.str l))→az P uk K [.rat q n] [] (aF (.str l) []):=fun h0 h1 h2=>
  fP (bC (r:=aF _ []) hT aeI hm Vx rfl (of_decide_eq_true (by kernel_rfl)) rfl 60 h1 (fun _=>h2) K []) rfl (show dM [_] [_]from⟨by rw[←h0];exact GF,trivial⟩) []
 split at hs
 ·rename_i q n
  split at hs
  all_goals simp only[Option.some.injEq,reduceCtorEq]at hs
  all_goals subst hs
  ·obtain rfl:q=1/4:=of_decide_eq_true ‹_›
   exact fin (by kernel_rfl) afx (.refl _)
  ·obtain rfl:q=1:=of_decide_eq_true ‹decide (q=1)=true›
   exact fin (by kernel_rfl) ad8 (.refl _)
 ·simp at hs
theorem R4:aW P J7:=cw (aD SV aX)
theorem Pk:aW P Jg:=cw (aD (fU hT R4 hm (aP XK (by kernel_rfl) (by kernel_rfl) (by kernel_rfl)) _ _) (aD Pv (aD XC (aD Gc (aD MK aX)))))
theorem aeR:aW P F1:=ji (aD Ik (aD Ei (aD (fU hT Pk hm (aP WL (by kernel_rfl) (by kernel_rfl) (by kernel_rfl)) _ _) (aD (fU hT (ji nA) hm (aP NV (by kernel_rfl) (by kernel_rfl) (by kernel_rfl)) _ _) (aD r9 (aD Tn nA))))))
theorem ET {f:Nat→Rat} (h:∀i,i<4→f i=jS 1 0 (fun _=>((0:Int):Rat)) ((0:Int):Rat) i):Kn 4 1 f:=
 ((KG.start (p:=1) (by omega) (z:=0) (by omega) (by omega)).done:Kn (2*1+2+0) 1 _).congr fun i hi=>(h i hi).symm
set_option maxHeartbeats 1000000 in
theorem QO (K:Nat):az P uh K [] [] (aF (.bool true) []):=by
 refine bC (r:=aF (.bool true) []) hT aeR hm Pe rfl (of_decide_eq_true (by kernel_rfl)) rfl 400 TN (fun _=>?_) K []
 simp only[aa.all,ax]
 (repeat' with_reducible first|refine And.intro ?_ ?_)
 all_goals first|omega|decide|exact .inl trivial|exact .inr trivial|trivial|exact .refl _|skip
 all_goals first|decide+kernel|skip
 all_goals first
  |exact bne_eq_false_iff_eq.2 ((ET fun i hi=>by
    match i,hi with
    |0,_|1,_|2,_|3,_=>decide+kernel).DN (by decide) (by decide))
  |refine⟨ET fun i hi=>?_,ET fun i hi=>?_,by decide,by decide,by decide,by decide,by decide,by decide,by decide,by decide,fun i j hi hj=>?_⟩
  |intro i hi
 all_goals first
  |match i,hi with
   |0,_|1,_|2,_|3,_=>decide+kernel
  |match i,hi,j,hj with
   |0,_,0,_|0,_,1,_|1,_,0,_|1,_,1,_=>decide+kernel
  |skip
 all_goals first
  |match i,hi with
   |0,_|1,_=>exact iE
   |2,_|3,_=>exact cN (by decide)
  |match i,hi with
   |0,_|1,_=>first|exact cF ⟨cF ⟨cN (by decide),cN (by decide),cN (by decide),trivial⟩,cN (by decide),trivial⟩|exact cF ⟨cF ⟨iE,cN (by decide),cN (by decide),trivial⟩,cN (by decide),trivial⟩
  |match i,hi with
   |0,_|1,_=>
    refine mu fun j hj=>?_
    match j,hj with
    |0,_|1,_=>first|exact cF ⟨cF ⟨cN (by decide),cN (by decide),cN (by decide),trivial⟩,cN (by decide),trivial⟩|exact cF ⟨cF ⟨iE,cN (by decide),cN (by decide),trivial⟩,cN (by decide),trivial⟩
  |(replace hi:i<24:=hi
    rcases(by omega:i=0∨i=1∨i=2∨i=3∨i=4∨i=5∨i=6∨i=7∨i=8∨i=9∨i=10∨i=11∨i=12∨i=13∨i=14∨i=15∨i=16∨i=17∨i=18∨i=19∨i=20∨i=21∨i=22∨i=23)with rfl|rfl|rfl|rfl|rfl|rfl|rfl|rfl|rfl|rfl|rfl|rfl|rfl|rfl|rfl|rfl|rfl|rfl|rfl|rfl|rfl|rfl|rfl|rfl<;>first|exact bz.refl _|exact iE|exact cN (by decide))
  |skip
def JT:Spec:=bA fun l=>match l with
 |[]=>some (aF (.bool true) [])
 |_=>none
theorem SJ:∀K args pre r,JT K args pre=some r→az P uh K args pre r:=by
 refine bS fun K args r hk hs _=>?_
 split at hs
 ·simp only[Option.some.injEq]at hs
  subst hs
  exact fun need=>QO K need
 ·simp at hs
end Go.Am.B

/- brepkernelmade: Surface. -/
namespace Go.Am.B
open Go Go.Am.N AV aa aj IntKind
theorem KN:aO P x5 nX (aq nX):=aP ac7 (by kernel_rfl) (by kernel_rfl) (by kernel_rfl)
noncomputable def mV:aS:=nG::(mI,gA r6)::(td,gA Ea)::(AE,gA DR)::(lY,qg)::jq
abbrev lZ:List Nat:=[0,6,7,8,9]
abbrev qk (b:Bool) (i:Nat):List AV:=[.ptr 0 0 2 0 [],.ptr 1 0 5 0 [],.ptr 2 0 5 0 [],.bool b,.int .i64 i]
abbrev uM:List Nat:=[0,6,7,8,9,10,11]
abbrev CY (b:Bool) (i j:Nat):List AV:=[.ptr 0 0 2 0 [],.ptr 1 0 5 0 [],.ptr 2 0 5 0 [],.bool b,.int .i64 i,.own 4 12 0 j,.int .i64 j]
abbrev oK (n:Nat) (z:Nat→Int) (a:Int) (u v:Nat) (na nb:Nat) (ku kv:Nat→Rat) (f:Nat→Nat→Pl) (m i:Nat):aA:=
 [(3,⟨true,true,1,i,fun i=>bg (f i) m 200⟩),(2,⟨false,true,5,1,fun _=>.agg [.int .i64 u,.int .i64 v,bM ku na 64,bM kv nb 64,.own 3 1 0 i]⟩),(1,⟨false,true,5,1,fun _=>.agg [.int .i64 0,.int .i64 0,.nil,.nil,.nil]⟩),(0,jI n z a)]
abbrev BY (n:Nat) (z:Nat→Int) (a:Int) (u v:Nat) (na nb:Nat) (ku kv:Nat→Rat) (f:Nat→Nat→Pl) (m i j:Nat):aA:=(4,⟨true,true,12,j,fun j=>bN (f i j) 200⟩)::oK n z a u v na nb ku kv f m i
noncomputable abbrev nD:Code:=aq nX
noncomputable abbrev s7:Code:=part nD [1,1,1,1,0,1,0,0]
noncomputable abbrev we:Code:=part s7 [1,0,0]
theorem ac0 {n:Nat} {z:Nat→Int} {a d m:Int}:aG T mV [] 60 lZ (before nD [1,1,1,1,0,1]) ⟨aM 0 [.ptr 0 0 2 0 [],.int .i64 d,.int .i64 m],[(0,jI n z a)],1⟩=
  let c13:AV:=int i64 (0:Int);let c12:Int:=(2:Int)^62;let c11:Int:=aR n (aR n a);let c10:Int:=(2:Int)^63;let c9:Prop:=0<1;let c7:Bool:=0==0;let c3:Int:=(1:Int)+cy n (fun i↦int i64 (z i)) (aR n a) d;let c2:Int:=(1:Int)+cy n (fun i↦int i64 (z i)) a d;let c6:AV:=agg [c13,c13,nil,nil,nil];let c4:Int:=eF n (fun i↦int i64 (z i)) c11 c2.toNat m.toNat;let c8:Int:=eF n (fun i↦int i64 (z i)) c4 c3.toNat m.toNat;let c1:AV:=bh (agg ((c6.kids.set 0 (bh (int i64 c2))).set 1 (bh (int i64 c3))));let c14:AV:=if c7=true then c1 else c6;let c5:AV:=agg (c14.kids.set 2 (bh (bM (ki n (fun i↦int i64 (z i)) c11 c2.toNat m.toNat) (iD n (fun i↦int i64 (z i)) c11 c2.toNat m.toNat) 64)));some (af [cB n (fun i↦int i64 (z i)) a,(0:Int)<d,d<c12,-c10≤c2∧c2<c10,cB n (fun i↦int i64 (z i)) (aR n a),(0:Int)<d,d<c12,-c10≤c3∧c3<c10,c9] (af [c9,cB n (fun i↦int i64 (z i)) c11,(1:Int)≤c2,c2<(1000:Int),(0:Int)≤m,m<(1000:Int),c9,cB n (fun i↦int i64 (z i)) c4,(1:Int)≤c3,c3<(1000:Int),(0:Int)≤m,m<(1000:Int),c9,c9] (af [cB n (fun i↦int i64 (z i)) c8,(0:Int)<(3:Int),(3:Int)<c12] (leaf normal ([ptr 0 0 2 0 [],ptr 1 0 5 0 [],ptr 40961 0 5 0 [],AV.bool (cy n (fun i↦int i64 (z i)) c8 (3:Int)==(2:Int)),c13],[((40961:Nat),ah.mk false true 5 1 fun j↦if(j==0)=true then agg ((if c7=true then c5 else c14).kids.set 3 (bh (bM (ki n (fun i↦int i64 (z i)) c4 c3.toNat m.toNat) (iD n (fun i↦int i64 (z i)) c4 c3.toNat m.toNat) 64)))else if(j==0)=true then c5 else if(j==0)=true then c1 else c6),((1:Nat),ah.mk false true 5 1 fun x↦c6),((0:Nat),ah.mk false true 2 1 fun x↦agg [ag 1 n fun i↦int i64 (z i),int i64 (aR n c8)])]))))):=by kernel_rfl
theorem aas {n u v na nb m i:Nat} {z:Nat→Int} {a:Int} {ku kv:Nat→Rat} {f:Nat→Nat→Pl} {b:Bool}:aG T mV [45] 60 lZ (before s7 [1,0]) ⟨aB lZ (qk b i),oK n z a u v na nb ku kv f m i,4⟩=
  let c3:Int:=(2:Int)^63;let c2:Int:=(↑na:Int)-(↑u:Int);let c1:List AV×aA:=([ptr 0 0 2 0 [],ptr 1 0 5 0 [],ptr 2 0 5 0 [],AV.bool b,int i64 (↑i:Int)],[((3:Nat),ah.mk true true 1 i fun i↦ag 12 m fun i_1↦agg [agg [rat (f i i_1).n.x 200,rat (f i i_1).n.y 200,rat (f i i_1).n.z 200],rat (f i i_1).d 200]),((2:Nat),ah.mk false true 5 1 fun x↦agg [int i64 (↑u:Int),int i64 (↑v:Int),ag 3 na fun i↦rat (ku i) 64,ag 3 nb fun i↦rat (kv i) 64,own 3 1 0 i]),((1:Nat),ah.mk false true 5 1 fun x↦agg [int i64 (0:Int),int i64 (0:Int),nil,nil,nil]),((0:Nat),ah.mk false true 2 1 fun x↦agg [ag 1 n fun i↦int i64 (z i),int i64 a])]);let c4:Int:=c2-(1:Int);some (af [(0:Nat)<1,(0:Nat)<1,-c3≤c2∧c2<c3,-c3≤c4∧c4<c3] (fork (decide ((↑i:Int)<c4)) (leaf normal c1) (leaf (exit 0) c1))):=by kernel_rfl
theorem abV {n u v na nb m i:Nat} {z:Nat→Int} {a:Int} {ku kv:Nat→Rat} {f:Nat→Nat→Pl} {b:Bool}:aG T mV [] 60 uM (before we [1,0,1]) ⟨aB lZ (qk b i),oK n z a u v na nb ku kv f m i,4⟩=
  let c1:AV:=int i64 (0:Int);some (leaf normal ([ptr 0 0 2 0 [],ptr 1 0 5 0 [],ptr 2 0 5 0 [],AV.bool b,int i64 (↑i:Int),nil,c1],[((3:Nat),ah.mk true true 1 i fun i↦ag 12 m fun i_1↦agg [agg [rat (f i i_1).n.x 200,rat (f i i_1).n.y 200,rat (f i i_1).n.z 200],rat (f i i_1).d 200]),((2:Nat),ah.mk false true 5 1 fun x↦agg [int i64 (↑u:Int),int i64 (↑v:Int),ag 3 na fun i↦rat (ku i) 64,ag 3 nb fun i↦rat (kv i) 64,own 3 1 0 i]),((1:Nat),ah.mk false true 5 1 fun x↦agg [c1,c1,nil,nil,nil]),((0:Nat),ah.mk false true 2 1 fun x↦agg [ag 1 n fun i↦int i64 (z i),int i64 a])])):=by kernel_rfl
theorem Ss {n u v na nb m i j:Nat} {z:Nat→Int} {a:Int} {ku kv:Nat→Rat} {f:Nat→Nat→Pl} {b:Bool}:aG T mV [56,62] 60 uM [part we [1,0,1,0,0]] ⟨aB uM (CY b i j),BY n z a u v na nb ku kv f m i j,5⟩=
  let c35:Int:=(↑j:Int);let c34:Int:=fB n (fun i↦int i64 (z i)) a;let c33:Rat:=gr n (fun i↦int i64 (z i)) a;let c32:AV:=int i64 (↑i:Int);let c29:AV:=ag 1 n fun i↦int i64 (z i);let c24:Rat:=(↑(1:Int):Rat)/(↑(8:Int):Rat);let c23:Nat:=j+1;let c20:Int:=(↑(3:Nat):Int);let c19:Nat:=64+64;let c18:AV:=ptr 0 0 2 0 [];let c17:AV:=ptr 1 0 5 0 [];let c16:AV:=ptr 2 0 5 0 [];let c14:Int:=(↑nb:Int)-(↑v:Int);let c13:Nat×ah:=((1:Nat),ah.mk false true 5 1 fun x↦agg [int i64 (0:Int),int i64 (0:Int),nil,nil,nil]);let c12:AV:=rat (↑((1:Int)+cy n (fun i↦int i64 (z i)) (j9 n (fun i↦int i64 (z i)) a) (3:Int)):Rat) 64;let c10:Int:=(2:Int)*(↑i:Int);let c7:AV:=rat 0 1;let c6:Nat:=2^41;let c5:Prop:=0<1;let c4:Nat×ah:=((2:Nat),ah.mk false true 5 1 fun x↦agg [int i64 (↑u:Int),int i64 (↑v:Int),ag 3 na fun i↦rat (ku i) 64,ag 3 nb fun i↦rat (kv i) 64,own 3 1 0 i]);let c3:Nat×ah:=((3:Nat),ah.mk true true 1 i fun i↦ag 12 m fun i_1↦agg [agg [rat (f i i_1).n.x 200,rat (f i i_1).n.y 200,rat (f i i_1).n.z 200],rat (f i i_1).d 200]);let c2:Int:=(2:Int)^63;let c38:Prop:=(1:Int)<c2;let c37:Prop:=-c2≤(1:Int);let c36:AV:=agg [agg [c7,c7,c7],c7];let c30:Nat:=Max.max 1 (bp c10.natAbs);let c28:Prop:=(0:Int)≤(0:Int)∧(0:Int)<c20;let c27:Prop:=(0:Int)≤(1:Int)∧(1:Int)<c20;let c26:Prop:=(0:Int)≤(2:Int)∧(2:Int)<c20;let c25:Int:=c14-(1:Int);let c22:Prop:=64<c6;let c21:Rat:=gr n (fun i↦int i64 (z i)) c34;let c15:Int:=c35+(1:Int);let c11:Int:=(2:Int)*c35;let c9:List Prop:=[c5,(1:Nat)*12≤2^24,c23*((224:Nat)+1)*2≤2^47];let c8:Rat:=if false=true then 0 else gr n (fun i↦int i64 (z i)) (fB n (fun i↦int i64 (z i)) c34);let c1:List (Nat×ah):=[c4,c13,((0:Nat),ah.mk false true 2 1 fun x↦agg [c29,int i64 (ED n (fun i↦int i64 (z i)) a)])];let c31:Nat:=Max.max 1 (bp c11.natAbs);some (af [c5,c5,-c2≤c14∧c14<c2,-c2≤c25∧c25<c2] (fork (decide (c35<c25)) (af [cB n (fun i↦int i64 (z i)) a,c5] (fork (!b) (af [-c2≤c10∧c10<c2,-c2≤c10,c10<c2,c28,c5,c37,c38,-c2≤(8:Int),(8:Int)<c2,c22,c22,c30<c6,c19<c6,c28,c5] (af [-c2≤c11∧c11<c2,-c2≤c11,c11<c2,c27,c5,c37,c38,-c2≤(8:Int),(8:Int)<c2,c22,c22,c31<c6,c19<c6,c27,c5] (af [c26,c5,c37,c38,-c2≤(4:Int),(4:Int)<c2,c22,c22,c26,c5] (af c9 (af [-c2≤c15∧c15<c2] (leaf normal ([c18,c17,c16,AV.bool b,c32,own 204805 12 0 c23,int i64 c15],c3::((204805:Nat),ah.mk true true 12 c23 fun i_1↦if i_1<j then bN (f i i_1) 200 else nth [agg [agg [rat ((↑c10:Rat)+c33*c24) (c30+c19+1),rat ((↑c11:Rat)+c21*c24) (c31+c19+1),rat (c8*((↑(1:Int):Rat)/(↑(4:Int):Rat))) c19],c12]] c36 (i_1-j+0))::c1))))))) (af c9 (af [-c2≤c15∧c15<c2] (leaf normal ([c18,c17,c16,AV.bool b,c32,own 73733 12 0 c23,int i64 c15],c3::((73733:Nat),ah.mk true true 12 c23 fun i_1↦if i_1<j then bN (f i i_1) 200 else nth [agg [agg [rat c33 64,rat c21 64,rat c8 64],c12]] c36 (i_1-j+0))::c1)))))) (leaf (exit 2) ([c18,c17,c16,AV.bool b,c32,own 4 12 0 j,int i64 c35],[c3,((4:Nat),ah.mk true true 12 j fun j↦agg [agg [rat (f i j).n.x 200,rat (f i j).n.y 200,rat (f i j).n.z 200],rat (f i j).d 200]),c4,c13,((0:Nat),ah.mk false true 2 1 fun x↦agg [c29,int i64 a])])))):=by kernel_rfl
theorem Qa {n u v na nb m i j:Nat} {z:Nat→Int} {a:Int} {ku kv:Nat→Rat} {f:Nat→Nat→Pl} {b:Bool}:aG T mV [] 60 lZ (behind we [1,0,1]++[part s7 [1,1]]) ⟨aB uM (CY b i j),BY n z a u v na nb ku kv f m i j,5⟩=
  let c2:Int:=(↑i:Int)+(1:Int);let c1:AV:=agg [int i64 (↑u:Int),int i64 (↑v:Int),bM ku na 64,bM kv nb 64,own 3 1 0 i];some (af [(0:Nat)<1,(1:Nat)*1≤2^24,(i+1)*((24:Nat)+1)*2≤2^47,(0:Nat)<1] (af [-(2:Int)^63≤c2∧c2<(2:Int)^63] (leaf normal ([ptr 0 0 2 0 [],ptr 1 0 5 0 [],ptr 2 0 5 0 [],AV.bool b,int i64 c2],[((16389:Nat),ah.mk true true 1 (i+1) fun i_1↦if i_1<i then bg (f i_1) m 200 else nth [ag 12 j fun i_2↦bN (f i (i_2+0)) 200] nil (i_1-i+0)),((2:Nat),ah.mk false true 5 1 fun j↦if(j==0)=true then agg (c1.kids.set 4 (bh (own (nat_lit 16388+1) 1 0 (i+1))))else c1),((1:Nat),ah.mk false true 5 1 fun x↦agg [int i64 (0:Int),int i64 (0:Int),nil,nil,nil]),((0:Nat),ah.mk false true 2 1 fun x↦agg [ag 1 n fun i↦int i64 (z i),int i64 a])])))):=by kernel_rfl
theorem UX {n u v na nb m i:Nat} {z:Nat→Int} {a:Int} {ku kv:Nat→Rat} {f:Nat→Nat→Pl} {b:Bool}:zh T mV [] 60 nX [part nD [1,1,1,1,1]] ⟨aB lZ (qk b i),oK n z a u v na nb ku kv f m i,4⟩=
  let c1:Prop:=0<1;some (af [c1,c1] (af [c1] (leaf ret ([agg [int i64 (↑u:Int),int i64 (↑v:Int),ag 3 na fun i↦rat (ku i) 64,ag 3 nb fun i↦rat (kv i) 64,ag 1 i fun i↦ag 12 m fun i_1↦agg [agg [rat (f (i+0) i_1).n.x 200,rat (f (i+0) i_1).n.y 200,rat (f (i+0) i_1).n.z 200],rat (f (i+0) i_1).d 200]]],some (ah.mk false true 2 1 fun x↦agg [ag 1 n fun i↦int i64 (z i),int i64 a]))))):=by kernel_rfl
def jT (b:Bool) (n:Nat) (f:Nat→AV) (a:Int) (i j:Nat):Pl:=
 if b=true then mq n f a false else⟨⟨((2*(i:Int):Int):Rat)+(mq n f a false).n.x*(((1:Int):Rat)/((8:Int):Rat)),((2*(j:Int):Int):Rat)+(mq n f a false).n.y*(((1:Int):Rat)/((8:Int):Rat)),(mq n f a false).n.z*(((1:Int):Rat)/((4:Int):Rat))⟩,(mq n f a false).d⟩
theorem GI:aW P mV:=cw (aD A6 (aD Qz (aD V7 (aD r9 jV))))
theorem UG {n u v na nb m mm:Nat} {z:Nat→Int} {B:Int} {ku kv:Nat→Rat} {b:Bool} {cx:Ctx} {s0:aE} {Q:aj→aE→Prop} {d M:Int} {a0:Int} (hk:Kept [0] cx) (hB:cB n (fun i=>.int .i64 (z i)) B) (hu:(mm:Int)=(na:Int)-u-1) (hv:(m:Int)=(nb:Int)-v-1) (h1:mm<2^20) (h2:m<2^20) (hna:na<2^20) (hnb:nb<2^20) (hu2:u<2^20) (hv2:v<2^20)
  (hp:∃t,aG T mV [] 60 lZ (before nD [1,1,1,1,0,1]) s0=some t∧t.all (Start [0] (fun i:Nat=>qk b i) (fun i=>oK n z (gP n (fun i=>.int .i64 (z i)) B (i*m)) u v na nb ku kv (fun i j=>jT b n (fun i=>.int .i64 (z i)) (gP n (fun i=>.int .i64 (z i)) B (i*m+j)) i j) m i) 4 (fun i=>i≤mm) (fun _=>False)))
  (hD:ak P cx nX.ntmps (part nD [1,1,1,1,1]) ⟨aB lZ (qk b mm),oK n z (gP n (fun i=>.int .i64 (z i)) B (mm*m)) u v na nb ku kv (fun i j=>jT b n (fun i=>.int .i64 (z i)) (gP n (fun i=>.int .i64 (z i)) B (i*m+j)) i j) m mm,4⟩ Q):
  ak P cx nX.ntmps nD s0 Q:=by
 have hv3:∀{rl:List (Nat×Nat)} {l:Nat} {w:AV},w.isTuple=false→eE (aT rl) w (.own 3 1 0 l)→gh rl (.agg [.int .i64 u,.int .i64 v,bM ku na 64,bM kv nb 64,w]) (.agg [.int .i64 u,.int .i64 v,bM ku na 64,bM kv nb 64,.own 3 1 0 l]):=
  fun h5 h6=>lT ⟨⟨rfl,aH rfl⟩,⟨rfl,aH rfl⟩,⟨rfl,aH rfl⟩,⟨rfl,aH rfl⟩,⟨h5,h6⟩,trivial⟩
 refine ak.xE hT GI hm (x:=nD) [1,1,1,1,0,1] (i:=0) (y:=s7) (z:=part nD [1,1,1,1,1]) (by kernel_rfl) (by kernel_rfl) (by kernel_rfl) KN.dst [1,0] (j:=1) (x1:=we) (zb:=part s7 [1,1]) (by kernel_rfl) (by kernel_rfl) (by kernel_rfl) [1,0,1] (i2:=2) (y2:=part we [1,0,1,0,0]) (by kernel_rfl) (by kernel_rfl) rfl
  hk (f1:=[]) (f2:=[45]) (f3:=[]) (f4:=[56,62]) (f5:=[]) 60 lZ uM 4 5 (fun i:Nat=>qk b i) (fun i=>oK n z (gP n (fun i=>.int .i64 (z i)) B (i*m)) u v na nb ku kv (fun i j=>jT b n (fun i=>.int .i64 (z i)) (gP n (fun i=>.int .i64 (z i)) B (i*m+j)) i j) m i) (fun i=>i≤mm) (fun i=>i=mm) (fun i=>mm-i) (fun i=>i<mm) (fun _=>False) (fun _=>False)
  (fun i (j:Nat)=>CY b i j) (fun i j=>BY n z (gP n (fun i=>.int .i64 (z i)) B (i*m+j)) u v na nb ku kv (fun i j=>jT b n (fun i=>.int .i64 (z i)) (gP n (fun i=>.int .i64 (z i)) B (i*m+j)) i j) m i j) (fun _ j=>j≤m) (fun _ j=>j=m) (fun _ j=>m-j) hp (fun i hi=>⟨_,aas,?_⟩) (fun i hi hg=>⟨_,abV,?_⟩) (fun i hi hg j hj=>⟨_,Ss,?_⟩) (fun i hi hg j hj=>⟨_,Qa,?_⟩) (fun i hi=>by rw[hi];exact hD) (fun _ _ h=>h.elim) (fun _ _ h=>h.elim)
 all_goals try simp only[aa.all,ax,decide_eq_true_eq,decide_eq_false_iff_not,Int.toNat_natCast,Nat.add_zero]
 ·exact⟨⟨by omega,by omega,by omega,by omega⟩,fun h=>⟨by omega,[(0,0),(1,1),(2,2),(3,3)],rfl,rfl,rfl,bq rfl rfl rfl (fun _ _=>aK rfl rfl) (aN rfl rfl (hv3 rfl (bR rfl rfl rfl)) (aN rfl rfl (aK rfl rfl) (aN rfl rfl (aK rfl rfl) trivial)))⟩,
   fun h=>⟨rfl,i,by omega,[(0,0),(1,1),(2,2),(3,3)],rfl,rfl,rfl,bq rfl rfl rfl (fun _ _=>aK rfl rfl) (aN rfl rfl (hv3 rfl (bR rfl rfl rfl)) (aN rfl rfl (aK rfl rfl) (aN rfl rfl (aK rfl rfl) trivial)))⟩⟩
 ·exact⟨0,Nat.zero_le _,[(0,0),(1,1),(2,2),(3,3)],rfl,rfl,rfl,jb rfl (by omega) (by omega) (bq rfl rfl rfl (fun _ _=>aK rfl rfl) (aN rfl rfl (hv3 rfl (bR rfl rfl rfl)) (aN rfl rfl (aK rfl rfl) (aN rfl rfl (aK rfl rfl) trivial))))⟩
 ·have hd:=hB.wC (i*m+j)
  have b1:bp (2*(i:Int)).natAbs≤64:=gq.2 (by omega)
  have b2:bp (2*(j:Int)).natAbs≤64:=gq.2 (by omega)
  refine⟨⟨by omega,by omega,by omega,by omega⟩,fun h=>⟨⟨hd,by omega⟩,fun hb=>?_,fun hb=>?_⟩,fun h=>⟨rfl,j,by omega,[(0,0),(1,1),(2,2),(3,3),(4,4)],rfl,rfl,rfl,bq rfl rfl rfl (fun _ _=>aK rfl rfl) (bq rfl rfl rfl (fun _ _=>aK rfl rfl) (aN rfl rfl (hv3 rfl (bR rfl rfl rfl)) (aN rfl rfl (aK rfl rfl) (aN rfl rfl (aK rfl rfl) trivial))))⟩⟩
  ·have hb:b=false:=by cases b<;>simp_all
   subst hb
   refine⟨⟨by omega,by omega,by omega,by omega,by omega,by omega,by omega,by omega,by omega,by omega,by omega,by omega,by omega,by omega,by omega⟩,⟨by omega,by omega,by omega,by omega,by omega,by omega,by omega,by omega,by omega,by omega,by omega,by omega,by omega,by omega,by omega⟩,⟨by omega,by omega,by omega,by omega,by omega,by omega,by omega,by omega,by omega,by omega⟩,⟨by omega,by omega,by omega⟩,by omega,j+1,by omega,by dsimp only;omega,[(0,0),(1,1),(2,2),(3,3),(4,204805)],rfl,rfl,rfl,bq rfl rfl rfl (fun k hk=>vR (g:=fun k=>bN (jT false n (fun i=>.int .i64 (z i)) (gP n (fun i=>.int .i64 (z i)) B (i*m+k)) i k) 200) (fun _ _=>⟨rfl,rfl⟩) rfl (cF ⟨cF ⟨bL rfl (by omega),bL rfl (by omega),bL rfl (by omega),trivial⟩,bL rfl (by omega),trivial⟩) hk) (bq rfl rfl rfl (fun _ _=>aK rfl rfl) (aN rfl rfl (hv3 rfl (bR rfl rfl rfl)) (aN rfl rfl (aK rfl rfl) (aN rfl rfl (aK rfl rfl) trivial))))⟩
  ·have hb:b=true:=by cases b<;>simp_all
   subst hb
   refine⟨⟨by omega,by omega,by omega⟩,by omega,j+1,by omega,by dsimp only;omega,[(0,0),(1,1),(2,2),(3,3),(4,73733)],rfl,rfl,rfl,bq rfl rfl rfl (fun k hk=>vR (g:=fun k=>bN (jT true n (fun i=>.int .i64 (z i)) (gP n (fun i=>.int .i64 (z i)) B (i*m+k)) i k) 200) (fun _ _=>⟨rfl,rfl⟩) rfl (cF ⟨cF ⟨bL rfl (by omega),bL rfl (by omega),bL rfl (by omega),trivial⟩,bL rfl (by omega),trivial⟩) hk) (bq rfl rfl rfl (fun _ _=>aK rfl rfl) (aN rfl rfl (hv3 rfl (bR rfl rfl rfl)) (aN rfl rfl (aK rfl rfl) (aN rfl rfl (aK rfl rfl) trivial))))⟩
 ·subst hj
  exact⟨⟨by omega,by omega,by omega,by omega⟩,by omega,i+1,by omega,by dsimp only;omega,[(0,0),(1,1),(2,2),(3,16389)],rfl,rfl,rfl,bq rfl rfl rfl (fun k hk=>rowAt (g:=fun i=>bg (fun k=>jT b n (fun i=>.int .i64 (z i)) (gP n (fun i=>.int .i64 (z i)) B (i*j+k)) i k) j 200) hk rfl rfl) (aN rfl rfl (hv3 rfl (bR rfl rfl rfl)) (aN rfl rfl (aK rfl rfl) (aN rfl rfl (aK rfl (by rw[Nat.succ_mul])) trivial)))⟩
def eJ (n:Nat) (f:Nat→AV) (a d:Int):Nat:=(1+cy n f a d).toNat
def vm (n:Nat) (f:Nat→AV) (a d:Int) (m:Nat):Int:=eF n f (eF n f (aR n (aR n a)) (eJ n f a d) m) (eJ n f (aR n a) d) m
def mK (n:Nat) (f:Nat→AV) (a d:Int) (m:Nat):Sf:=
 ⟨(eJ n f a d:Nat),(eJ n f (aR n a) d:Nat),iD n f (aR n (aR n a)) (eJ n f a d) m,ki n f (aR n (aR n a)) (eJ n f a d) m,
  iD n f (eF n f (aR n (aR n a)) (eJ n f a d) m) (eJ n f (aR n a) d) m,ki n f (eF n f (aR n (aR n a)) (eJ n f a d) m) (eJ n f (aR n a) d) m,
  eJ n f a d+1+gv n f (aR n (aR n a)) m,eJ n f (aR n a) d+1+gv n f (eF n f (aR n (aR n a)) (eJ n f a d) m) m,
  fun i j=>jT (cy n f (vm n f a d m) 3==2) n f (gP n f (aR n (vm n f a d m)) (i*(eJ n f (aR n a) d+1+gv n f (eF n f (aR n (aR n a)) (eJ n f a d) m) m)+j)) i j⟩
def EG (n:Nat) (f:Nat→AV) (a d:Int) (m:Nat):Int:=gP n f (aR n (vm n f a d m)) ((mK n f a d m).n*(mK n f a d m).m)
def Co (n:Nat) (f:Nat→AV) (a:Int) (l:List AV):Option (AV×Int×List Prop):=match l with
 |[.int .i64 d,.int .i64 m]=>some (cq (mK n f a d m.toNat) 64 200,EG n f a d m.toNat,[1≤d,d<900,0≤m,m<900])
 |_=>none
theorem ack {k n m:Nat} {z:Nat→Int} {a d:Int} {o:ah} (ho:∀ρ,cD ρ o (jI n z a)) (h:cB n (fun i=>.int .i64 (z i)) a) (hd1:1≤d) (hd2:d<900) (hm2:m<900) (K:Nat):
  az P x5 K [.ptr k 0 2 0 [],.int .i64 d,.int .i64 m] [(k,o)] ⟨cq (mK n (fun i=>.int .i64 (z i)) a d m) 64 200,[(k,jI n z (EG n (fun i=>.int .i64 (z i)) a d m))],[]⟩:=by
 refine Jf hT KN rfl rfl (of_decide_eq_true (by kernel_rfl)) ho (fun _ c hk=>?_) K
 have a1:=g7 (n:=n) (f:=fun i=>.int .i64 (z i)) (a:=a) (m:=d) (by omega)
 have a2:=iz (n:=n) (f:=fun i=>.int .i64 (z i)) (a:=a) (m:=d) (by omega)
 have a3:=g7 (n:=n) (f:=fun i=>.int .i64 (z i)) (a:=aR n a) (m:=d) (by omega)
 have a4:=iz (n:=n) (f:=fun i=>.int .i64 (z i)) (a:=aR n a) (m:=d) (by omega)
 have hJ1:=zE (n:=n) (f:=fun i=>.int .i64 (z i)) (a:=aR n (aR n a)) (m:=m)
 obtain⟨u,eu⟩:∃u,u=eJ n (fun i=>.int .i64 (z i)) a d:=⟨_,rfl⟩
 obtain⟨v,ev⟩:∃v,v=eJ n (fun i=>.int .i64 (z i)) (aR n a) d:=⟨_,rfl⟩
 have hu:1+cy n (fun i=>.int .i64 (z i)) a d=(u:Int):=by rw[eu];unfold eJ;omega
 have hv:1+cy n (fun i=>.int .i64 (z i)) (aR n a) d=(v:Int):=by rw[ev];unfold eJ;omega
 have k1:=h.next.next
 have k2:=k1.fG (p:=u) (m:=m) (by omega)
 have k3:=k2.fG (p:=v) (m:=m) (by omega)
 have k4:=k3.next
 have hJ2:=zE (n:=n) (f:=fun i=>.int .i64 (z i)) (a:=eF n (fun i=>.int .i64 (z i)) (aR n (aR n a)) u m) (m:=m)
 have n1:iD n (fun i=>.int .i64 (z i)) (aR n (aR n a)) u m=2*u+2+gv n (fun i=>.int .i64 (z i)) (aR n (aR n a)) m:=rfl
 have n2:iD n (fun i=>.int .i64 (z i)) (eF n (fun i=>.int .i64 (z i)) (aR n (aR n a)) u m) v m=2*v+2+gv n (fun i=>.int .i64 (z i)) (eF n (fun i=>.int .i64 (z i)) (aR n (aR n a)) u m) m:=rfl
 unfold EG mK vm
 rw[←eu,←ev]
 dsimp only
 refine UG (B:=aR n (eF n (fun i=>.int .i64 (z i)) (eF n (fun i=>.int .i64 (z i)) (aR n (aR n a)) u m) v m)) (b:=cy n (fun i=>.int .i64 (z i)) (eF n (fun i=>.int .i64 (z i)) (eF n (fun i=>.int .i64 (z i)) (aR n (aR n a)) u m) v m) 3==2)
  (mm:=u+1+gv n (fun i=>.int .i64 (z i)) (aR n (aR n a)) m) (m:=v+1+gv n (fun i=>.int .i64 (z i)) (eF n (fun i=>.int .i64 (z i)) (aR n (aR n a)) u m) m) (ku:=ki n (fun i=>.int .i64 (z i)) (aR n (aR n a)) u m) (kv:=ki n (fun i=>.int .i64 (z i)) (eF n (fun i=>.int .i64 (z i)) (aR n (aR n a)) u m) v m)
  (na:=iD n (fun i=>.int .i64 (z i)) (aR n (aR n a)) u m) (nb:=iD n (fun i=>.int .i64 (z i)) (eF n (fun i=>.int .i64 (z i)) (aR n (aR n a)) u m) v m) (u:=u) (v:=v) (d:=d) (M:=d) (a0:=a) hk k4 (by omega) (by omega) (by omega) (by omega) (by omega) (by omega) (by omega) (by omega) ⟨_,ac0,?_⟩ ?_
 ·simp only[aa.all,ax,hu,hv,Int.toNat_natCast]
  exact⟨⟨h,by omega,by omega,by omega,h.next,by omega,by omega,by omega,by omega⟩,⟨by omega,k1,by omega,by omega,by omega,by omega,by omega,k2,by omega,by omega,by omega,by omega,by omega,by omega⟩,⟨k3,by omega,by omega⟩,0,Nat.zero_le _,[(0,0),(1,1),(2,40961)],rfl,rfl,rfl,jb rfl (by omega) (by omega) (aN rfl rfl (lT ⟨⟨rfl,aH rfl⟩,⟨rfl,aH rfl⟩,⟨rfl,aH rfl⟩,⟨rfl,aH rfl⟩,⟨rfl,nS (by omega)⟩,trivial⟩) (aN rfl rfl (aK rfl rfl) (aN rfl rfl (aK rfl (by rw[Nat.zero_mul];rfl)) trivial)))⟩
 ·refine ak.gz (aC.K1 hT GI hm 60 UX (by kernel_rfl) ?_)
  simp only[aa.all,ax]
  exact⟨⟨by omega,by omega⟩,by omega,.refl _,_,rfl,rfl,lC rfl rfl⟩
theorem afs:∀K args pre r,gA Co K args pre=some r→az P x5 K args pre r:=by
 refine qn fun {k n z a l v b q o} K hg ho hd hq=>?_
 unfold Co at hg
 split at hg
 ·rename_i d m
  simp only[Option.some.injEq,Prod.mk.injEq]at hg
  obtain⟨rfl,rfl,rfl⟩:=hg
  obtain⟨h1,h2,h3,h4⟩:1≤d∧d<900∧0≤m∧m<900:=hq
  have:=ack (k:=k) (m:=m.toNat) ho hd h1 h2 (by omega) K
  rw[Int.toNat_of_nonneg h3]at this
  exact this
 ·simp at hg
theorem SL {b:Bool} {n:Nat} {f:Nat→AV} {a:Int} {i j:Nat}:0<(jT b n f a i j).d:=by
 have c1:=g7 (n:=n) (f:=f) (a:=j9 n f a) (m:=3) (by omega)
 have key:0<(mq n f a false).d:=by
  unfold mq
  dsimp only
  generalize cy n f (j9 n f a) 3=x at*
  exact_mod_cast (show 0<1+x by omega)
 unfold jT
 split
 ·exact key
 ·exact key
theorem VR {n m:Nat} {f:Nat→AV} {a d:Int} (h:cB n f a) (hd:1≤d) (hd2:d≤6) (hm2:m≤20):dG (mK n f a d m):=by
 have a1:=g7 (n:=n) (f:=f) (a:=a) (m:=d) (by omega)
 have a2:=iz (n:=n) (f:=f) (a:=a) (m:=d) (by omega)
 have a3:=g7 (n:=n) (f:=f) (a:=aR n a) (m:=d) (by omega)
 have a4:=iz (n:=n) (f:=f) (a:=aR n a) (m:=d) (by omega)
 have hJ1:=zE (n:=n) (f:=f) (a:=aR n (aR n a)) (m:=m)
 unfold mK
 obtain⟨u,eu⟩:∃u,u=eJ n f a d:=⟨_,rfl⟩
 obtain⟨v,ev⟩:∃v,v=eJ n f (aR n a) d:=⟨_,rfl⟩
 have hu:1+cy n f a d=(u:Int):=by rw[eu];unfold eJ;omega
 have hv:1+cy n f (aR n a) d=(v:Int):=by rw[ev];unfold eJ;omega
 have k1:=h.next.next
 have k2:=k1.fG (p:=u) (m:=m) (by omega)
 have hJ2:=zE (n:=n) (f:=f) (a:=eF n f (aR n (aR n a)) u m) (m:=m)
 have n1:iD n f (aR n (aR n a)) u m=2*u+2+gv n f (aR n (aR n a)) m:=rfl
 have n2:iD n f (eF n f (aR n (aR n a)) u m) v m=2*v+2+gv n f (eF n f (aR n (aR n a)) u m) m:=rfl
 rw[←eu,←ev]
 refine⟨?_,?_,by dsimp only;omega,by dsimp only;omega,by dsimp only;omega,by dsimp only;omega,by dsimp only;rw[Int.toNat_natCast];omega,by dsimp only;rw[Int.toNat_natCast];omega,by dsimp only;omega,by dsimp only;omega,fun i j _ _=>SL⟩
 ·dsimp only
  rw[Int.toNat_natCast]
  exact(xA k1 (by omega) _).1.done
 ·dsimp only
  rw[Int.toNat_natCast]
  exact(xA k2 (by omega) _).1.done
end Go.Am.B

/- ref10.SamePoles, Same at the sizes of curves on surfaces. -/
namespace Go.Am.B
open Go Go.Am.N AV aa aj IntKind
theorem Oo:aO P xp ye (aq ye):=aP XJ (by kernel_rfl) (by kernel_rfl) (by kernel_rfl)
theorem aem:aO P A2 tR (aq tR):=aP WA (by kernel_rfl) (by kernel_rfl) (by kernel_rfl)
noncomputable def L7:aS:=[(EK,fL T (sG::lQ) [100010,100017] 60 BX)]
noncomputable def AW:aS:=nG::(L7++lQ)
noncomputable abbrev yA:Code:=aq ye
abbrev B9 (n m:Nat) (f g:Nat→Pl) (i:Nat):List AV:=[bg f n sE,bg g m sE,.bool false,.int .i64 i]
def F3:Spec:=cC (kC (mz sE) (kC (mz sE) kN)) (fun _=>.bool true) fun a=>[a.1.1<2^30,a.1.1=a.2.1.1,∀i,i<a.1.1→a.1.2 i=a.2.1.2 i]
noncomputable def GJ:aS:=nG::(wE,Iz)::(xp,F3)::[]
noncomputable def GB:Spec:=cC (kC (yL sK sE) (kC (yL sK sE) kN)) (fun _=>.bool true) fun a=>[a.1=a.2.1,a.1.n<2^30,a.1.m<2^30]
theorem Sa {n m:Nat} {f g:Nat→Pl}:aG T AW [200010] 60 [0,1,4,5] (before yA [1,1,0,1]) ⟨aM 0 [bg f n sE,bg g m sE],[],0⟩=
  some (af [((↑n:Int)!=(↑m:Int))=false] (leaf normal ([ag 12 n fun i↦agg [agg [rat (f i).n.x 4294967298,rat (f i).n.y 4294967298,rat (f i).n.z 4294967298],rat (f i).d 4294967298],ag 12 m fun i↦agg [agg [rat (g i).n.x 4294967298,rat (g i).n.y 4294967298,rat (g i).n.z 4294967298],rat (g i).d 4294967298],AV.bool false,int i64 (0:Int)],[]))):=by kernel_rfl
theorem Um {n m i:Nat} {f g:Nat→Pl}:aG T AW [14,200029,200042] 60 [0,1,4,5] [part yA [1,1,0,1,0,0]] ⟨aB [0,1,4,5] (B9 n m f g i),[],0⟩=
  let c4:Int:=(↑i:Int);let c3:AV:=ag 12 n fun i↦agg [agg [rat (f i).n.x 4294967298,rat (f i).n.y 4294967298,rat (f i).n.z 4294967298],rat (f i).d 4294967298];let c2:AV:=ag 12 m fun i↦agg [agg [rat (g i).n.x 4294967298,rat (g i).n.y 4294967298,rat (g i).n.z 4294967298],rat (g i).d 4294967298];let c8:Int:=c4+(1:Int);let c5:Prop:=(0:Int)≤c4;let c1:Nat:=c4.toNat;let c7:V3:=(g c1).n;let c6:V3:=(f c1).n;some (fork (decide (c4<(↑n:Int))) (af [c5∧c1<n,c5∧c1<m,decide (c6.x=c7.x)=true,(bif true then decide (c6.y=c7.y)else false)=true,(!bif true then decide (c6.z=c7.z)else false)=false,c5∧c1<n,c5∧c1<m] (af [(bif false then true else !decide ((f c1).d=(g c1).d))=false] (af [-(2:Int)^63≤c8∧c8<(2:Int)^63] (leaf normal ([c3,c2,AV.bool false,int i64 c8],[]))))) (leaf (exit 0) ([c3,c2,AV.bool false,int i64 c4],[]))):=by kernel_rfl
theorem XH {n m i:Nat} {f g:Nat→Pl}:bZ T AW [] 60 ye [part yA [1,1,1]] ⟨aB [0,1,4,5] (B9 n m f g i),[],0⟩=
  some (leaf ret [AV.bool true]):=by kernel_rfl
theorem afc {c d:Cu}:bu T GJ [100010,100017] 60 tR (aq tR) ⟨aM 0 [e9 c sK sE,e9 d sK sE],[],0⟩=
  let c1:Prop:=0<1;some (af [c1,c1,(c.p==d.p)=true,c1,c1,bB (fun i↦rat (c.k i) sK) c.n sU,bB (fun i↦rat (d.k i) sK) d.n sU,c.n<2^40,d.n<2^40,(bif true then xV c.n (fun i↦aI (rat (c.k i) sK)) d.n fun i↦aI (rat (d.k i) sK)else false)=true,c1,c1,gd (fun i↦bN (c.f i) sE) c.m sE,gd (fun i↦bN (d.f i) sE) d.m sE,c.m<2^30,c.m=d.m,∀(i:Nat),i<c.m→iu (bN (c.f i) sE)=iu (bN (d.f i) sE)] (leaf ret [AV.bool true])):=by kernel_rfl
theorem Ye:aW P L7:=aD (fU hT (ji nA) hm (aP G7 (by kernel_rfl) (by kernel_rfl) (by kernel_rfl)) _ _) aX
theorem TL:aW P AW:=cw (BG Ye nA)
theorem abI {n m:Nat} {f g:Nat→Pl} (hn:n<2^30) (hm2:n=m) (he:∀i,i<n→f i=g i) (K:Nat):az P xp K [bg f n sE,bg g m sE] [] (aF (.bool true) []):=by
 refine iL (r:=aF (.bool true) []) hT TL hm Oo rfl (of_decide_eq_true (by kernel_rfl)) rfl [1,1,0,1] (i:=0) (y:=part yA [1,1,0,1,0,0]) (z:=part yA [1,1,1]) (by kernel_rfl) (by kernel_rfl) (by kernel_rfl) (f1:=[200010]) (f2:=[14,200029,200042]) (f3:=[]) 60 [0,1,4,5] 0
  (fun i:Nat=>B9 n m f g i) (fun _=>[]) (fun i=>i≤n) (fun i=>i=n) (fun i=>n-i) (fun _=>⟨⟨_,Sa,?_⟩,fun i h1=>⟨_,Um,?_⟩,fun i h1=>⟨_,XH,?_⟩⟩) K []
 all_goals try simp only[aa.all,ax,decide_eq_true_eq,decide_eq_false_iff_not,Int.toNat_natCast]
 ·exact⟨bne_eq_false_iff_eq.2 (by omega),0,Nat.zero_le _,.vals rfl⟩
 ·refine⟨fun h=>?_,fun h=>⟨rfl,i,by omega,.vals rfl⟩⟩
  have e:=he i (by omega)
  exact⟨⟨by omega,by omega,by rw[e],decide_eq_true (congrArg (fun p:Pl=>p.n.y) e),congrArg (!·) (decide_eq_true (congrArg (fun p:Pl=>p.n.z) e)),by omega,by omega⟩,congrArg (!·) (decide_eq_true (congrArg (fun p:Pl=>p.d) e)),by omega,i+1,by omega,by dsimp only;omega,.vals rfl⟩
 ·exact .refl _
theorem Tg:∀K args pre r,F3 K args pre=some r→az P xp K args pre r:=cz fun _ K hn=>abI hn.1 hn.2.1 hn.2.2 K
theorem acI:aW P GJ:=cw (aD XI (aD Tg aX))
theorem Z8:∀K args pre r,GB K args pre=some r→az P A2 K args pre r:=cz fun⟨c,d,_⟩ K hn=>by
 obtain⟨h1,h2,h3⟩:=hn
 have h1:c=d:=h1
 have h2:c.n<2^30:=h2
 have h3:c.m<2^30:=h3
 subst h1
 refine bC (r:=aF (.bool true) []) hT acI hm aem rfl (of_decide_eq_true (by kernel_rfl)) rfl 60 afc (fun _=>?_) K []
 have hs:xV c.n (fun i=>aI (rat (c.k i) sK)) c.n (fun i=>aI (rat (c.k i) sK))=true:=decide_eq_true ⟨rfl,fun _ _=>rfl⟩
 simp only[aa.all,ax,hs,cond_true]
 (repeat' with_reducible refine And.intro ?_ ?_)
 all_goals first|omega|exact beq_self_eq_true _|exact cm (by decide)|exact nw (Nat.le_refl _)|exact h2|exact h3|exact fun _ _=>rfl|exact fun _ _=>trivial|trivial|exact .refl _|skip
end Go.Am.B
