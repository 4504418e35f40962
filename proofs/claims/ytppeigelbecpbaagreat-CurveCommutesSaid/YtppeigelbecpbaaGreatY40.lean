/- ref10.Mirror, curve.Mirror. -/
import Derived.Test.YtppeigelbecpbaaGreatY39
import Derived.Test.YtppeigelbecpbaaGreatY37
import Derived.Test.YtppeigelbecpbaaGreatY38
import Derived.Test.YtppeigelbecpbaaGreatZ2
set_option linter.unusedVariables false
namespace Go.Am.B
open Go Go.Am.N AV aa aj IntKind
abbrev Qz:FuncId:=JW
abbrev BX:FuncId:=wO
noncomputable abbrev qY:Code:=au F5
theorem YQ:aO P Qz Dh (au Dh):=aQ XN (by kernel_rfl) (by kernel_rfl) (by kernel_rfl)
theorem Fe:aO P BX F5 qY:=aQ ahU (by kernel_rfl) (by kernel_rfl) (by kernel_rfl)
theorem IN:aO P z9 yC (au yC):=aQ aeU (by kernel_rfl) (by kernel_rfl) (by kernel_rfl)
noncomputable abbrev K5:Nat:=loadT (cV qY [0] 0)
noncomputable abbrev Po:Nat:=loadT (cV qY [1,0,0,1,0,0,0] 5)
noncomputable abbrev US:Nat:=Q6 (cV qY [0] 2)
theorem WB:Em qY K5 Po US:=⟨by kernel_rfl,⟨by kernel_rfl,by kernel_rfl,by kernel_rfl⟩,⟨by kernel_rfl,by kernel_rfl,by kernel_rfl⟩,⟨by kernel_rfl,by kernel_rfl,by kernel_rfl⟩,⟨by kernel_rfl,by kernel_rfl,by kernel_rfl⟩,⟨by kernel_rfl,by kernel_rfl,by kernel_rfl⟩,⟨by kernel_rfl,by kernel_rfl,by kernel_rfl⟩,⟨by kernel_rfl,by kernel_rfl,by kernel_rfl⟩,⟨by kernel_rfl,by kernel_rfl,by kernel_rfl⟩,⟨by kernel_rfl,by kernel_rfl,by kernel_rfl⟩,⟨by kernel_rfl,by kernel_rfl,by kernel_rfl⟩,⟨by kernel_rfl,by kernel_rfl,by kernel_rfl⟩,⟨by kernel_rfl,by kernel_rfl,by kernel_rfl⟩,
 ⟨MC (cV qY [1,0,0,1,0,0,0] 6),by kernel_rfl,by kernel_rfl,by kernel_rfl⟩,⟨Q0 (cV qY [1,0,0,1,0,0,0] 7),by kernel_rfl,by kernel_rfl,by kernel_rfl⟩,⟨by kernel_rfl,by kernel_rfl,by kernel_rfl⟩,⟨by kernel_rfl,by kernel_rfl,by kernel_rfl⟩,⟨by kernel_rfl,by kernel_rfl,by kernel_rfl⟩⟩
theorem ag5 {n s:Nat} {f:Nat→Pl} (hn:n<2^62):yg P BX [.bI (gV f n s)] n (fun i=>.int .i64 ((n:Int)-1-i)) (fun i=>bu (f (n-1-i)) s):=
 Ju hT (tiS:=(look K5 T).getD ⟨.bool,0,0,.nil⟩) (tiE:=(look Po T).getD ⟨.bool,0,0,.nil⟩) (by kernel_rfl) (by kernel_rfl) (by kernel_rfl) (by kernel_rfl) Fe.get Fe.body (by kernel_rfl) (by kernel_rfl) WB (f:=fun i=>bu (f i) s) hn (by kernel_rfl) fun i hi=>⟨rfl,rfl⟩
def Ar (c:Cu):Cu:=⟨c.p,c.n,hU c.n c.k,c.m,fun j=>c.f (c.m-1-j)⟩
noncomputable def QM:aR:=[(GZ,fT T (sG::fI) [] 60 Gr)]
noncomputable def JP:aR:=[(Gk,fT T (sG::QM) [] 60 HT)]
noncomputable def Lk:aR:=[(NI,fT T (sG::(JP++fI)) [] 60 Kw)]
noncomputable def wY (s w:Nat):aR:=nG::(Qz,fT T [sG] [] 20 Dh)::(Al,Qc s w)::Lk
abbrev Ao:List Nat:=[1,2,3,14]
abbrev He (c:Cu) (r:Nat):List AV:=[.ptr 0 0 3 0 [],.ptr 1 0 3 0 [],.ptr 2 0 3 0 [],.func BX [.bI (gV c.f c.m r)]]
abbrev A0 (c:Cu) (s r y w i:Nat):aC:=[(3,⟨true,true,12,i,fun j=>bu (c.f (c.m-1-j)) w⟩),(2,⟨false,true,3,1,fun _=>.agg [.int .i64 c.p,bt (hU c.n c.k) c.n y,.own 3 12 0 i]⟩),(1,⟨false,true,3,1,fun _=>.agg [.int .i64 0,.nil,.nil]⟩),(0,⟨false,true,3,1,fun _=>cI c s r⟩)]
abbrev FX:List Nat:=[1,2,3,14,5]
abbrev M7 (c:Cu) (r:Nat):List AV:=[.ptr 0 0 3 0 [],.ptr 1 0 3 0 [],.ptr 2 0 3 0 [],.func BX [.bI (gV c.f c.m r)],.ptr 4 0 12 0 []]
noncomputable abbrev qz:Code:=au yC
noncomputable abbrev OQ:Code:=(CN (part qz [1,1,0,1])).1
noncomputable abbrev KW:Code:=(CN (part qz [1,1,0,1])).2
abbrev Q7 (p:Pl) (s:Nat):ah:=⟨false,true,12,1,fun _=>bu p s⟩
theorem adF {c:Cu} {s r y:Nat}:aH T (wY s y) [] 60 Ao (before qz [1,1,0,1]) ⟨aN 0 [cI c s r],[],0⟩=
  let c3:Prop:=0<1;let c2:AV:=agg [int i64 (0:Int),nil,nil];let c1:AV:=ak 12 c.m fun i↦agg [agg [rat (c.f i).n.x r,rat (c.f i).n.y r,rat (c.f i).n.z r],rat (c.f i).d r];some (ag [c3,c3,bG (fun i↦rat (c.k i) s) c.n s,c.n<2^40,c3] (ag [c3] (leaf normal ([ptr 0 0 (bn (cI c s r)).size 0 [],ptr 4096 0 3 0 [],ptr 32768 0 3 0 [],func wO [c1.bI]],[((32768:Nat),ah.mk false true 3 1 fun j↦if(j==0)=true then bn (agg ((c2.kids.set 0 (bn (int i64 c.p))).set 1 (bn (bt (hU c.n fun i↦aS (rat (c.k i) s)) c.n y))))else c2),((4096:Nat),ah.mk false true 3 1 fun x↦c2),((0:Nat),ah.mk false true (bn (cI c s r)).size 1 fun x↦agg [int i64 c.p,ak 3 c.n fun i↦rat (c.k i) s,c1])])))):=by kernel_rfl
theorem U7 {c:Cu} {s r y w i:Nat} {u:Int} {v:Pl}:aH T (wY s y) [] 60 FX [OQ] ⟨aA (Ao++[15,16]) (He c r++[.int .i64 u,bu v r]),A0 c s r y w i,4⟩=
  let c3:Nat:=c.m-1;let c2:AV:=rat 0 1;let c1:AV:=ak 12 c.m fun i↦agg [agg [rat (c.f i).n.x r,rat (c.f i).n.y r,rat (c.f i).n.z r],rat (c.f i).d r];some (ag [(0:Nat)<1] (leaf normal ([ptr 0 0 3 0 [],ptr 1 0 3 0 [],ptr 2 0 3 0 [],func wO [c1.bI],ptr 4 0 12 0 []],[((3:Nat),ah.mk true true 12 i fun j↦agg [agg [rat (c.f (c3-j)).n.x w,rat (c.f (c3-j)).n.y w,rat (c.f (c3-j)).n.z w],rat (c.f (c3-j)).d w]),((4:Nat),ah.mk false true 12 1 fun j↦if(j==0)=true then bn (bu v r)else agg [agg [c2,c2,c2],c2]),((2:Nat),ah.mk false true 3 1 fun x↦agg [int i64 c.p,ak 3 c.n fun i↦rat (hU c.n c.k i) y,own 3 12 0 i]),((1:Nat),ah.mk false true 3 1 fun x↦agg [int i64 (0:Int),nil,nil]),((0:Nat),ah.mk false true 3 1 fun x↦agg [int i64 c.p,ak 3 c.n fun i↦rat (c.k i) s,c1])]))):=by kernel_rfl
theorem adV {c:Cu} {s r y w i:Nat} {v:Pl}:aH T (wY s y) [] 60 Ao [KW] ⟨aA FX (M7 c r),(4,Q7 v r)::A0 c s r y w i,5⟩=
  let c6:AV:=rat 0 1;let c5:Nat:=r+1+1;let c4:AV:=agg [int i64 c.p,bt (hU c.n c.k) c.n y,own 3 12 0 i];let c3:Prop:=0<1;let c2:AV:=ak 12 c.m fun i↦agg [agg [rat (c.f i).n.x r,rat (c.f i).n.y r,rat (c.f i).n.z r],rat (c.f i).d r];let c1:Nat:=2^42;let c7:Prop:=1<c1;some (ag [c3,c3,r<c1,c7,r<c1,c7,r<c1,c7,c3,c3,r<c1,c7,c3,(1:Nat)*12≤2^24,(i+1)*((224:Nat)+1)*2≤2^47,c3] (leaf normal ([ptr 0 0 3 0 [],ptr 1 0 3 0 [],ptr 2 0 3 0 [],func wO [c2.bI]],[((20485:Nat),ah.mk true true 12 (i+1) fun i_1↦if i_1<i then bu (c.f (c.m-1-i_1)) w else nth [agg [agg [rat (v.n.x+0) c5,rat (v.n.y+0) c5,rat (v.n.z+0) c5],rat (v.d+0) c5]] (agg [agg [c6,c6,c6],c6]) (i_1-i+0)),((2:Nat),ah.mk false true 3 1 fun j↦if(j==0)=true then agg (c4.kids.set 2 (bn (own (nat_lit 20484+1) 12 0 (i+1))))else c4),((1:Nat),ah.mk false true 3 1 fun x↦agg [int i64 (0:Int),nil,nil]),((0:Nat),ah.mk false true 3 1 fun x↦agg [int i64 c.p,ak 3 c.n fun i↦rat (c.k i) s,c2])]))):=by kernel_rfl
theorem X7 {c:Cu} {s r y w i:Nat}:cm T (wY s y) [] 60 yC [part qz [1,1,1]] ⟨aA Ao (He c r),A0 c s r y w i,4⟩=
  let c2:Prop:=0<1;let c1:Nat:=c.m-1;some (ag [c2,c2] (ag [c2] (leaf ret [agg [int i64 c.p,ak 3 c.n fun i↦rat (hU c.n c.k i) y,ak 12 i fun i↦agg [agg [rat (c.f (c1-(i+0))).n.x w,rat (c.f (c1-(i+0))).n.y w,rat (c.f (c1-(i+0))).n.z w],rat (c.f (c1-(i+0))).d w]]]))):=by kernel_rfl
theorem akz:aY P QM:=aG (gd hT (ij ga) hm (aQ Jh (by kernel_rfl) (by kernel_rfl) (by kernel_rfl)) _ _) bk
theorem aiw:aY P JP:=aG (gd hT (ij akz) hm (aQ Mm (by kernel_rfl) (by kernel_rfl) (by kernel_rfl)) _ _) bk
theorem ahZ:aY P Lk:=aG (gd hT (ij (qm aiw ga)) hm (aQ aje (by kernel_rfl) (by kernel_rfl) (by kernel_rfl)) _ _) bk
theorem PD {s y:Nat} (h:3*s+2≤y) (hy:y<2^40):aY P (wY s y):=dr (aG (gd hT (ij bk) hm YQ _ _) (aG (afE h hy) ahZ))
theorem abI (c:Cu) (s r:Nat):(bn (cI c s r)).size=3:=by kernel_rfl
theorem K0 {rl:List (Nat×Nat)} {c:Cu} {y a i:Nat} (h:aT rl 3=some a):fD rl (.agg [.int .i64 c.p,bt (hU c.n c.k) c.n y,.own a 12 0 i]) (.agg [.int .i64 c.p,bt (hU c.n c.k) c.n y,.own 3 12 0 i]):=
 jd ⟨⟨rfl,aI rfl⟩,⟨rfl,aI rfl⟩,⟨rfl,cw h rfl rfl⟩,trivial⟩
def Q4 (s r y w:Nat):Spec:=cQ (kC (jF s r) kN) (fun a=>cI (Ar a.1) y w) fun a=>[a.1.n<2^30,a.1.m<2^30]
theorem ahH {c:Cu} {s r y w:Nat} (h1:3*s+2≤y) (hy:y<2^40) (h2:r+2≤w) (hw:w<2^40) (hn:c.n<2^30) (hm2:c.m<2^30) (K:Nat):aB P z9 K [cI c s r] [] (aK (cI (Ar c) y w) []):=by
 refine Mu (r:=aK (cI (Ar c) y w) []) hT IN rfl (of_decide_eq_true (by kernel_rfl)) rfl (fun _ cx hro hk=>?_) K []
 refine aq.Ob hT (PD h1 hy) hm (x:=qz) (assign:=OQ) (body:=KW) (g:=14) (p0:=15) (p1:=16) [1,1,0,1] (i:=0) (by kernel_rfl) (by kernel_rfl) IN.dst hro hk Fe.enters (ag5 (s:=r) (f:=c.f) (by omega)) (of_decide_eq_true (by kernel_rfl)) (of_decide_eq_true (by kernel_rfl)) (by decide) (f1:=[]) (f2:=[]) (f3:=[])
  60 Ao FX (He c r) (fun _=>rfl) rfl (fun i=>A0 c s r y w i) 4 5 (fun _=>M7 c r) (fun i=>(4,Q7 (c.f (c.m-1-i)) r)::A0 c s r y w i) [0,1,2] ⟨_,adF,?_⟩ (fun i hi=>⟨_,U7,?_⟩) (fun i hi=>⟨_,adV,?_⟩) ?_
 ·simp only[aa.all,ax]
  rw[abI c s r]
  exact⟨⟨by omega,by omega,cM (Nat.le_refl _),by omega,by omega⟩,by omega,trivial,[(0,0),(1,4096),(2,32768)],rfl,rfl,rfl,mw rfl (by omega) (by omega) (aJ rfl rfl (jd ⟨⟨rfl,aI rfl⟩,⟨rfl,aI rfl⟩,⟨rfl,mo (by omega)⟩,trivial⟩) (aJ rfl rfl (aE rfl rfl) (aJ rfl rfl (aE rfl rfl) trivial)))⟩
 ·simp only[aa.all,ax]
  exact⟨by omega,trivial,[(0,0),(1,1),(2,2),(3,3),(4,4)],rfl,rfl,rfl,aJ rfl rfl (aE rfl rfl) (bh rfl rfl rfl (fun _ _=>aE rfl rfl) (aJ rfl rfl (K0 rfl) (aJ rfl rfl (aE rfl rfl) (aJ rfl rfl (aE rfl rfl) trivial))))⟩
 ·simp only[aa.all,ax,Int.toNat_zero]
  refine⟨?_,trivial,[(0,0),(1,1),(2,2),(3,20485)],rfl,rfl,rfl,bh rfl rfl rfl (fun k hk=>FB (y:=fun j=>c.f (c.m-1-j)) (fun _ _=>rfl) (s':=w) ?_ rfl (Nat.le_refl _) (Nat.le_refl _) hk) (aJ rfl rfl (K0 rfl) (aJ rfl rfl (aE rfl rfl) (aJ rfl rfl (aE rfl rfl) trivial)))⟩
  ·(repeat' with_reducible refine And.intro ?_ ?_)<;>omega
  ·exact dn ⟨dn ⟨bS (Rat.add_zero _) (by omega),bS (Rat.add_zero _) (by omega),bS (Rat.add_zero _) (by omega),trivial⟩,bS (Rat.add_zero _) (by omega),trivial⟩
 ·rw[show behind qz [1,1,0,1]=[part qz [1,1,1]]from by kernel_rfl]
  exact(aD.fin hT (PD h1 hy) hm 60 X7 (by kernel_rfl) (by simp only[aa.all,ax];exact⟨by omega,by omega,.refl _⟩)).mono fun _ _ h=>.inl h
theorem WE {s r y w:Nat} (h1:3*s+2≤y) (hy:y<2^40) (h2:r+2≤w) (hw:w<2^40):∀K args pre q,Q4 s r y w K args pre=some q→aB P z9 K args pre q:=cU fun⟨c,_⟩ K hn=>ahH h1 hy h2 hw hn.1 hn.2 K
end Go.Am.B

/- Parts of spans; where a parameter within a span lies. -/
namespace Go.Am.B
open Go Go.Am.N AV aa aj IntKind
theorem Yb {d:Int}:0≤lY d∧lY d≤1:=by
 unfold lY
 have h1:1≤uN d:=by
  unfold uN
  have:=Int.emod_nonneg (IntKind.i64.wrap (d.tdiv 17)) (show(12:Int)≠0 by omega)
  omega
 generalize uN d=m at*
 have h2:=Int.emod_nonneg d (show m+1≠0 by omega)
 have h3:=Int.emod_lt_of_pos d (show 0<m+1 by omega)
 generalize d%(m+1)=x at*
 have e1:(0:Rat)≤(x:Rat):=by exact_mod_cast h2
 have e2:(x:Rat)≤(m:Rat):=by exact_mod_cast (show x≤m by omega)
 have e3:(0:Rat)<(m:Rat):=by exact_mod_cast (show 0<m by omega)
 have e4:(x:Rat)/(m:Rat)*(m:Rat)=(x:Rat):=Rat.div_mul_cancel (by intro h;rw[h]at e3;exact absurd e3 (by decide))
 generalize (x:Rat)/(m:Rat)=q at*
 generalize (x:Rat)=u at*
 generalize (m:Rat)=v at*
 refine⟨?_,?_⟩
 ·rcases Rat.le_total (a:=0) (b:=q)with h|h
  ·exact h
  ·by_cases hq:q=0
   ·rw[hq];exact Rat.le_refl
   ·have:=Rat.mul_pos (a:=-q) (b:=v) (by grind) e3
    grind
 ·rcases Rat.le_total (a:=q) (b:=1)with h|h
  ·exact h
  ·by_cases hq:q=1
   ·rw[hq];exact Rat.le_refl
   ·have:=Rat.mul_pos (a:=q-1) (b:=v) (by grind) e3
    grind
theorem aaj {a b:Rat} {d:Int} (h:a≤b):a≤a+lY d*(b-a)∧a+lY d*(b-a)≤b:=by
 obtain⟨h1,h2⟩:=Yb (d:=d)
 generalize lY d=q at*
 have e1:=Rat.mul_nonneg h1 (show 0≤b-a by grind)
 have e2:=Rat.mul_nonneg (show 0≤1-q by grind) (show 0≤b-a by grind)
 constructor<;>grind
theorem Kn.Zp {n p:Nat} {k:Nat→Rat} (h:Kn n p k) {d:Int}:¬ek n k (k 0+lY d*(k (n-1)-k 0)):=by
 have hl:=h.len
 obtain⟨h1,h2⟩:=aaj (d:=d) (h.mono (show 0≤n-1 by omega) (show n-1<n by omega))
 rintro(h3|h3)<;>grind
theorem Kn.ae0 {n p:Nat} {k:Nat→Rat} (h:Kn n p k) {t:Rat} (hin:¬ek n k t):Iw n k t (bP n k t):=by
 have h1:¬t<k 0:=fun h=>hin (.inl h)
 have h2:¬k (n-1)<t:=fun h=>hin (.inr h)
 exact(h.D4 (by grind) (by grind)).1
end Go.Am.B

/- law08: made, awake; rational.Make. -/
namespace Go.Am.B
open Go Go.Am.N AV aa aj IntKind
theorem acm:aO P wN yI (au yI):=aQ RF (by kernel_rfl) (by kernel_rfl) (by kernel_rfl)
abbrev zz (z:Nat→Int):Nat→AV:=fun i=>.int .i64 (z i)
theorem Ut {x y:Int}:bF T GA [7] 60 yI (au yI) ⟨aN 0 [.int .i64 x,.int .i64 y],[],0⟩=
  let c3:List Prop:=[(0:Nat)<1];let c2:Int:=(2:Int)^63;let c1:Rat:=sQ (decide (x<(0:Int))!=decide (y<(0:Int))) x.natAbs y.natAbs;some (fork (y==(0:Int)) (ag c3 (ag c3 (leaf ret [agg [AV.bool false,mag 0,mag 0],int i64 (3:Int)]))) (ag ((-c2≤x)::(x<c2)::(-c2≤y)::(y<c2)::(nl x.natAbs<2^40)::(nl y.natAbs<2^40)::c3) (ag c3 (leaf ret [rat c1 (ct c1),int i64 (0:Int)])))):=by kernel_rfl
theorem Xp {x y:Int} (h1:-2^63≤x) (h2:x<2^63) (h3:-2^63≤y) (h4:y<2^63) (K:Nat):aB P wN K [.int .i64 x,.int .i64 y] [] (aK (.tuple [.rat ((x:Rat)/(y:Rat)) 64,.int .i64 (if y=0 then 3 else 0)]) []):=by
 refine bJ hT uW hm acm rfl (of_decide_eq_true (by kernel_rfl)) rfl 60 Ut (fun _=>?_) K []
 simp only[aa.all,ax,beq_iff_eq,beq_eq_false_iff_ne,ne_eq]
 refine⟨fun hb=>⟨by omega,by omega,?_,bw (by rw[if_pos hb]),trivial⟩,fun hb=>⟨⟨h1,h2,h3,h4,iZ (n:=64) (by omega) (by omega),iZ (n:=64) (by omega) (by omega),by omega⟩,by omega,fS (Hz hb) (GI h1 h2 h3 h4 hb),bw (by rw[if_neg hb]),trivial⟩⟩
 rw[hb,show((x:Rat)/((0:Int):Rat))=0 by rw[Rat.intCast_zero,Rat.div_def,Rat.inv_zero,Rat.mul_zero]]
 exact lR
end Go.Am.B

/- fF.Greville. -/
namespace Go.Am.B
open Go Go.Am.N AV aa aj IntKind
def N7:Spec:=cQ (kC kI (kC kI kN)) (fun a=>.tuple [.rat ((a.1:Rat)/(a.2.1:Rat)) 64,.int .i64 (if a.2.1=0 then 3 else 0)]) fun a=>[-2^63≤a.1,a.1<2^63,-2^63≤a.2.1,a.2.1<2^63]
theorem RU:∀K args pre r,N7 K args pre=some r→aB P wN K args pre r:=cU fun⟨x,y,_⟩ K hn=>Xp hn.1 hn.2.1 hn.2.2.1 hn.2.2.2 K
end Go.Am.B

/- Mirrored and affinely changed fF, insertions: plain laws; contracts for numbers of any sizes; parts of spans. -/
namespace Go.Am.B
open Go Go.Am.N AV aa aj IntKind
theorem Kn.ends {n p:Nat} {k:Nat→Rat} (h:Kn n p k):k 0<k (n-1):=by
 have h1:=h.p1
 have hl:=h.len
 have:=h.mult 1 (by omega) (by omega)
 have e1:=h.mono (show 0≤1 by omega) (show 1<n by omega)
 have e2:=h.mono (show 1+p≤n-1 by omega) (show n-1<n by omega)
 grind
theorem Dy {n:Nat} {k:Nat→Rat} {a b:Rat} {i:Nat}:mA n k a b i=a+(k i-k 0)*((k (n-1)-k 0)⁻¹*(b-a)):=by
 unfold mA;rw[Rat.div_def];grind
theorem Kn.Sj {n p:Nat} {k:Nat→Rat} {a b:Rat} (h:Kn n p k) (hab:a<b):Kn n p (mA n k a b):=by
 have he:=h.ends
 have hp:0<(k (n-1)-k 0)⁻¹*(b-a):=Rat.mul_pos (Rat.inv_pos.2 (by grind)) (by grind)
 have key:∀i j,k i≤k j→mA n k a b i≤mA n k a b j:=fun i j hij=>by
  rw[Dy,Dy]
  have:=Rat.mul_le_mul_of_nonneg_right (show k i-k 0≤k j-k 0 by grind) (Rat.le_of_lt hp)
  grind
 have keyL:∀i j,k i<k j→mA n k a b i<mA n k a b j:=fun i j hij=>by
  rw[Dy,Dy]
  have:=Rat.mul_lt_mul_of_pos_right (show k i-k 0<k j-k 0 by grind) hp
  grind
 have keyE:∀i j,k i=k j→mA n k a b i=mA n k a b j:=fun i j hij=>by unfold mA;rw[hij]
 exact⟨h.p1,h.len,fun i hi=>key _ _ (h.sorted i hi),fun i hi=>keyE _ _ (h.first i hi),fun i h2 h3=>keyE _ _ (h.last i h2 h3),fun i h2 h3=>keyL _ _ (h.mult i h2 h3)⟩
end Go.Am.B

/- curve.Affine, ref10.Affine. -/
namespace Go.Am.B
open Go Go.Am.N AV aa aj IntKind
def Ev (x r s y w:Nat):Spec:=cQ (kC (jF x r) (kC (VB s) kN)) (fun a=>cI (dg a.2.1 a.1) y w) fun a=>[a.1.n<2^30,a.1.m<2^30]
theorem Pg {x r s y w:Nat} (hx:x+10≤y) (hy:y<2^40) (hw:4*s+3*r+10≤w) (hw2:w<2^40):∀K args pre q,Ev x r s y w K args pre=some q→aB P uR K args pre q:=cU fun⟨c,m,_⟩ K hn=>afI hx hy hw hw2 hn.1 hn.2 K
end Go.Am.B

/- spline.Copied and curve.Move, whose lists may be written to. -/
namespace Go.Am.B
open Go Go.Am.N AV aa aj IntKind
end Go.Am.B

/- curve.Join, ref10.Join. -/
namespace Go.Am.B
open Go Go.Am.N AV aa aj IntKind
end Go.Am.B

/- curve.Same of curves that are the same. -/
namespace Go.Am.B
open Go Go.Am.N AV aa aj IntKind
abbrev cO:Nat:=549755813888
abbrev IK:FuncId:=KH
noncomputable abbrev EO:Func:=QD
noncomputable abbrev tY:Code:=au EO
abbrev Gs (n m:Nat) (f g:Nat→Pl) (i:Nat):List AV:=[gV f n cO,gV g m cO,.func nE [],.bool false,gV f n cO,.int .i64 n,.int .i64 i]
abbrev IA (n m:Nat) (f g:Nat→Rat) (i:Nat):List AV:=[bt f n cO,bt g m cO,.func fu [],.bool false,bt f n cO,.int .i64 n,.int .i64 i]
noncomputable def Lh:aR:=[(JF,fT T (sG::tL) [200016] 60 PE)]
noncomputable def BL:aR:=nG::(nE,fT T (sG::(Lh++tL)) [100010] 60 Cq)::[]
def MF:Spec:=cQ (kC (kL cO) (kC (kL cO) (kC (kF fu) kN))) (fun _=>.bool true) fun a=>[a.1.1<2^40,a.1.1=a.2.1.1,∀i,i<a.1.1→a.1.2 i=a.2.1.2 i]
def P7:Spec:=cQ (kC (ve cO) (kC (ve cO) (kC (kF nE) kN))) (fun _=>.bool true) fun a=>[a.1.1<2^40,a.1.1=a.2.1.1,∀i,i<a.1.1→a.1.2 i=a.2.1.2 i]
noncomputable def Jy:aR:=nG::(It,MF)::(IK,P7)::[]
def Pc:Spec:=cQ (kC (jF cO cO) (kC (jF cO cO) kN)) (fun _=>.bool true) fun a=>[pN a.1 a.2.1,a.1.n<2^40,a.1.m<2^40]
theorem acM:aO P Dk xS (au xS):=aQ agi (by kernel_rfl) (by kernel_rfl) (by kernel_rfl)
theorem T3:aO P nE Cq (au Cq):=aQ aaB (by kernel_rfl) (by kernel_rfl) (by kernel_rfl)
theorem akF:aO P IK EO tY:=aQ U3 (by kernel_rfl) (by kernel_rfl) (by kernel_rfl)
theorem aj2 {n m:Nat} {f g:Nat→Rat}:aH T fQ [200014] 60 mz (before vU [1,1,0,1]) ⟨aN 0 [bt f n cO,bt g m cO,.func fu []],[],0⟩=
  let c1:AV:=ak 3 n fun i↦rat (f i) 549755813888;some (ag [((↑n:Int)!=(↑m:Int))=false] (leaf normal ([c1,ak 3 m fun i↦rat (g i) 549755813888,func fu [],AV.bool false,c1,int i64 (↑n:Int),int i64 (0:Int)],[]))):=by kernel_rfl
theorem aao {n m i:Nat} {f g:Nat→Rat}:aH T fQ [18,200030] 60 mz [part vU [1,1,0,1,0,0]] ⟨aA mz (IA n m f g i),[],0⟩=
  let c6:Int:=(↑n:Int);let c4:AV:=ak 3 m fun i↦rat (g i) 549755813888;let c3:Prop:=0<1;let c2:Int:=(↑i:Int);let c1:AV:=ak 3 n fun i↦rat (f i) 549755813888;let c5:Int:=c2+(1:Int);some (fork (decide (c2<c6)) (ag [(0:Int)≤c2∧c2.toNat<n,c3] (ag [(0:Int)≤c2∧c2.toNat<m,c3] (ag [c3,c3] (ag [(!decide (f c2.toNat=g c2.toNat))=false] (ag [-(2:Int)^63≤c5∧c5<(2:Int)^63] (leaf normal ([c1,c4,func fu [],AV.bool false,c1,int i64 c6,int i64 c5],[]))))))) (leaf (exit 0) ([c1,c4,func fu [],AV.bool false,c1,int i64 c6,int i64 c2],[]))):=by kernel_rfl
theorem WU {n m i:Nat} {f g:Nat→Rat}:cm T fQ [] 60 Dx [part vU [1,1,1]] ⟨aA mz (IA n m f g i),[],0⟩=
  some (leaf ret [AV.bool true]):=by kernel_rfl
theorem aiX {n m:Nat} {f g:Nat→Pl}:aH T BL [200014] 60 mz (before tY [1,1,0,1]) ⟨aN 0 [gV f n cO,gV g m cO,.func nE []],[],0⟩=
  let c1:AV:=ak 12 n fun i↦agg [agg [rat (f i).n.x 549755813888,rat (f i).n.y 549755813888,rat (f i).n.z 549755813888],rat (f i).d 549755813888];some (ag [((↑n:Int)!=(↑m:Int))=false] (leaf normal ([c1,ak 12 m fun i↦agg [agg [rat (g i).n.x 549755813888,rat (g i).n.y 549755813888,rat (g i).n.z 549755813888],rat (g i).d 549755813888],func nE [],AV.bool false,c1,int i64 (↑n:Int),int i64 (0:Int)],[]))):=by kernel_rfl
theorem aed {n m i:Nat} {f g:Nat→Pl}:aH T BL [18,200030] 60 mz [part tY [1,1,0,1,0,0]] ⟨aA mz (Gs n m f g i),[],0⟩=
  let c9:Int:=(↑n:Int);let c5:Prop:=0<1;let c4:Int:=(↑i:Int);let c3:AV:=ak 12 m fun i↦agg [agg [rat (g i).n.x 549755813888,rat (g i).n.y 549755813888,rat (g i).n.z 549755813888],rat (g i).d 549755813888];let c1:AV:=ak 12 n fun i↦agg [agg [rat (f i).n.x 549755813888,rat (f i).n.y 549755813888,rat (f i).n.z 549755813888],rat (f i).d 549755813888];let c8:Int:=c4+(1:Int);let c2:Nat:=c4.toNat;let c7:V3:=(g c2).n;let c6:V3:=(f c2).n;some (fork (decide (c4<c9)) (ag [(0:Int)≤c4∧c2<n,c5] (ag [(0:Int)≤c4∧c2<m,c5] (ag [c5,c5,(!decide (c6.x=c7.x))=false,(!decide (c6.y=c7.y))=false,(!decide (c6.z=c7.z))=false,true=true] (ag [(!bif true then decide ((f c2).d=(g c2).d)else false)=false] (ag [-(2:Int)^63≤c8∧c8<(2:Int)^63] (leaf normal ([c1,c3,func nE [],AV.bool false,c1,int i64 c9,int i64 c8],[]))))))) (leaf (exit 0) ([c1,c3,func nE [],AV.bool false,c1,int i64 c9,int i64 c4],[]))):=by kernel_rfl
theorem RX {n m i:Nat} {f g:Nat→Pl}:cm T BL [] 60 EO [part tY [1,1,1]] ⟨aA mz (Gs n m f g i),[],0⟩=
  some (leaf ret [AV.bool true]):=by kernel_rfl
theorem UA {c d:Cu}:bF T Jy [100010,100017] 60 xS (au xS) ⟨aN 0 [cI c cO cO,cI d cO cO],[],0⟩=
  let c1:Prop:=0<1;some (ag [c1,c1,(c.p==d.p)=true,c1,c1,bG (fun i↦rat (c.k i) cO) c.n cO,bG (fun i↦rat (d.k i) cO) d.n cO,c.n<2^40,c.n=d.n,∀(i:Nat),i<c.n→aS (rat (c.k i) cO)=aS (rat (d.k i) cO),(bif true then true else false)=true,c1,c1,eI (fun i↦bu (c.f i) cO) c.m cO,eI (fun i↦bu (d.f i) cO) d.m cO,c.m<2^40,c.m=d.m,∀(i:Nat),i<c.m→dL (bu (c.f i) cO)=dL (bu (d.f i) cO)] (leaf ret [AV.bool true])):=by kernel_rfl
theorem aaC:aY P Lh:=aG (gd hT (ij vm) hm (aQ akP (by kernel_rfl) (by kernel_rfl) (by kernel_rfl)) _ _) bk
theorem Zd:aY P BL:=dr (aG (gd hT (ij (qm aaC vm)) hm T3 _ _) bk)
theorem Yd:∀K args pre r,MF K args pre=some r→aB P It K args pre r:=cU fun⟨⟨n,f⟩,⟨m,g⟩,_⟩ K hn=>by
 obtain⟨h1,h2,h3⟩:=hn
 have h1:n<2^40:=h1
 have h2:n=m:=h2
 have h3:∀i,i<n→f i=g i:=h3
 refine gO (r:=aK (.bool true) []) hT j5 hm aaS rfl (of_decide_eq_true (by kernel_rfl)) rfl [1,1,0,1] (i:=0) (y:=part vU [1,1,0,1,0,0]) (z:=part vU [1,1,1]) (by kernel_rfl) (by kernel_rfl) (by kernel_rfl) (f1:=[200014]) (f2:=[18,200030]) (f3:=[]) 60 mz 0
  (fun i:Nat=>IA n m f g i) (fun _=>[]) (fun i=>i≤n) (fun i=>i=n) (fun i=>n-i) (fun _=>⟨⟨_,aj2,?_⟩,fun i h1=>⟨_,aao,?_⟩,fun i h1=>⟨_,WU,?_⟩⟩) K []
 all_goals try simp only[aa.all,ax,decide_eq_true_eq,decide_eq_false_iff_not,Int.toNat_natCast]
 ·exact⟨bne_eq_false_iff_eq.2 (by omega),0,Nat.zero_le _,.vals rfl⟩
 ·refine⟨fun h=>?_,fun h=>⟨rfl,i,by omega,.vals rfl⟩⟩
  have e:=h3 i (by omega)
  (repeat' with_reducible refine And.intro ?_ ?_)
  all_goals first|omega|exact congrArg (!·) (decide_eq_true e)|skip
  exact⟨i+1,by omega,by dsimp only;omega,.vals rfl⟩
 ·exact .refl _
theorem ai2:∀K args pre r,P7 K args pre=some r→aB P IK K args pre r:=cU fun⟨⟨n,f⟩,⟨m,g⟩,_⟩ K hn=>by
 obtain⟨h1,h2,h3⟩:=hn
 have h1:n<2^40:=h1
 have h2:n=m:=h2
 have h3:∀i,i<n→f i=g i:=h3
 refine gO (r:=aK (.bool true) []) hT Zd hm akF rfl (of_decide_eq_true (by kernel_rfl)) rfl [1,1,0,1] (i:=0) (y:=part tY [1,1,0,1,0,0]) (z:=part tY [1,1,1]) (by kernel_rfl) (by kernel_rfl) (by kernel_rfl) (f1:=[200014]) (f2:=[18,200030]) (f3:=[]) 60 mz 0
  (fun i:Nat=>Gs n m f g i) (fun _=>[]) (fun i=>i≤n) (fun i=>i=n) (fun i=>n-i) (fun _=>⟨⟨_,aiX,?_⟩,fun i h1=>⟨_,aed,?_⟩,fun i h1=>⟨_,RX,?_⟩⟩) K []
 all_goals try simp only[aa.all,ax,decide_eq_true_eq,decide_eq_false_iff_not,Int.toNat_natCast]
 ·exact⟨bne_eq_false_iff_eq.2 (by omega),0,Nat.zero_le _,.vals rfl⟩
 ·refine⟨fun h=>?_,fun h=>⟨rfl,i,by omega,.vals rfl⟩⟩
  have e:=h3 i (by omega)
  (repeat' with_reducible refine And.intro ?_ ?_)
  all_goals first|omega|exact congrArg (!·) (decide_eq_true (congrArg (fun p:Pl=>p.n.x) e))|exact congrArg (!·) (decide_eq_true (congrArg (fun p:Pl=>p.n.y) e))|exact congrArg (!·) (decide_eq_true (congrArg (fun p:Pl=>p.n.z) e))|exact congrArg (!·) (decide_eq_true (congrArg (fun p:Pl=>p.d) e))|exact trivial|exact⟨i+1,by omega,by dsimp only;omega,.vals rfl⟩
 ·exact .refl _
theorem Yo:aY P Jy:=dr (aG Yd (aG ai2 bk))
theorem ad8:∀K args pre r,Pc K args pre=some r→aB P Dk K args pre r:=cU fun⟨c,d,_⟩ K hn=>by
 obtain⟨h1,h2,h3⟩:=hn
 have h1:pN c d:=h1
 have h2:c.n<2^40:=h2
 have h3:c.m<2^40:=h3
 refine bJ (r:=aK (.bool true) []) hT Yo hm acM rfl (of_decide_eq_true (by kernel_rfl)) rfl 60 UA (fun _=>?_) K []
 simp only[aa.all,ax]
 (repeat' with_reducible refine And.intro ?_ ?_)
 all_goals first|omega|exact beq_iff_eq.2 h1.p|exact cM (Nat.le_refl _)|exact jO (Nat.le_refl _)|exact h1.k|exact h1.f|exact h1.n|exact h1.m|exact .refl _|skip
end Go.Am.B

/- slices.Delete of one number. -/
namespace Go.Am.B
open Go Go.Am.N AV aa aj IntKind
theorem afX:aO P x8 Co (au Co):=aQ UB (by kernel_rfl) (by kernel_rfl) (by kernel_rfl)
def m8 (f:Nat→Rat) (i m q:Nat):Rat:=if m-1≤q then 0 else if i≤q then f (q+1)else f q
def FC:Spec:=fun _ args pre=>match args,pre with
 |[.own b 3 0 m,.int .i64 i,.int .i64 j],[(b',⟨true,true,3,mb,fb⟩)]=>match b'==b with
  |true=>some ⟨.own b 3 0 (m-1),[(b,⟨true,true,3,m,fun q=>.rat (m8 (fun q=>aS (fb q)) i.toNat m q) 2048⟩)],[mb=m,nR fb m 2048,0≤i,i<m,j=i+1]⟩
  |false=>none
 |_,_=>none
theorem Wr {m cap:Nat} {i:Int} {f:Nat→Rat}:aH T [nG] [16] 60 [6] [au Co] ⟨[(0,.bp cap (.own 0 3 0 m)),(1,.int .i64 i),(2,.int .i64 (i+1))],[(0,⟨true,true,3,m,fun q=>.rat (f q) 2048⟩)],1⟩=
  let c8:Int:=(↑(0:Nat):Int);let c6:Int:=i+(1:Int);let c4:Int:=(↑m:Int);let c3:Nat:=Int.toNat (0:Int);let c7:Nat:=i.toNat-c3;let c1:Nat:=c7+(c4.toNat-c6.toNat);let c9:Int:=(↑c1:Int);let c5:Nat:=0+c9.toNat;let c2:Nat:=c5+(c4.toNat-c9.toNat);some (ag [(0:Int)≤i∧i≤c6∧c6≤c4∧c4≤c4] (fork (i==c6) (leaf ret ([bp cap (own 0 3 0 m)],[((0:Nat),ah.mk true true 3 m fun q↦rat (f q) 2048)])) (ag [(0:Int)≤(0:Int)∧(0:Int)≤i∧i≤(↑cap:Int)∧c8+i≤c4,(0:Int)≤c6∧c6≤c4∧c4≤(↑cap:Int)∧c8+c4≤c4,c1≤cap-c3∧c1≤m] (ag [(0:Int)≤c9∧c9≤c4∧c4≤(↑(cap-c3):Int)∧c8+c4≤c4] (leaf ret ([bp (cap-c3) (own 0 3 0 c1)],[((0:Nat),ah.mk true true 3 m fun i↦if c5≤i∧i<c2 then rat 0 1 else if c7≤i∧i<c1 then rat (f (i-c7+((0:Nat)+c6.toNat))) 2048 else rat (f i) 2048)])))))):=by kernel_rfl
theorem ah7 {b m:Nat} {i:Int} {fb:Nat→AV} (hf:nR fb m 2048) (h0:0≤i) (h1:i<m) (K:Nat):aB P x8 K [.own b 3 0 m,.int .i64 i,.int .i64 (i+1)] [(b,⟨true,true,3,m,fb⟩)] ⟨iM [.own b 3 0 (m-1)],[(b,⟨true,true,3,m,fun q=>.rat (m8 (fun q=>aS (fb q)) i.toNat m q) 2048⟩)],[]⟩:=by
 refine aep hT afX (rest:=[.int .i64 i,.int .i64 (i+1)]) (ws:=[.own b 3 0 (m-1)]) (o:=⟨true,true,3,m,fun q=>.rat (aS (fb q)) 2048⟩) rfl rfl (of_decide_eq_true (by kernel_rfl)) (fun _ ρ=>hf.obj rfl ρ) fun _ c hk=>?_
 refine aq.bp (t:=0) rfl fun cap hcap=>?_
 refine aq.bf hT (dr bk) hm 60 [6] (Wr (m:=m) (cap:=cap) (i:=i) (f:=fun q=>aS (fb q))) (by kernel_rfl) ?_
 simp only[aa.all,ax,beq_iff_eq,beq_eq_false_iff_ne,ne_eq]
 refine⟨⟨by omega,by omega,by omega,by omega⟩,fun h=>absurd h (by omega),fun _=>⟨⟨⟨by omega,by omega,by omega,by omega⟩,⟨by omega,by omega,by omega,by omega⟩,⟨by omega,by omega⟩⟩,⟨by omega,by omega,by omega,by omega⟩,fun s' hs'=>⟨.inr trivial,[6],_,[.bp (cap-Int.toNat 0) (.own 0 3 0 (i.toNat-Int.toNat 0+((m:Int).toNat-(i+1).toNat)))],[],_,_,hs',by kernel_rfl,trivial,⟨⟨rfl,ajP rfl (cw (by simp[aT,look]) rfl (by omega))⟩,trivial⟩,oJ,ji rfl fun q hq=>?_⟩⟩⟩
 have hq:q<m:=hq
 have e0:Int.toNat 0=0:=rfl
 have e1:i.toNat-Int.toNat 0+((m:Int).toNat-(i+1).toNat)=m-1:=by omega
 refine lZ (xI rfl (xI rfl rfl)) ?_
 simp only[e1]
 unfold m8
 by_cases c1:m-1≤q
 ·rw[if_pos c1,if_pos (by omega)];exact bS rfl (by decide)
 ·rw[if_neg c1,if_neg (by omega)]
  by_cases c2:i.toNat≤q
  ·rw[if_pos c2,if_pos (by omega),show q-(i.toNat-Int.toNat 0)+(0+(i+1).toNat)=q+1 by omega];exact .refl _
  ·rw[if_neg c2,if_neg (by omega)];exact .refl _
theorem Yh:∀K args pre r,FC K args pre=some r→aB P x8 K args pre r:=by
 intro K args pre r h
 unfold FC at h
 split at h
 ·rename_i b m i j b' mb fb
  split at h
  ·rename_i hc
   have hc:=eq_of_beq hc
   subst hc
   simp only[Option.some.injEq]at h
   subst h
   intro need
   obtain⟨rfl,n1,n2,n3,rfl⟩:=need
   exact ah7 n1 n2 n3 K trivial
  ·simp at h
 ·simp at h
end Go.Am.B

/- Plain laws of splines: at a knot both sides give the same value. -/
namespace Go.Am.B
def dM (k:Nat→Rat) (j:Nat):Nat→Int
 |0=>-1
 |l+1=>if k (j+l)=k (j+l+1)then dM k j l else(j+l:Nat)
theorem MI {k:Nat→Rat} {j:Nat}:∀{l:Nat},k j≠k (j+l)→∃P:Nat,dM k j l=(P:Int)∧j≤P∧P<j+l∧k P≠k (P+1)
 |0,h=>absurd rfl h
 |l+1,h=>by
  unfold dM
  by_cases he:k (j+l)=k (j+l+1)
  ·rw[if_pos he]
   obtain⟨P,h1,h2,h3,h4⟩:=MI (k:=k) (j:=j) (l:=l) (by rw[he];exact h)
   exact⟨P,h1,h2,by omega,h4⟩
  ·rw[if_neg he]
   exact⟨j+l,rfl,by omega,by omega,he⟩
theorem Kn.piece {n p:Nat} {k:Nat→Rat} (h:Kn n p k) {j:Nat} (hj:j+p+1<n):∃P:Nat,dM k j (p+1)=(P:Int)∧j≤P∧P≤j+p∧k P<k (P+1)∧p≤P∧P+p+1<n:=by
 have hp:=h.p1
 have hne:k j≠k (j+(p+1)):=by
  have hlt:k j<k (j+(p+1)):=by
   by_cases h0:j=0
   ·subst h0
    have hl:=h.len
    have a1:=h.mult 1 (by omega) (by omega)
    rw[h.first 1 (by omega),show 1+p=0+(p+1) by omega]at a1
    exact a1
   ·have a1:=h.mult j (by omega) (by omega)
    have a2:=h.mono (show j+p≤j+(p+1) by omega) (by omega)
    grind
  grind
 obtain⟨P,h1,h2,h3,h4⟩:=MI hne
 have hs:=h.sorted P (by omega)
 refine⟨P,h1,h2,by omega,by grind,?_,?_⟩
 ·rcases Nat.lt_or_ge P p with hh|hh
  ·exact absurd (by rw[h.first P (by omega),h.first (P+1) (by omega)]) h4
  ·exact hh
 ·rcases Nat.lt_or_ge (P+p+1) n with hh|hh
  ·exact hh
  ·exact absurd (by rw[h.last P (by omega) (by omega),h.last (P+1) (by omega) (by omega)]) h4
theorem Mh {k:Nat→Rat} {c:Nat}:∀{l a:Nat},bz (fun i=>k (c+i)) a l=bz k (c+a) l
 |0,_=>rfl
 |l+1,a=>by rw[bz,bz,Mh];rfl
theorem zW {f g:Nat→Rat}:∀{l a:Nat},(∀i,a≤i→i<a+l→f i=g i)→bz f a l=bz g a l
 |0,_,_=>rfl
 |l+1,a,h=>by rw[bz,bz,h a (by omega) (by omega),zW fun i h1 h2=>h i (by omega) (by omega)]
end Go.Am.B

/- Plain laws of a knot that is inserted: the new coefficients, by polar forms (Boehm). -/
namespace Go.Am.B
variable {k:Nat→Rat} {b p:Nat}
theorem Xo {a c u v f:Rat}:fr a c (u+f*(v-u))=fr a c u+f*(fr a c v-fr a c u):=by
 unfold fr
 rw[Rat.div_def,Rat.div_def (u-a),Rat.div_def (v-a)]
 generalize (c-a)⁻¹=q
 grind
theorem Ko {f:Rat}:∀{l:List Rat} {r:Nat} {x y:Nat→Rat} {j:Nat},bl k b p r (fun j=>x j+f*(y j-x j)) l j=bl k b p r x l j+f*(bl k b p r y l j-bl k b p r x l j)
 |[],_,_,_,_=>rfl
 |t::l,r,x,y,j=>by
  rw[bl,bl,bl,←Ko (l:=l)]
  congr 1
  funext j
  unfold gi
  split<;>grind
theorem Eg {u v f:Rat} {l:List Rat} {x:Nat→Rat} (hl:l.length+1=p):bl k b p 0 x ((u+f*(v-u))::l) p=bl k b p 0 x (u::l) p+f*(bl k b p 0 x (v::l) p-bl k b p 0 x (u::l) p):=by
 rw[bl,bl,bl,←Ko]
 refine G6 (by omega) fun j h1 _=>?_
 simp only[gi]
 rw[if_pos (by omega),if_pos (by omega),if_pos (by omega),Xo];grind
theorem BK {a c t:Rat} (h:a<c):a+fr a c t*(c-a)=t:=by rw[mU h];grind
def cP (k:Nat→Rat) (t:Rat) (q j:Nat):Rat:=if j<q then k j else if j=q then t else k (j-1)
theorem iA {t:Rat} {q j:Nat} (h:j<q):cP k t q j=k j:=if_pos h
theorem nB {t:Rat} {q:Nat}:cP k t q q=t:=by unfold cP;rw[if_neg (by omega),if_pos rfl]
theorem iz {t:Rat} {q j:Nat} (h:q<j):cP k t q j=k (j-1):=by unfold cP;rw[if_neg (by omega),if_neg (by omega)]
theorem HS {f g:Nat→Rat}:∀{l a:Nat},(∀i,a+1≤i→i<a+1+l→f i=g (i-1))→bz f (a+1) l=bz g a l
 |0,_,_=>rfl
 |l+1,a,h=>by
  rw[bz,bz,h (a+1) (Nat.le_refl _) (by omega),HS (l:=l) (a:=a+1) fun i h1 h2=>h i (by omega) (by omega)];rfl
theorem vu {n:Nat} {P J:Nat} {x:Nat→Rat} (h:At n k P) (hP:p≤P) (hP2:P+p<n) (h1:P≤J+p) (h2:J≤P):bl k (P-p) p 0 (fun q=>x (P-p+q)) (bz k (J+1) p) p=x J:=by
 have:=ac7 (k:=k) (b:=P-p) (p:=p) (n:=n) (by rwa [show P-p+p=P by omega]) (by omega) (J:=J-(P-p)) (by omega) (x:=fun q=>x (P-p+q))
 rw[show P-p+(J-(P-p))=J by omega]at this
 exact this
theorem aiP {n:Nat} {x:Nat→Rat} {t:Rat} {a j P:Nat} (hs:∀i,i+1<n→k i≤k (i+1)) (hp:1≤p) (hlo:k a≤t) (hhi:t<k (a+1)) (ha:p≤a) (h:At n k P) (hP:p≤P) (hP2:P+p<n)
  (h1:j+p≤a→j≤P∧P≤j+p) (h2:a<j→j≤P+1∧P+1≤j+p) (h3:a<j+p→j≤a→j≤P∧P+1≤j+p):
  bl k (P-p) p 0 (fun q=>x (P-p+q)) (bz (cP k t (a+1)) (j+1) p) p=if j+p≤a then x j else if a<j then x (j-1)else x (j-1)+fr (k j) (k (j+p)) t*(x j-x (j-1)):=by
 by_cases c1:j+p≤a
 ·obtain⟨g1,g2⟩:=h1 c1
  rw[if_pos c1,zW (g:=k) fun i _ hi=>iA (by omega)]
  exact vu h hP hP2 g2 g1
 ·rw[if_neg c1]
  by_cases c2:a<j
  ·obtain⟨g1,g2⟩:=h2 c2
   rw[if_pos c2,HS (g:=k) fun i hi _=>iz (by omega)]
   have:=vu (x:=x) (J:=j-1) h hP hP2 (by omega) (by omega)
   rwa [show j-1+1=j by omega]at this
  ·obtain⟨g1,g2⟩:=h3 (by omega) (by omega)
   rw[if_neg c2]
   have hA:At n k (P-p+p):=by rwa [show P-p+p=P by omega]
   have e1:bz (cP k t (a+1)) (j+1) p=bz k (j+1) (a-j)++t::bz k (a+1) (j+p-a-1):=by
    have:=DW (t:=cP k t (a+1)) (l:=a-j) (a:=j+1) (m:=(j+p-a-1)+1)
    rw[show a-j+(j+p-a-1+1)=p by omega,show j+1+(a-j)=a+1 by omega]at this
    rw[this,zW (g:=k) (fun i _ hi=>iA (by omega)),bz,nB,HS (g:=k) fun i hi _=>iz (by omega)]
   have e2:bz k (j+1) (p-1)=bz k (j+1) (a-j)++bz k (a+1) (j+p-a-1):=by
    have:=DW (t:=k) (l:=a-j) (a:=j+1) (m:=j+p-a-1)
    rw[show a-j+(j+p-a-1)=p-1 by omega,show j+1+(a-j)=a+1 by omega]at this
    exact this
   have hw:k j<k (j+p):=by
    have m1:=eL hs (show j≤a by omega) (show a<n by omega)
    have m2:=eL hs (show a+1≤j+p by omega) (show j+p<n by omega)
    grind
   have q1:(bz (cP k t (a+1)) (j+1) p).Perm (t::bz k (j+1) (p-1)):=by rw[e1,e2];exact List.perm_middle
   rw[pI hA (by omega) q1 (by rw[jG];omega),←BK (t:=t) hw,Eg (by rw[jG];omega)]
   have d1:=vu (x:=x) (J:=j-1) h hP hP2 (by omega) (by omega)
   rw[show j-1+1=j by omega,show p=p-1+1 by omega,bz]at d1
   have d2:=vu (x:=x) (J:=j) h hP hP2 (by omega) (by omega)
   have q2:(bz k (j+1) p).Perm (k (j+p)::bz k (j+1) (p-1)):=by
    have:=tU (t:=k) (l:=p-1) (a:=j+1)
    rw[show p-1+1=p by omega,show j+1+(p-1)=j+p by omega]at this
    rw[this];exact List.perm_append_singleton _ _
   rw[pI hA (by omega) q2 (by rw[jG];omega)]at d2
   rw[show p-1+1=p by omega]at d1
   rw[d1,d2,BK hw]
theorem MD {n:Nat} {G:List Rat→Rat} (hsym:∀{l m:List Rat},l.Perm m→l.length=p→G l=G m) (haff:∀{u v f:Rat} {l:List Rat},l.length+1=p→G ((u+f*(v-u))::l)=G (u::l)+f*(G (v::l)-G (u::l)))
  (h:At n k (b+p)) (hn:b+p+p<n):∀{l d:List Rat} {r:Nat} {y:Nat→Rat},d.length=r→r+l.length=p→(∀j,r≤j→j≤p→y j=G (d++bz k (b+j+1) (p-r)))→bl k b p r y l p=G (d++l)
 |[],d,r,y,hd,hl,hy=>by
  have:=hy p (by simp at hl;omega) (Nat.le_refl _)
  rw[show p-r=0 by simp at hl;omega]at this
  exact this
 |t::l,d,r,y,hd,hl,hy=>by
  simp only[List.length_cons]at hl
  have hdt:(d++[t]).length=r+1:=by simp[hd]
  have:=MD hsym haff h hn (l:=l) (d:=d++[t]) (r:=r+1) (y:=gi k b p r t y) hdt (by omega) fun j h1 h2=>by
   unfold gi
   rw[if_pos (by omega),hy j (by omega) h2,hy (j-1) (by omega) (by omega)]
   have hw:=h.around (a:=b+j) (b:=b+j+(p-r)) (by omega) (by omega) (by omega)
   have e1:(d++bz k (b+(j-1)+1) (p-r)).Perm (k (b+j)::(d++bz k (b+j+1) (p-(r+1)))):=by
    rw[show b+(j-1)+1=b+j by omega,show p-r=p-(r+1)+1 by omega,bz];exact List.perm_middle
   have e2:(d++bz k (b+j+1) (p-r)).Perm (k (b+j+(p-r))::(d++bz k (b+j+1) (p-(r+1)))):=by
    rw[show p-r=p-(r+1)+1 by omega,tU,show b+j+1+(p-(r+1))=b+j+(p-(r+1)+1) by omega,←List.append_assoc];exact List.perm_append_singleton _ _
   have e3:(d++[t]++bz k (b+j+1) (p-(r+1))).Perm (t::(d++bz k (b+j+1) (p-(r+1)))):=by
    rw[List.append_assoc];exact List.perm_middle
   have hlen:(d++bz k (b+j+1) (p-(r+1))).length+1=p:=by rw[List.length_append,jG,hd];omega
   rw[hsym e1 (by rw[List.length_append,jG,hd];omega),hsym e2 (by rw[List.length_append,jG,hd];omega),hsym e3 (by rw[List.length_append,jG,hdt];omega),←haff hlen,BK hw]
  rw[bl,this,List.append_assoc];rfl
def fj (k:Nat→Rat) (p:Nat) (x:Nat→Rat) (P:Nat) (l:List Rat):Rat:=bl k (P-p) p 0 (fun q=>x (P-p+q)) l p
theorem aiT {n N:Nat} {K X x:Nat→Rat} {P Q:Nat} (h:At n k P) (hP:p≤P) (hP2:P+p<n) (H:At N K Q) (hQ:p≤Q) (hQ2:Q+p<N) (hx:∀J,J≤Q→Q≤J+p→X J=fj k p x P (bz K (J+1) p)) {l:List Rat} (hl:l.length=p):fj K p X Q l=fj k p x P l:=by
 have hA:At n k (P-p+p):=by rwa [show P-p+p=P by omega]
 have:=MD (k:=K) (b:=Q-p) (p:=p) (n:=N) (G:=fj k p x P) (fun {l m} hm hl=>pI hA (by omega) hm (by omega)) (fun {u v f l} hl=>Eg hl) (by rwa [show Q-p+p=Q by omega]) (by omega) (l:=l) (d:=[]) (r:=0) (y:=fun q=>X (Q-p+q)) rfl (by omega) fun j _ h2=>by
  rw[hx (Q-p+j) (by omega) (by omega)];rfl
 exact this
def jh (k:Nat→Rat) (p:Nat) (x:Nat→Rat) (t:Rat) (a j:Nat):Rat:=if j+p≤a then x j else if a<j then x (j-1)else x (j-1)+fr (k j) (k (j+p)) t*(x j-x (j-1))
def gE (a Q:Nat):Nat:=if Q≤a then Q else Q-1
theorem Jg {n:Nat} {x:Nat→Rat} {t:Rat} {a j Q:Nat} (hs:∀i,i+1<n→k i≤k (i+1)) (hp:1≤p) (hlo:k a≤t) (hhi:t<k (a+1)) (ha:p≤a) (h:At n k (gE a Q)) (hP:p≤gE a Q) (hP2:gE a Q+p<n) (h1:j≤Q) (h2:Q≤j+p):
  fj k p x (gE a Q) (bz (cP k t (a+1)) (j+1) p)=jh k p x t a j:=by
 refine aiP hs hp hlo hhi ha h hP hP2 ?_ ?_ ?_<;>unfold gE<;>split<;>omega
theorem TS {n:Nat} {x:Nat→Rat} {t:Rat} {a Q:Nat} (hs:∀i,i+1<n→k i≤k (i+1)) (hp:1≤p) (hlo:k a≤t) (hhi:t<k (a+1)) (ha:p≤a) (h:At n k (gE a Q)) (hP:p≤gE a Q) (hP2:gE a Q+p<n) (H:At (n+1) (cP k t (a+1)) Q) (hQ:p≤Q) (hQ2:Q+p<n+1) {l:List Rat} (hl:l.length=p):
  fj (cP k t (a+1)) p (jh k p x t a) Q l=fj k p x (gE a Q) l:=
 aiT h hP hP2 H hQ hQ2 (fun J h1 h2=>(Jg hs hp hlo hhi ha h hP hP2 h1 h2).symm) hl
end Go.Am.B

/- Plain laws of valid fF: one more of them. -/
namespace Go.Am.B
theorem o6 {k:Nat→Rat} {t:Rat} {n:Nat}:bT k t (n+1)=bT k t n+if k n=t then 1 else 0:=rfl
theorem Ej {k:Nat→Rat} {t:Rat} {n:Nat}:∀{m:Nat},bT k t n≤bT k t (n+m)
 |0=>Nat.le_refl _
 |m+1=>by
  have:=Ej (k:=k) (t:=t) (n:=n) (m:=m)
  rw[←Nat.add_assoc,o6];omega
theorem Gl {k:Nat→Rat} {t:Rat} {i:Nat}:∀{l:Nat},(∀j,i≤j→j<i+l→k j=t)→l≤bT k t (i+l)
 |0,_=>Nat.zero_le _
 |l+1,h=>by
  have:=Gl (k:=k) (t:=t) (i:=i) (l:=l) fun j h1 h2=>h j h1 (by omega)
  rw[←Nat.add_assoc,o6,if_pos (h (i+l) (by omega) (by omega))];omega
theorem KN {k:Nat→Rat} {t:Rat} {lo hi:Nat} (hlh:lo≤hi):∀{n:Nat},(∀j,j<n→k j=t→lo≤j∧j<hi)→bT k t n≤min n hi-lo
 |0,_=>by simp[bT]
 |n+1,h=>by
  have:=KN (k:=k) (t:=t) hlh (n:=n) fun j hj=>h j (by omega)
  rw[o6]
  by_cases hn:k n=t
  ·rw[if_pos hn]
   have:=h n (by omega) hn
   omega
  ·rw[if_neg hn];omega
theorem TA {n a i:Nat} {k:Nat→Rat} {t:Rat} (hs:∀i,i+1<n→k i≤k (i+1)) (hhi:t<k (a+1)) (ha:a+1<n) (hlo:k a≤t) (hi:i≤a) (h:a<i+bT k t n):k i=t:=by
 by_cases he:k i=t
 ·exact he
 ·have h1:=eL hs hi (by omega)
  have hlt:k i<t:=by grind
  have:=KN (k:=k) (t:=t) (lo:=i+1) (hi:=a+1) (by omega) (n:=n) fun j hj hjt=>by
   constructor
   ·by_cases c:j≤i
    ·have:=eL hs c (by omega)
     grind
    ·omega
   ·by_cases c:a+1≤j
    ·have:=eL hs c hj
     grind
    ·omega
  omega
theorem Kn.r9 {n p a:Nat} {k:Nat→Rat} {t:Rat} (h:Kn n p k) (h0:k 0<t) (h1:t<k (n-1)) (hlo:k a≤t) (hhi:t<k (a+1)) (ha:a+1<n):p≤a∧a+p+1<n:=by
 have hl:=h.len
 constructor
 ·by_cases c:p≤a
  ·exact c
  ·have:=h.first (a+1) (by omega)
   grind
 ·by_cases c:a+p+1<n
  ·exact c
  ·have:=h.last a (by omega) (by omega)
   grind
theorem Kn.cP {n p a:Nat} {k:Nat→Rat} {t:Rat} (h:Kn n p k) (h0:k 0<t) (h1:t<k (n-1)) (hlo:k a≤t) (hhi:t<k (a+1)) (ha:a+1<n) (ht:bT k t n<p):Kn (n+1) p (cP k t (a+1)):=by
 obtain⟨g1,g2⟩:=h.r9 h0 h1 hlo hhi ha
 have hp:=h.p1
 have hl:=h.len
 refine⟨hp,by omega,fun i hi=>?_,fun i hi=>?_,fun i h2 h3=>?_,fun i h2 h3=>?_⟩
 ·by_cases c1:i<a
  ·rw[iA (by omega),iA (by omega)];exact h.sorted i (by omega)
  ·by_cases c2:i=a
   ·subst c2;rw[iA (by omega),nB];exact hlo
   ·by_cases c3:i=a+1
    ·subst c3;rw[nB,iz (by omega)];exact Rat.le_of_lt hhi
    ·rw[iz (by omega),iz (by omega)]
     have:=h.sorted (i-1) (by omega)
     rwa [show i-1+1=i+1-1 by omega]at this
 ·rw[iA (by omega),iA (by omega)];exact h.first i hi
 ·rw[iz (by omega),iz (by omega),h.last (i-1) (by omega) (by omega),show n+1-1-1=n-1 by omega]
 ·by_cases c1:i+p<a+1
  ·rw[iA (by omega),iA (by omega)];exact h.mult i h2 (by omega)
  ·by_cases c2:i+p=a+1
   ·rw[c2,nB,iA (by omega)]
    have m:=h.mono (show i≤a by omega) (by omega)
    by_cases e:k i=t
    ·exfalso
     have hb:∀j,i≤j→j<i+p→k j=t:=fun j hj1 hj2=>by
      have a1:=h.mono hj1 (by omega)
      have a2:=h.mono (show j≤a by omega) (by omega)
      grind
     have b1:=Gl hb
     have b2:=Ej (k:=k) (t:=t) (n:=i+p) (m:=n-(i+p))
     rw[show i+p+(n-(i+p))=n by omega]at b2
     omega
    ·grind
   ·by_cases c3:i≤a
    ·rw[iA (by omega),iz (by omega)]
     have m1:=h.mono c3 (by omega)
     have m2:=h.mono (show a+1≤i+p-1 by omega) (by omega)
     grind
    ·by_cases c4:i=a+1
     ·subst c4;rw[nB,iz (by omega)]
      have m2:=h.mono (show a+1≤a+1+p-1 by omega) (by omega)
      grind
     ·rw[iz (by omega),iz (by omega)]
      have:=h.mult (i-1) (by omega) (by omega)
      rwa [show i-1+p=i+p-1 by omega]at this
theorem akD {k x:Nat→Rat} {p a j:Nat} {t:Rat} {n:Nat} (hs:∀i,i+1<n→k i≤k (i+1)) (hlo:k a≤t) (hhi:t<k (a+1)) (hn:a+p<n) (hx:∀j,0<x j):0<jh k p x t a j:=by
 unfold jh
 split
 ·exact hx _
 ·split
  ·exact hx _
  ·have m1:=eL hs (show j≤a by omega) (by omega)
   have m2:=eL hs (show a+1≤j+p by omega) (by omega)
   have hw:k j<k (j+p):=by grind
   have f0:=HA (t:=t) hw (by grind)
   have f1:=Hu (t:=t) hw (by grind)
   generalize fr (k j) (k (j+p)) t=f at*
   have x0:=hx (j-1)
   have x1:=hx j
   by_cases e:f=1
   ·subst e;grind
   ·have:=Rat.mul_pos (a:=1-f) (b:=x (j-1)) (by grind) x0
    have:=Rat.mul_nonneg (a:=f) (b:=x j) f0 (by grind)
    grind
theorem PC {n:Nat} {k:Nat→Rat} {pc:Nat→Nat→Nat} (h0:∀i,pc 0 i=i) (h1:∀f i,pc (f+1) i=if i+1<n∧k (i+1)≤k i then pc f (i+1)else i):∀{f i l:Nat},k i<k (i+l)→i+l<n→l≤f→i≤pc f i∧pc f i<i+l∧k (pc f i)<k (pc f i+1)
 |0,i,l,hk,hn,hl=>by
  have:l=0:=by omega
  subst this;exact absurd hk (by rw[Nat.add_zero];exact Rat.lt_irrefl)
 |f+1,i,l,hk,hn,hl=>by
  have hl0:l≠0:=fun e=>by subst e;rw[Nat.add_zero]at hk;exact absurd hk Rat.lt_irrefl
  rw[h1]
  by_cases c:i+1<n∧k (i+1)≤k i
  ·rw[if_pos c]
   have:=PC h0 h1 (f:=f) (i:=i+1) (l:=l-1) (by rw[show i+1+(l-1)=i+l by omega];have:=c.2;grind) (by omega) (by omega)
   obtain⟨a1,a2,a3⟩:=this
   exact⟨by omega,by omega,a3⟩
  ·rw[if_neg c]
   exact⟨Nat.le_refl _,by omega,Rat.not_le.1 fun e=>c ⟨by omega,e⟩⟩
theorem F8 {n i:Nat} {k:Nat→Rat} (h:At n k i):bP n k (k i)=i:=Ir ⟨h,Rat.le_refl,Rat.le_of_lt h.wide,.inl h.wide⟩
theorem Oe {n a q:Nat} {k:Nat→Rat} {t:Rat} (hs:∀i,i+1<n→k i≤k (i+1)) (hlo:k a≤t) (hhi:t<k (a+1)) (ha:a+1<n) (hq:q+1<n+1) (hw:cP k t (a+1) q<cP k t (a+1) (q+1)):
  At n k (gE a q)∧bP n k (cP k t (a+1) q)=gE a q∧k 0≤cP k t (a+1) q∧cP k t (a+1) q≤k (n-1):=by
 have key:∀i,At n k i→k 0≤k i∧k i≤k (n-1):=fun i h=>⟨eL hs (Nat.zero_le _) (by have:=h.lt;omega),eL hs (by have:=h.lt;omega) (by omega)⟩
 by_cases c1:q≤a
 ·have e:gE a q=q:=if_pos c1
  rw[e,iA (by omega)]at*
  have hA:At n k q:=⟨by omega,hs,by
   by_cases c2:q=a
   ·subst c2;grind
   ·rwa [iA (by omega)]at hw⟩
  exact⟨hA,F8 hA,key q hA⟩
 ·have e:gE a q=q-1:=if_neg c1
  rw[e]
  by_cases c2:q=a+1
  ·subst c2
   rw[nB]
   have hA:At n k a:=⟨ha,hs,by grind⟩
   have:=key a hA
   have m:=eL hs (show a+1≤n-1 by omega) (by omega)
   exact⟨hA,Ir ⟨hA,hlo,Rat.le_of_lt hhi,.inl hhi⟩,by grind,by grind⟩
  ·rw[iz (by omega)]at hw ⊢
   rw[iz (by omega)]at hw
   have hA:At n k (q-1):=⟨by omega,hs,by rwa [show q-1+1=q+1-1 by omega]⟩
   exact⟨hA,F8 hA,key _ hA⟩
end Go.Am.B

/- ref10.insert. -/
namespace Go.Am.B
open Go Go.Am.N AV aa aj IntKind
end Go.Am.B

/- What insertions compute: program and reference say the same. -/
namespace Go.Am.B
open Go Go.Am.N AV aa aj IntKind
theorem JX {k:Nat→Rat} {t:Rat}:∀{i:Nat},(∀j,j<i→k j≤t)→fG k t i=i
 |0,_=>rfl
 |i+1,h=>Ji (JX fun j hj=>h j (by omega)) (h i (by omega))
theorem G5 {n a:Nat} {k:Nat→Rat} {t:Rat} (hs:∀i,i+1<n→k i≤k (i+1)) (hlo:k a≤t) (hhi:t<k (a+1)) (ha:a+1<n):fG k t n=a+1:=
 GH (JX fun j hj=>Rat.le_trans (eL hs (show j≤a by omega) (by omega)) hlo) hhi (by omega)
theorem ab8 {k:Nat→Rat} {t:Rat} {q:Nat}:gA k t q=cP k t q:=rfl
def jJ (c:Cu) (t:Rat) (a j:Nat):Pl:=
 ⟨⟨jh c.k c.p.toNat (fun q=>(cF (c.f q)).n.x) t a j,jh c.k c.p.toNat (fun q=>(cF (c.f q)).n.y) t a j,jh c.k c.p.toNat (fun q=>(cF (c.f q)).n.z) t a j⟩,jh c.k c.p.toNat (fun q=>(cF (c.f q)).d) t a j⟩
theorem Kn.Jo {n p j:Nat} {k:Nat→Rat} (h:Kn n p k) (hj:j+p+1<n):k j<k (j+(p+1)):=by
 have hp:=h.p1
 have hl:=h.len
 by_cases c:j=0
 ·subst c
  have m:=h.mult 1 (by omega) (by omega)
  rw[h.first 1 (by omega)]at m
  rwa [show 0+(p+1)=1+p by omega]
 ·have m:=h.mult j (by omega) hj
  have:=h.mono (show j+p≤j+(p+1) by omega) (by omega)
  grind
theorem Kn.wide {n p P:Nat} {k:Nat→Rat} (h:Kn n p k) (hA:At n k P):p≤P∧P+p+1<n:=by
 have hw:=hA.wide
 have hlt:=hA.lt
 have hl:=h.len
 constructor
 ·by_cases c:p≤P
  ·exact c
  ·rw[h.first P (by omega),h.first (P+1) (by omega)]at hw
   exact absurd hw Rat.lt_irrefl
 ·by_cases c:P+p+1<n
  ·exact c
  ·rw[h.last P (by omega) (by omega),h.last (P+1) (by omega) (by omega)]at hw
   exact absurd hw Rat.lt_irrefl
theorem Ux {c:Cu} {t:Rat} {a q j e:Nat} (hc:dy c) (h0:c.k 0<t) (h1:t<c.k (c.n-1)) (hlo:c.k a≤t) (hhi:t<c.k (a+1)) (ha:a+1<c.n) (hA:At c.n c.k (gE a q)) (g1:j≤q) (g2:q≤j+c.p.toNat):
  gr ⟨c.p,c.n,c.k,c.m,fun i=>cF (c.f i)⟩ (gE a q:Nat) c.p.toNat (fun i=>cP c.k t (a+1) (i+(j+1))) e=jh c.k c.p.toNat (fun i=>fz (cF (c.f i)) e) t a j:=by
 obtain⟨k1,k2,k3,k4,k5⟩:=hc
 obtain⟨i1,i2⟩:=k1.r9 h0 h1 hlo hhi ha
 obtain⟨w1,w2⟩:=k1.wide hA
 have hw:=hA.wide
 have hE:gR c.n c.k c.p.toNat c.m c.p.toNat (gE a q:Nat)=0:=HY (by omega) rfl (by
  rw[Int.toNat_natCast]
  rintro(h|h|h)
  ·omega
  ·omega
  ·exact absurd h (Rat.not_le.2 hw))
 unfold gr jN
 dsimp only
 rw[if_pos hE,Int.toNat_natCast,Hv]
 have e1:bz (fun i=>cP c.k t (a+1) (i+(j+1))) 0 c.p.toNat=bz (cP c.k t (a+1)) (j+1) c.p.toNat:=by
  have:=Mh (k:=cP c.k t (a+1)) (c:=j+1) (l:=c.p.toNat) (a:=0)
  rw[Nat.add_zero]at this
  rw[←this]
  exact zW fun i _ _=>by rw[Nat.add_comm i (j+1)]
 rw[e1]
 exact Jg (n:=c.n) (x:=fun i=>fz (cF (c.f i)) e) k1.sorted (by omega) hlo hhi i1 hA w1 (by omega) g1 g2
theorem Vw {c:Cu} {t:Rat} {a j:Nat} (hc:dy c) (h0:c.k 0<t) (h1:t<c.k (c.n-1)) (hlo:c.k a≤t) (hhi:t<c.k (a+1)) (ha:a+1<c.n) (ht:bT c.k t c.n<c.p.toNat) (hj:j<c.m+1):
  (rL ⟨c.p,c.n,c.k,c.m,fun i=>cF (c.f i)⟩ t).f j=jJ c t a j:=by
 obtain⟨k1,k2,k3,k4,k5⟩:=id hc
 have hK:=k1.cP h0 h1 hlo hhi ha ht
 have hl:=k1.len
 obtain⟨q,hq⟩:∃q,q=ej (cP c.k t (a+1)) (c.n+1) j:=⟨_,rfl⟩
 obtain⟨g1,g2,g3⟩:j≤q∧q<j+(c.p.toNat+1)∧cP c.k t (a+1) q<cP c.k t (a+1) (q+1):=by
  rw[hq]
  exact PC (n:=c.n+1) (k:=cP c.k t (a+1)) (pc:=qk (cP c.k t (a+1)) (c.n+1)) (fun _=>rfl) (fun _ _=>rfl) (hK.Jo (by omega)) (by omega) (by omega)
 obtain⟨hA,hI,o1,o2⟩:=Oe k1.sorted hlo hhi ha (by omega) g3
 have hI2:fW c.n c.k (cP c.k t (a+1) q)=gE a q:=by
  unfold fW;rw[if_neg (by unfold ek;rintro(h|h)<;>grind)];exact hI
 show l8 _ (fW c.n c.k (gA c.k t (fG c.k t c.n) (ej (gA c.k t (fG c.k t c.n)) (c.n+1) j))) c.p.toNat (fun q=>gA c.k t (fG c.k t c.n) (q+(j+1)))=_
 rw[G5 k1.sorted hlo hhi ha,ab8,←hq,hI2]
 have key:∀e,gr ⟨c.p,c.n,c.k,c.m,fun i=>cF (c.f i)⟩ (gE a q:Nat) c.p.toNat (fun i=>cP c.k t (a+1) (i+(j+1))) e=jh c.k c.p.toNat (fun i=>fz (cF (c.f i)) e) t a j:=fun e=>Ux hc h0 h1 hlo hhi ha hA g1 (by omega)
 unfold l8
 rw[key 0,key 1,key 2,key 3]
 rfl
theorem Tk {p:Pl} (h:p.d≠0):eo (cF p)=p:=by
 obtain⟨⟨x,y,z⟩,d⟩:=p
 have key:∀x:Rat,d*x/d=x:=fun x=>by rw[Rat.div_def,Rat.mul_comm d x,Rat.mul_assoc,Rat.mul_inv_cancel _ h,Rat.mul_one]
 unfold eo cF
 dsimp only
 rw[key,key,key]
def uP (c:Cu) (t:Rat) (a:Nat):Cu:=⟨c.p,c.n+1,cP c.k t (a+1),c.m+1,fun j=>eo (jJ c t a j)⟩
end Go.Am.B

/- ref10.inner, ref10.Insert; curve.Insert says the same. -/
namespace Go.Am.B
open Go Go.Am.N AV aa aj IntKind
def ey (c:Cu) (t:Rat):Cu:=if dw c t=0 then uP c t (bP c.n c.k t)else qP
def NR:Spec:=cQ (kC (jF 2000 2000) (kC (kO 2000) kN)) (fun a=>.tuple [cI (ey a.1 a.2.1) (sK+10) (sB+sB),.int .i64 (dw a.1 a.2.1)]) fun a=>[dy a.1]
theorem vP {n p:Nat} {k:Nat→Rat} {t:Rat} (h:Kn n p k) (h0:k 0<t) (h1:t<k (n-1)):k (bP n k t)≤t∧t<k (bP n k t+1)∧bP n k t+1<n:=by
 obtain⟨g1,g2,g3⟩:=h.D4 (Rat.le_of_lt h0) (Rat.le_of_lt h1)
 refine⟨g1.lo,?_,by omega⟩
 rcases g1.LU with e|e
 ·exact e
 ·rw[e];exact h1
theorem B9 {c:Cu} {t:Rat} (h:dw c t=0):c.k 0<t∧t<c.k (c.n-1)∧bT c.k t c.n<c.p.toNat∧c.m<40:=by
 unfold dw at h
 split at h
 ·omega
 ·rename_i g1
  split at h
  ·omega
  ·split at h
   ·omega
   ·have g1:=Classical.not_not.1 g1
    exact⟨g1.1,g1.2,by omega,by omega⟩
theorem RD:∀K args pre r,NR K args pre=some r→aB P uY K args pre r:=cU fun⟨c,t,_⟩ K hn=>by
 have hc:dy c:=hn
 obtain⟨h1,h2,h3,h4,h5⟩:=id hc
 have hl:=h1.len
 refine bJ (r:=aK (.tuple [cI (ey c t) (sK+10) (sB+sB),.int .i64 (dw c t)]) []) hT Mj hm Pv rfl (of_decide_eq_true (by kernel_rfl)) rfl 60 O4 (fun _=>?_) K []
 have no:∀{e:Int},dw c t=e→e≠0→dX [.agg [.int .i64 0,.nil,.nil],.int .i64 e] (.tuple [cI (ey c t) (sK+10) (sB+sB),.int .i64 (dw c t)]):=fun {e} he h0=>by
  refine⟨?_,bw he.symm,trivial⟩
  rw[show ey c t=qP from if_neg (by rw[he];exact h0)]
  exact HG
 simp only[aa.all,ax,decide_eq_true_eq,decide_eq_false_iff_not,Bool.not_eq_true',Bool.not_eq_false',Bool.and_eq_true,Bool.and_eq_false_iff]
 refine⟨⟨by omega,by omega,cM (Nat.le_refl _),jO (Nat.le_refl _),Nat.le_refl _,hc⟩,fun ho=>⟨by omega,by omega,no ?_ (by decide)⟩,fun hi=>⟨?_,fun h6=>⟨by omega,by omega,no ?_ (by decide)⟩,fun h6=>⟨by omega,fun h7=>⟨by omega,by omega,no ?_ (by decide)⟩,fun h7=>⟨?_,by omega,?_⟩⟩⟩⟩
 ·unfold dw;rw[if_pos fun h=>ho.elim (fun g=>g h.1) fun g=>g h.2]
 ·exact⟨by omega,by omega,cM (by decide),by decide,by omega,by omega⟩
 ·unfold dw;rw[if_neg (fun g=>g hi),if_pos h6]
 ·unfold dw;rw[if_neg (fun g=>g hi),if_neg h6,if_pos (by omega)]
 ·(repeat' with_reducible refine And.intro ?_ ?_)
  all_goals first|omega|exact cM (by decide)|exact jO (Nat.le_refl _)|exact sS (Nat.le_refl _)|exact h1|exact Nat.le_refl _|skip
 ·have he:dw c t=0:=by unfold dw;rw[if_neg (fun g=>g hi),if_neg h6,if_neg (by omega)]
  obtain⟨e1,e2,e3,e4⟩:=B9 he
  obtain⟨a1,a2,a3⟩:=vP h1 e1 e2
  refine⟨?_,bw he.symm,trivial⟩
  rw[show ey c t=uP c t (bP c.n c.k t)from if_pos he]
  refine dn ⟨.refl _,p5 rfl fun i _=>?_,p5 (by show c.n+1-c.p.toNat-1=c.m+1;omega) fun i hi=>?_,trivial⟩
  ·show AV.rat (gA c.k t (fG c.k t c.n) i) _=_
   rw[G5 h1.sorted a1 a2 a3];rfl
  ·show bu (eo ((rL ⟨c.p,c.n,c.k,c.m,fun i=>cF (c.f i)⟩ t).f i)) _=_
   have hi:i<c.n+1-c.p.toNat-1:=hi
   rw[Vw hc e1 e2 a1 a2 a3 e3 (by omega)];rfl
end Go.Am.B

/- How long the numbers of an inserted knot can be. -/
namespace Go.Am.B
open Go
theorem wG {x:Int} {n:Nat} (h:x.natAbs<2^n) (hn:1≤n):Sz (x:Rat) n:=
 ⟨by rw[Rat.num_intCast];exact h,by rw[Rat.den_intCast];exact Nat.lt_of_lt_of_le (show 1<2^1 by decide) (Nat.pow_le_pow_right (by decide) hn)⟩
def g9 (x:Rat):Prop:=∃z:Int,(z:Rat)=x*55440∧-110880≤z∧z≤776160
theorem g9.sz {x:Rat} (h:g9 x):Sz x 40:=by
 obtain⟨z,e,h1,h2⟩:=h
 have:x=(z:Rat)/((55440:Int):Rat):=by
  rw[e,Rat.div_def,Rat.mul_assoc,show(55440:Rat)=((55440:Int):Rat)from rfl,Rat.mul_inv_cancel _ (by decide+kernel),Rat.mul_one]
 rw[this]
 exact(wG (n:=20) (by omega) (by decide)).div (wG (n:=20) (by decide) (by decide))
theorem g9.order {x y:Rat} {z w:Int} (h:(z:Rat)=x*55440) (h':(w:Rat)=y*55440) (hxy:x≤y):z≤w:=by
 have:(z:Rat)≤(w:Rat):=by rw[h,h'];exact Rat.mul_le_mul_of_nonneg_right hxy (by decide+kernel)
 exact Rat.intCast_le_intCast.1 this
theorem ab4 {x y f:Rat} {u v:Int} {s:Nat} (hf:f*(v:Rat)=(u:Rat)) (h0:0≤u) (h1:u≤v) (h2:0<v) (h3:v<2^20) (hx:Sz x s) (hy:Sz y s):Sz (x+f*(y-x)) (2*s+61):=by
 have hv:(v:Rat)≠0:=by
  intro e
  have:v=0:=by
   have e2:(v:Rat)=((0:Int):Rat):=e
   exact Rat.intCast_inj.1 e2
  omega
 have key:x+f*(y-x)=(((v-u:Int):Rat)*x+(u:Rat)*y)/(v:Rat):=by
  have e1:((v-u:Int):Rat)=(v:Rat)-(u:Rat):=by rw[Rat.intCast_sub]
  rw[e1,Rat.div_def,←hf]
  have e2:((v:Rat)-f*(v:Rat))*x+f*(v:Rat)*y=(x+f*(y-x))*(v:Rat):=by grind
  rw[e2,Rat.mul_assoc,Rat.mul_inv_cancel _ hv,Rat.mul_one]
 rw[key]
 have a1:=(wG (x:=v-u) (n:=20) (by omega) (by decide)).mul hx
 have a2:=(wG (x:=u) (n:=20) (by omega) (by decide)).mul hy
 have a3:=(a1.add a2).div (wG (x:=v) (n:=20) (by omega) (by decide))
 exact a3.more (by omega)
theorem BR {k x:Nat→Rat} {p a j n s:Nat} {t:Rat} (hs:∀i,i+1<n→k i≤k (i+1)) (hlo:k a≤t) (hhi:t<k (a+1)) (hn:a+p<n) (hk:∀i,g9 (k i)) (ht:g9 t) (hx:∀i,Sz (x i) s):Sz (jh k p x t a j) (2*s+61):=by
 unfold jh
 split
 ·exact(hx _).more (by omega)
 ·split
  ·exact(hx _).more (by omega)
  ·have m1:=eL hs (show j≤a by omega) (by omega)
   have m2:=eL hs (show a+1≤j+p by omega) (by omega)
   have hw:k j<k (j+p):=by grind
   obtain⟨z1,e1,b1,c1⟩:=hk j
   obtain⟨z2,e2,b2,c2⟩:=hk (j+p)
   obtain⟨z3,e3,b3,c3⟩:=ht
   have o1:=g9.order e1 e3 (by grind)
   have o2:=g9.order e3 e2 (by grind)
   have o3:z1<z2:=by
    have:(z1:Rat)<(z2:Rat):=by rw[e1,e2];exact Rat.mul_lt_mul_of_pos_right hw (by decide+kernel)
    exact Rat.intCast_lt_intCast.1 this
   refine ab4 (u:=z3-z1) (v:=z2-z1) ?_ (by omega) (by omega) (by omega) (by omega) (hx _) (hx _)
   have hf:=mU (t:=t) hw
   rw[Rat.intCast_sub,Rat.intCast_sub,e1,e2,e3]
   have:fr (k j) (k (j+p)) t*(k (j+p)*55440-k j*55440)=fr (k j) (k (j+p)) t*(k (j+p)-k j)*55440:=by grind
   rw[this,hf];grind
theorem afJ {k:Nat→Rat} {t:Rat} {q:Nat} (hk:∀i,g9 (k i)) (ht:g9 t) (i:Nat):g9 (cP k t q i):=by
 unfold cP
 split
 ·exact hk _
 ·split
  ·exact ht
  ·exact hk _
end Go.Am.B

/- Several fF inserted: all polar forms stay (plain). -/
namespace Go.Am.B
def Ak (p n:Nat) (k:Nat→Rat) (x:Nat→Nat→Rat) (N:Nat) (K:Nat→Rat) (X:Nat→Nat→Rat):Prop:=
 ∀Q,At N K Q→∃P,At n k P∧k P≤K Q∧K (Q+1)≤k (P+1)∧∀e l,l.length=p→fj K p (X e) Q l=fj k p (x e) P l
theorem Ak.refl {p n:Nat} {k:Nat→Rat} {x:Nat→Nat→Rat}:Ak p n k x n k x:=fun Q h=>⟨Q,h,Rat.le_refl,Rat.le_refl,fun _ _ _=>rfl⟩
theorem Kn.Cz {n p P:Nat} {k:Nat→Rat} (h:Kn n p k) (hA:At n k P):p≤P∧P+p+1<n:=by
 have hw:=hA.wide
 have hlt:=hA.lt
 have hl:=h.len
 constructor
 ·by_cases c:p≤P
  ·exact c
  ·rw[h.first P (by omega),h.first (P+1) (by omega)]at hw
   exact absurd hw Rat.lt_irrefl
 ·by_cases c:P+p+1<n
  ·exact c
  ·rw[h.last P (by omega) (by omega),h.last (P+1) (by omega) (by omega)]at hw
   exact absurd hw Rat.lt_irrefl
theorem Ak.ins {p n N a:Nat} {k K:Nat→Rat} {x X:Nat→Nat→Rat} {t:Rat} (h:Ak p n k x N K X) (hK:Kn N p K) (h0:K 0<t) (h1:t<K (N-1)) (hlo:K a≤t) (hhi:t<K (a+1)) (ha:a+1<N) (ht:bT K t N<p):
  Ak p n k x (N+1) (cP K t (a+1)) fun e=>jh K p (X e) t a:=by
 intro Q hQ
 have hK':=hK.cP h0 h1 hlo hhi ha ht
 obtain⟨g1,g2⟩:=hK.r9 h0 h1 hlo hhi ha
 obtain⟨hA,_,_,_⟩:=Oe hK.sorted hlo hhi ha (by have:=hQ.lt;omega) hQ.wide
 obtain⟨w1,w2⟩:=hK.Cz hA
 obtain⟨v1,v2⟩:=hK'.Cz hQ
 obtain⟨P,p1,p2,p3,p4⟩:=h _ hA
 refine⟨P,p1,?_,?_,fun e l hl=>?_⟩
 ·refine Rat.le_trans p2 ?_
  unfold gE
  by_cases c1:Q≤a
  ·rw[if_pos c1,iA (by omega)];exact Rat.le_refl
  ·rw[if_neg c1]
   by_cases c2:Q=a+1
   ·subst c2;rw[nB];exact hlo
   ·rw[iz (by omega)];exact Rat.le_refl
 ·refine Rat.le_trans ?_ p3
  unfold gE
  by_cases c1:Q≤a
  ·rw[if_pos c1]
   by_cases c2:Q=a
   ·subst c2;rw[nB];exact Rat.le_of_lt hhi
   ·rw[iA (by omega)];exact Rat.le_refl
  ·rw[if_neg c1,iz (by omega),show Q+1-1=Q-1+1 by omega];exact Rat.le_refl
 ·rw[←p4 e l hl]
  exact TS (n:=N) hK.sorted hK.p1 hlo hhi g1 hA w1 (by omega) hQ v1 (by omega) hl
end Go.Am.B

/- Curves of drawn ones by insertions: valid, and their numbers are short. -/
namespace Go.Am.B
open Go Go.Am.N AV aa aj IntKind
structure oc (c:Cu) (s:Nat):Prop where
 kn:dy c
 pos:∀i,0<(c.f i).d
 kd:∀i,g9 (c.k i)
 sx:∀i,Sz (cF (c.f i)).n.x s
 sy:∀i,Sz (cF (c.f i)).n.y s
 sz:∀i,Sz (cF (c.f i)).n.z s
 sd:∀i,Sz (c.f i).d s
theorem abf {h:Pl} (hd:h.d≠0):cF (eo h)=h:=by
 obtain⟨⟨x,y,z⟩,d⟩:=h
 have key:∀x:Rat,d*(x/d)=x:=fun x=>by rw[Rat.div_def,Rat.mul_comm d,Rat.mul_assoc,Rat.inv_mul_cancel _ hd,Rat.mul_one]
 unfold eo cF
 dsimp only
 rw[key,key,key]
theorem P9 {c:Cu} {t:Rat} {a i:Nat} (hc:dy c) (hp:∀i,0<(c.f i).d) (h0:c.k 0<t) (h1:t<c.k (c.n-1)) (hlo:c.k a≤t) (hhi:t<c.k (a+1)) (ha:a+1<c.n):0<(jJ c t a i).d:=by
 obtain⟨g1,g2⟩:=hc.1.r9 h0 h1 hlo hhi ha
 exact akD (n:=c.n) hc.1.sorted hlo hhi (by omega) fun i=>hp i
theorem zZ {x:Rat} (h:0<x):x≠0:=fun e=>by rw[e]at h;exact absurd h Rat.lt_irrefl
theorem oc.ins {c:Cu} {s:Nat} {t:Rat} (h:oc c s) (ht:g9 t) (he:dw c t=0):oc (ey c t) (2*s+61):=by
 obtain⟨e1,e2,e3,e4⟩:=B9 he
 obtain⟨k1,k2,k3,k4,k5⟩:=id h.kn
 obtain⟨a1,a2,a3⟩:=vP k1 e1 e2
 obtain⟨g1,g2⟩:=k1.r9 e1 e2 a1 a2 a3
 rw[show ey c t=uP c t (bP c.n c.k t)from if_pos he]
 have hpos:∀i,0<(jJ c t (bP c.n c.k t) i).d:=fun i=>P9 h.kn h.pos e1 e2 a1 a2 a3
 have hl:∀i,cF (eo (jJ c t (bP c.n c.k t) i))=jJ c t (bP c.n c.k t) i:=fun i=>abf (zZ (hpos i))
 refine⟨⟨k1.cP e1 e2 a1 a2 a3 e3,k2,k3,show c.n+1≤c.p.toNat+41 by omega,show((c.m+1:Nat):Int)=((c.n+1:Nat):Int)-c.p-1 by omega⟩,hpos,afJ h.kd ht,fun i=>?_,fun i=>?_,fun i=>?_,fun i=>?_⟩
 ·show Sz (cF (eo (jJ c t (bP c.n c.k t) i))).n.x _
  rw[hl];exact BR (n:=c.n) k1.sorted a1 a2 (by omega) h.kd ht h.sx
 ·show Sz (cF (eo (jJ c t (bP c.n c.k t) i))).n.y _
  rw[hl];exact BR (n:=c.n) k1.sorted a1 a2 (by omega) h.kd ht h.sy
 ·show Sz (cF (eo (jJ c t (bP c.n c.k t) i))).n.z _
  rw[hl];exact BR (n:=c.n) k1.sorted a1 a2 (by omega) h.kd ht h.sz
 ·exact BR (n:=c.n) k1.sorted a1 a2 (by omega) h.kd ht h.sd
theorem oc.x {c:Cu} {s:Nat} (h:oc c s) (i:Nat):Sz (c.f i).n.x (s+s)∧Sz (c.f i).n.y (s+s)∧Sz (c.f i).n.z (s+s):=by
 have e:=Tk (zZ (h.pos i))
 have d:(cF (c.f i)).d=(c.f i).d:=rfl
 refine⟨?_,?_,?_⟩
 ·rw[←e];exact(h.sx i).div (d▸h.sd i)
 ·rw[←e];exact(h.sy i).div (d▸h.sd i)
 ·rw[←e];exact(h.sz i).div (d▸h.sd i)
end Go.Am.B

/- curve.Refine, ref10.Refine. -/
namespace Go.Am.B
open Go Go.Am.N AV aa aj IntKind
def s5 (c:Cu) (t:Nat→Rat):Nat→Cu
 |0=>c
 |r+1=>ey (s5 c t r) (t r)
def m7 (c:Cu) (t:Nat→Rat):Nat→Int
 |0=>0
 |r+1=>if m7 c t r=0 then dw (s5 c t r) (t r)else m7 c t r
def Ki:Nat→Nat
 |0=>5
 |r+1=>2*Ki r+61
theorem WY {c:Cu} {t:Nat→Rat} {r:Nat} (h:m7 c t (r+1)=0):m7 c t r=0∧dw (s5 c t r) (t r)=0:=by
 unfold m7 at h
 split at h
 ·rename_i g;exact⟨g,h⟩
 ·rename_i g;exact absurd h g
theorem Kx {c:Cu} {t:Nat→Rat} (hc:oc c 5) (ht:∀i,g9 (t i)):∀{r:Nat},m7 c t r=0→oc (s5 c t r) (Ki r)
 |0,_=>hc
 |r+1,h=>by
  obtain⟨h1,h2⟩:=WY h
  exact(Kx hc ht h1).ins (ht r) h2
theorem ahw {c:Cu} {t:Nat→Rat} {r:Nat} (h:m7 c t r=0) (he:dw (s5 c t r) (t r)=0):m7 c t (r+1)=0:=(if_pos h:m7 c t (r+1)=_).trans he
end Go.Am.B

/- A curve is split where a knot occurs p times (plain). -/
namespace Go.Am.B
def Ce (g:Nat→Bool):Nat→Nat
 |0=>0
 |n+1=>if Ce g n<n then Ce g n else if g n then n else n+1
theorem Kn.split {N p a:Nat} {K:Nat→Rat} {t:Rat} (h:Kn N p K) (h0:K 0<t) (h1:t<K (N-1)) (hlo:K a≤t) (hhi:t<K (a+1)) (ha:a+1<N) (ht:bT K t N=p):
  (∀i,i≤a→a<i+p→K i=t)∧(∀i,i+p≤a→K i<t)∧p+p≤a:=by
 obtain⟨g1,g2⟩:=h.r9 h0 h1 hlo hhi ha
 have hp:=h.p1
 have run:∀i,i≤a→a<i+p→K i=t:=fun i hi h2=>TA h.sorted hhi ha hlo hi (by rw[ht];exact h2)
 refine⟨run,fun i hi=>?_,?_⟩
 ·have m:=h.mono (show i≤a by omega) (by omega)
  by_cases e:K i=t
  ·exfalso
   have hb:∀j,i≤j→j<i+(p+1)→K j=t:=fun j hj1 hj2=>by
    have a1:=h.mono hj1 (by omega)
    have a2:=h.mono (show j≤a by omega) (by omega)
    grind
   have b1:=Gl hb
   have b2:=Ej (k:=K) (t:=t) (n:=i+(p+1)) (m:=N-(i+(p+1)))
   rw[show i+(p+1)+(N-(i+(p+1)))=N by omega]at b2
   omega
  ·grind
 ·by_cases c:p+p≤a
  ·exact c
  ·have e:=run p g1 (by omega)
   rw[h.first p (Nat.le_refl _)]at e
   rw[e]at h0
   exact absurd h0 Rat.lt_irrefl
end Go.Am.B

/- ref10.Split. -/
namespace Go.Am.B
open Go Go.Am.N AV aa aj IntKind
theorem K4 {k:Nat→Rat} {t:Rat} {q:Nat}:∀{m:Nat},bT (cP k t q) t (q+1+m)=bT k t (q+m)+1
 |0=>by
  have pre:∀i,i≤q→bT (cP k t q) t i=bT k t i:=fun i=>by
   induction i with
   |zero=>intro _;rfl
   |succ i ih=>intro h;rw[o6,o6,ih (by omega),iA (by omega)]
  show bT (cP k t q) t (q+1)=bT k t q+1
  rw[o6,pre q (Nat.le_refl _),nB,if_pos rfl]
 |m+1=>by
  rw[←Nat.add_assoc,o6,K4 (m:=m),iz (by omega),←Nat.add_assoc,o6,show q+1+m-1=q+m by omega];omega
abbrev jE (c:Cu) (t:Rat):Nat→Cu:=s5 c fun _=>t
structure vc (c:Cu) (t:Rat) (r:Nat):Prop where
 e:m7 c (fun _=>t) r=0
 p:(jE c t r).p=c.p
 n:(jE c t r).n=c.n+r
 m:(jE c t r).m=c.m+r
 s:bT (jE c t r).k t (jE c t r).n=bT c.k t c.n+r
 k0:(jE c t r).k 0=c.k 0
 k1:(jE c t r).k ((jE c t r).n-1)=c.k (c.n-1)
theorem akd {c:Cu} {t:Rat} (h0:c.k 0<t) (h1:t<c.k (c.n-1)) (h2:(bT c.k t c.n:Int)<c.p) (h3:c.m<40):dw c t=0:=by
 unfold dw;rw[if_neg (fun g=>g ⟨h0,h1⟩),if_neg (by omega),if_neg (by omega)]
theorem RV {d:Cu} {t:Rat} (hd:dy d) (hE:dw d t=0):(ey d t).p=d.p∧(ey d t).n=d.n+1∧(ey d t).m=d.m+1∧bT (ey d t).k t (ey d t).n=bT d.k t d.n+1∧(ey d t).k 0=d.k 0∧(ey d t).k ((ey d t).n-1)=d.k (d.n-1):=by
 obtain⟨b1,b2,b3,b4⟩:=B9 hE
 obtain⟨i1,i2,i3⟩:=vP hd.1 b1 b2
 rw[show ey d t=uP d t (bP d.n d.k t)from if_pos hE]
 generalize bP d.n d.k t=a at*
 have:=K4 (k:=d.k) (t:=t) (q:=a+1) (m:=d.n-(a+1))
 rw[show a+1+1+(d.n-(a+1))=d.n+1 by omega,show a+1+(d.n-(a+1))=d.n by omega]at this
 refine⟨rfl,rfl,rfl,this,(show cP d.k t (a+1) 0=_ from iA (by omega)),?_⟩
 show cP d.k t (a+1) (d.n+1-1)=_
 rw[iz (by omega)];rfl
theorem vc.go {c:Cu} {t:Rat} {r:Nat} (h:vc c t r) (hc:oc c 5) (ht:g9 t) (h0:c.k 0<t) (h1:t<c.k (c.n-1)) (h2:((bT c.k t c.n+r:Nat):Int)<c.p) (h3:c.m+r<40):dw (jE c t r) t=0∧vc c t (r+1):=by
 obtain⟨a1,a2,a3,a4,a5,a6,a7⟩:=h
 have hE:dw (jE c t r) t=0:=akd (by rw[a6];exact h0) (by rw[a7];exact h1) (by rw[a5,a2];exact h2) (by rw[a4];exact h3)
 have hd:=Kx hc (fun _=>ht) a1
 obtain⟨b1,b2,b3,b4,b5,b6⟩:=RV hd.kn hE
 exact⟨hE,ahw a1 hE,b1.trans a2,by rw[show(jE c t (r+1)).n=(jE c t r).n+1 from b2,a3];rfl,by rw[show(jE c t (r+1)).m=(jE c t r).m+1 from b3,a4];rfl,b4.trans (by rw[a5];rfl),b5.trans a6,b6.trans a7⟩
theorem vc.all {c:Cu} {t:Rat} (hc:oc c 5) (ht:g9 t) (h0:c.k 0<t) (h1:t<c.k (c.n-1)) (h40:c.m+c.p.toNat≤40):∀{r:Nat},((bT c.k t c.n+r:Nat):Int)≤c.p→vc c t r
 |0,_=>⟨rfl,rfl,rfl,rfl,rfl,rfl,rfl⟩
 |r+1,h=>((vc.all hc ht h0 h1 h40 (r:=r) (by omega)).go hc ht h0 h1 (by omega) (by omega)).2
end Go.Am.B

/- slices.IndexFunc of numbers by the closures of Spline.Cut. -/
namespace Go.Am.B
open Go Go.Am.N AV aa aj IntKind
def gtG (x:Rat) (k:Nat→Rat) (i:Nat):Bool:=decide (x<k i)
def geG (x:Rat) (k:Nat→Rat) (i:Nat):Bool:=decide (x≤k i)
end Go.Am.B

/- Spline.Cut. -/
namespace Go.Am.B
open Go Go.Am.N AV aa aj IntKind
def l7 (k:Nat→Rat) (n:Nat) (t:Rat):Nat→Nat→Rat
 |0=>k
 |r+1=>cP (l7 k n t r) t (bP (n+r) (l7 k n t r) t+1)
abbrev Ez:ah:=⟨false,true,3,1,fun _=>.agg [.int .i64 0,.nil,.nil]⟩
abbrev Ik (c:Cu):ah:=⟨false,true,3,1,fun _=>eB c 2000 4000⟩
structure K1 (n p:Nat) (k:Nat→Rat) (t:Rat) (r:Nat):Prop where
 kn:Kn (n+r) p (l7 k n t r)
 tm:bT (l7 k n t r) t (n+r)=bT k t n+r
 f0:l7 k n t r 0=k 0
 fl:l7 k n t r (n+r-1)=k (n-1)
 sd:∀i,g9 (l7 k n t r i)
theorem K1.next {n p r:Nat} {k:Nat→Rat} {t:Rat} (h:K1 n p k t r) (h0:k 0<t) (h1:t<k (n-1)):gA (l7 k n t r) t (fG (l7 k n t r) t (n+r))=l7 k n t (r+1):=by
 obtain⟨a1,a2,a3,a4,a5⟩:=h
 obtain⟨i1,i2,i3⟩:=vP a1 (by rw[a3];exact h0) (by rw[a4];exact h1)
 rw[G5 a1.sorted i1 i2 i3];rfl
end Go.Am.B

/- The fF of an elevated spline (plain). -/
namespace Go.Am.B
def bE (k:Nat→Rat) (n:Nat):Nat→Nat
 |0=>0
 |i+1=>bE k n i+if i+1=n∨k i≠k (i+1)then 1 else 0
def b9 (k:Nat→Rat) (n:Nat):Nat→Nat→Rat
 |0,_=>0
 |i+1,q=>if q<i+bE k n i then b9 k n i q else k i
section
variable {k:Nat→Rat} {n:Nat}
theorem zH {i:Nat} (h:i+1=n∨k i≠k (i+1)):bE k n (i+1)=bE k n i+1:=by rw[bE,if_pos h]
theorem tF {i:Nat} (h:¬(i+1=n∨k i≠k (i+1))):bE k n (i+1)=bE k n i:=by rw[bE,if_neg h];rfl
theorem oE {i:Nat}:bE k n i≤bE k n (i+1)∧bE k n (i+1)≤bE k n i+1:=by
 rw[bE];split<;>omega
theorem xB {i:Nat}:∀{j:Nat},i≤j→bE k n i≤bE k n j
 |0,h=>by rw[show i=0 by omega];exact Nat.le_refl _
 |j+1,h=>by
  by_cases e:i=j+1
  ·rw[e];exact Nat.le_refl _
  ·exact Nat.le_trans (xB (j:=j) (by omega)) oE.1
theorem zf:∀{i:Nat},bE k n i≤i
 |0=>Nat.le_refl _
 |i+1=>by have:=zf (i:=i);have:=(oE (k:=k) (n:=n) (i:=i)).2;omega
theorem GJ {i:Nat}:∀{j:Nat},i≤j→(∀q,i≤q→q<j→¬(q+1=n∨k q≠k (q+1)))→bE k n j=bE k n i
 |0,h,_=>by rw[show i=0 by omega]
 |j+1,h,hq=>by
  by_cases e:i=j+1
  ·rw[e]
  ·rw[tF (hq j (by omega) (by omega)),GJ (j:=j) (by omega) fun q h1 h2=>hq q h1 (by omega)]
theorem pO {i q:Nat}:∀{m:Nat},i<m→i+bE k n i≤q→q<i+1+bE k n (i+1)→b9 k n m q=k i
 |0,h,_,_=>by omega
 |m+1,h,h1,h2=>by
  by_cases e:i=m
  ·subst e;rw[b9,if_neg (by omega)]
  ·have:=xB (k:=k) (n:=n) (show i+1≤m by omega)
   rw[b9,if_pos (by omega),pO (m:=m) (by omega) h1 h2]
theorem ES {Q:Nat}:∀{m:Nat},Q<m+bE k n m→∃i,i<m∧i+bE k n i≤Q∧Q<i+1+bE k n (i+1)
 |0,h=>by
    have:bE k n 0=0:=rfl
    omega
 |m+1,h=>by
  by_cases e:Q<m+bE k n m
  ·obtain⟨i,h1,h2,h3⟩:=ES e
   exact⟨i,by omega,h2,h3⟩
  ·exact⟨m,by omega,by omega,h⟩
theorem LN {p:Nat} (h:Kn n p k):Kn (n+bE k n n) (p+1) (b9 k n n):=by
 have hp:=h.p1
 have hl:=h.len
 have src:∀{Q},Q<n+bE k n n→∃i,i<n∧i+bE k n i≤Q∧Q<i+1+bE k n (i+1)∧b9 k n n Q=k i:=fun {Q} hQ=>by
  obtain⟨i,h1,h2,h3⟩:=ES hQ
  exact⟨i,h1,h2,h3,pO h1 h2 h3⟩
 have ord:∀{Q Q' i i'},Q≤Q'→i+bE k n i≤Q→Q'<i'+1+bE k n (i'+1)→i≤i':=fun {Q Q' i i'} hQ h1 h2=>by
  by_cases c:i≤i'
  ·exact c
  ·have:=xB (k:=k) (n:=n) (show i'+1≤i by omega)
   omega
 have dp:bE k n (p+1)=bE k n p+1:=by
  refine zH (.inr fun e=>?_)
  have m:=h.mult 1 (by omega) (by omega)
  rw[h.first 1 (by omega),show 1+p=p+1 by omega,←e,h.first p (by omega)]at m
  exact Rat.lt_irrefl m
 have dl:bE k n n=bE k n (n-1)+1:=by
  have:=zH (k:=k) (n:=n) (i:=n-1) (.inl (by omega))
  rwa [show n-1+1=n by omega]at this
 have m1:=xB (k:=k) (n:=n) (show p+1≤n-1 by omega)
 have fl:bE k n (n-1)=bE k n (n-p-1):=GJ (by omega) fun q h1 h2=>by
  rintro(e|e)
  ·omega
  ·exact e (by rw[h.last q (by omega) (by omega),h.last (q+1) (by omega) (by omega)])
 refine⟨by omega,by omega,fun Q hQ=>?_,fun Q hQ=>?_,fun Q h1 h2=>?_,fun Q h1 h2=>?_⟩
 ·obtain⟨i,a1,a2,a3,a4⟩:=src (Q:=Q) (by omega)
  obtain⟨j,b1,b2,b3,b4⟩:=src (Q:=Q+1) hQ
  rw[a4,b4]
  exact h.mono (ord (show Q≤Q+1 by omega) a2 b3) b1
 ·obtain⟨i,a1,a2,a3,a4⟩:=src (Q:=Q) (by omega)
  obtain⟨j,b1,b2,b3,b4⟩:=src (Q:=0) (by omega)
  have c1:=ord (i:=i) (i':=p) (Q:=Q) (Q':=p+1) (by omega) a2 (by omega)
  have c2:=ord (i:=j) (i':=p) (Q:=0) (Q':=p+1) (by omega) b2 (by omega)
  rw[a4,b4,h.first i c1,h.first j c2]
 ·obtain⟨i,a1,a2,a3,a4⟩:=src (Q:=Q) (by omega)
  obtain⟨j,b1,b2,b3,b4⟩:=src (Q:=n+bE k n n-1) (by omega)
  have c1:n≤i+p+1:=by
   by_cases c:n≤i+p+1
   ·exact c
   ·have:=xB (k:=k) (n:=n) (show i+1≤n-p-1 by omega)
    omega
  have c2:=ord (show Q≤n+bE k n n-1 by omega) a2 b3
  rw[a4,b4,h.last i c1 a1,h.last j (by omega) b1]
 ·obtain⟨i,a1,a2,a3,a4⟩:=src (Q:=Q) (by omega)
  obtain⟨j,b1,b2,b3,b4⟩:=src (Q:=Q+(p+1)) (by omega)
  have c1:=ord (show Q≤Q+(p+1) by omega) a2 b3
  have c2:=h.mono c1 b1
  rw[a4,b4]
  by_cases e:k i<k j
  ·exact e
  ·exfalso
   have e2:k i=k j:=by grind
   have flat:∀q,i≤q→q<j→¬(q+1=n∨k q≠k (q+1)):=fun q g1 g2=>by
    rintro(g|g)
    ·omega
    ·have u1:=h.mono g1 (by omega)
     have u2:=h.mono (show q≤q+1 by omega) (by omega)
     have u3:=h.mono (show q+1≤j by omega) b1
     exact g (by grind)
   have g1:=GJ c1 flat
   have s1:=(oE (k:=k) (n:=n) (i:=i)).2
   have s2:=(oE (k:=k) (n:=n) (i:=j)).2
   have g2:i+p≤j∧Q=i+bE k n i:=by
    by_cases c:i<j
    ·have:=tF (flat i (Nat.le_refl _) c)
     omega
    ·omega
   have i0:1≤i:=by
    by_cases c:i=0
    ·subst c
     have:bE k n 0=0:=rfl
     omega
    ·omega
   have hj:i+p+1<n:=by
    by_cases c:i+p+1<n
    ·exact c
    ·have e3:j=n-1:=by omega
     subst e3
     omega
   have:=h.mult i i0 hj
   have:=h.mono g2.1 b1
   grind
theorem afK {i:Nat} (hi:i<n):b9 k n n (i+bE k n i)=k i∧b9 k n n (i+bE k n i+1)=(if i+1=n∨k i≠k (i+1)then k i else k (i+1)):=by
 refine⟨pO hi (Nat.le_refl _) (by have:=(oE (k:=k) (n:=n) (i:=i)).1;omega),?_⟩
 by_cases c:i+1=n∨k i≠k (i+1)
 ·rw[if_pos c,pO hi (by omega) (by rw[zH c];omega)]
 ·have hi2:i+1<n:=by
   by_cases e:i+1=n
   ·exact absurd (.inl e) c
   ·omega
  rw[if_neg c,pO (i:=i+1) hi2 (by rw[tF c];omega) (by have:=(oE (k:=k) (n:=n) (i:=i+1)).1;rw[tF c]at this;omega)]
end
end Go.Am.B
