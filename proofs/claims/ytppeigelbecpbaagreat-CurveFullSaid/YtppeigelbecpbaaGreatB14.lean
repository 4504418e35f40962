/- natural.Gcd. -/
import Derived.Test.YtppeigelbecpbaaGreatB13
set_option linter.unusedVariables false
namespace Go.Am.B
open Go Go.Am.N AV
theorem Nr:aN P pL fM (au fM):=aO UO (by kernel_rfl) (by kernel_rfl) (by kernel_rfl)
def GG:aT:=(pQ,bq (fI BQ))::(nQ,yw)::(q9,bq (jb x8))::(pe,zq)::G1
noncomputable abbrev nq:Code:=part (au fM) [1,1,1]
theorem uE:bp P GG:=aK DU (aK zn (aK MX (aK E2 eR)))
theorem L5 {n m:Nat} {z y:Nat→Nat}:aJ T GG [] 60 [5,6] (before (au fM) [1,1,0]) ⟨aM 0 [.aq 1 n (ax z),.aq 1 m (ax y)],[],0⟩=
  let c2:Nat:=val n fun i↦numOf (ax z i);let c1:Nat:=val m fun i↦numOf (ax y i);some (aa.ag [cJ n (ax z),n<2^62,nl c2<2^40,cJ m (ax y),m<2^62,nl c1<2^40] (aa.leaf ah.normal ([mag c2,mag c1],[]))):=by kernel_rfl
theorem MF {X Y:Nat}:aJ T GG [23] 60 [5,6] [part (au fM) [1,1,0,0,0]] ⟨aD [5,6] [.mag X,.mag Y],[],0⟩=
  some (aa.fork (decide ((↑(nl Y):Int)>(2:Int))) (aa.ag [nl X<2^40,nl Y<2^40] (aa.leaf ah.normal ([mag Y,mag (if Y=0 then 0 else X%Y)],[]))) (aa.leaf (ah.exit 0) ([mag X,mag Y],[]))):=by kernel_rfl
theorem Qs {X Y:Nat}:aJ T GG [35,39] 60 [13,14,4] (before nq [1,1,1,0]) ⟨aD [5,6] [.mag X,.mag Y],[],0⟩=
  let c2:AV:=int IntKind.u64 (↑Y:Int);let c1:Nat:=if Y=0 then 0 else X%Y;some (aa.fork ((↑(nl Y):Int)==(0:Int)) (aa.leaf ah.ret ([tuple [],tuple [],mag X],[])) (aa.fork (decide ((↑(nl X):Int)>(2:Int))) (aa.ag [nl X<2^40,nl Y<2^40] (aa.ag [nl Y≤2,nl c1≤2] (aa.leaf ah.normal ([c2,int IntKind.u64 (↑c1:Int),tuple []],[])))) (aa.ag [nl X≤2,nl Y≤2] (aa.leaf ah.normal ([int IntKind.u64 (↑X:Int),c2,tuple []],[]))))):=by kernel_rfl
theorem QY {x y:Nat}:aJ T GG [54] 60 [13,14] [part nq [1,1,1,0,0,0]] ⟨aD [13,14] [.int .u64 x,.int .u64 y],[],0⟩=
  let c1 : Int := (↑y : Int); some (aa.fork (c1 != (0 : Int)) (aa.ag [c1 ≠ (0 : Int)] (aa.leaf ah.normal ([int IntKind.u64 c1, int IntKind.u64 ((↑x : Int).tmod c1)], []))) (aa.leaf (ah.exit 2) ([int IntKind.u64 (↑x : Int), int IntKind.u64 c1], []))) := by kernel_rfl
theorem Ys {x y:Nat}:b7 T GG [] 60 fM (behind nq [1,1,1,0]) ⟨aD [13,14] [.int .u64 x,.int .u64 y],[],0⟩=
  some (aa.ag [(0:Int)≤(↑x:Int)∧(↑x:Int)<(2:Int)^64] (aa.leaf ah.ret [mag (↑x:Int).toNat])):=by kernel_rfl
theorem lY {Y:Nat} (h:nl Y≤2):Y<2^64:=cq.1 h
theorem Px {n m:Nat} {z y:Nat→Nat} (hz:∀i,i<n→z i<2^32) (hy:∀i,i<m→y i<2^32) (hn:n<2^40) (hm':m<2^40) (K:Nat) (pre:aA):
  aB P pL K [.aq 1 n (ax z),.aq 1 m (ax y)] pre (aG (.mag (Nat.gcd (val n z) (val m y))) []):=by
 refine gH hT Nr rfl (of_decide_eq_true (by kernel_rfl)) rfl (fun _ c h0=>?_) K pre
 have hk0:∀{nx:Nat} k x,c.k0 k=some x→k<nx:=hG h0
 have hA:nl (val n z)≤n:=cq.2 (ec hz)
 have hB:nl (val m y)≤m:=cq.2 (ec hy)
 refine aj.hole [1,1,0] (by kernel_rfl) (aC.aV hT uE hm 60 [5,6] L5 (by kernel_rfl) ?_)
 simp only[aa.all,az,gC]
 generalize val n z=A at*
 generalize val m y=B at*
 refine⟨⟨eA hz,by omega,by omega,eA hy,by omega,by omega⟩,fun s' hv=>bK ?_⟩
 refine aj.fl (i:=0) (y:=part (au fM) [1,1,0,0,0]) (by kernel_rfl) [5,6] 0 hk0 (fun p:Nat×Nat=>[.mag p.1,.mag p.2]) (fun _=>[]) (fun _=>rfl) (fun _=>trivial)
  (fun p=>Nat.gcd p.1 p.2=Nat.gcd A B∧nl p.1<2^40∧nl p.2<2^40) (fun p=>p.2) (A,B) hv ⟨rfl,by simp only;omega,by simp only;omega⟩ ?_
 rintro⟨X,Y⟩ ⟨hg,hX,hY⟩
 simp only at hg hX hY
 refine aj.aV hT uE hm 60 [5,6] MF (by kernel_rfl) ?_
 simp only[aa.all,az,decide_eq_true_eq,decide_eq_false_iff_not]
 have hstep:∀{X Y:Nat},Y≠0→Nat.gcd Y (X%Y)=Nat.gcd X Y:=fun {X Y} _=>by rw[Nat.gcd_comm X Y,Nat.gcd_rec Y X,Nat.gcd_comm]
 refine⟨fun hb=>⟨⟨hX,hY⟩,fun s' hv=>?_⟩,fun hb s' hv=>dM ?_⟩
 ·have hY0:Y≠0:=eL.1 (by omega)
  have hlt:=Nat.mod_lt X (show 0<Y by omega)
  refine⟨(Y,X%Y),cC hv (by rw[if_neg hY0]) rfl,⟨by rw[←hg];exact hstep hY0,hY,Nat.lt_of_le_of_lt (fA (Nat.le_of_lt hlt)) hY⟩,hlt⟩
 have hY2:nl Y≤2:=by omega
 refine bK (aC.gY (nx:=0) hv hk0 (by kernel_rfl) rfl trivial ?_)
 show aC P c fM.ntmps [nq] _ _
 refine aj.hole [1,1,1,0] (by kernel_rfl) (aC.aV hT uE hm 60 [13,14,4] Qs (by kernel_rfl) ?_)
 simp only[aa.all,az,decide_eq_true_eq,decide_eq_false_iff_not,beq_iff_eq,beq_eq_false_iff_ne,ne_eq]
 have rest:∀{x y:Nat} {s':aE},x<2^64→y<2^64→Nat.gcd x y=Nat.gcd A B→aR [13,14,4] s'=some ([.int .u64 (x:Nat),.int .u64 (y:Nat)]++[.tuple []],[])→
   aj P c fM.ntmps (part nq [1,1,1,0]) s' (cK (fun s'=>aC P c fM.ntmps (behind nq [1,1,1,0]) s' (cK (fun s'=>aC P c fM.ntmps [] s' (Fin T fM (.mag (Nat.gcd A B)))) (Fin T fM (.mag (Nat.gcd A B)))))
    (cK (fun s'=>aC P c fM.ntmps [] s' (Fin T fM (.mag (Nat.gcd A B)))) (Fin T fM (.mag (Nat.gcd A B))))):=by
  intro x y s' hx hy hg hv
  have hv:=fS (ls:=[13,14]) (l:=[4]) (vs:=[.int .u64 (x:Nat),.int .u64 (y:Nat)]) hv rfl rfl
  refine aj.fl (i:=2) (y:=part nq [1,1,1,0,0,0]) (by kernel_rfl) [13,14] 0 hk0 (fun p:Nat×Nat=>[.int .u64 (p.1:Nat),.int .u64 (p.2:Nat)]) (fun _=>[]) (fun _=>rfl) (fun _=>trivial)
   (fun p=>Nat.gcd p.1 p.2=Nat.gcd A B∧p.1<2^64∧p.2<2^64) (fun p=>p.2) (x,y) hv ⟨hg,hx,hy⟩ ?_
  rintro⟨x,y⟩ ⟨hg,hx,hy⟩
  simp only at hg hx hy
  refine aj.aV hT uE hm 60 [13,14] QY (by kernel_rfl) ?_
  simp only[aa.all,az,bne_iff_ne,ne_eq,bne_eq_false_iff_eq]
  refine⟨fun hb=>⟨hb,fun s' hv=>?_⟩,fun hb s' hv=>dM ?_⟩
  ·have hy0:y≠0:=by omega
   have hlt:=Nat.mod_lt x (show 0<y by omega)
   exact⟨(y,x%y),cC hv (by rw[←Int.ofNat_tmod]) rfl,⟨by rw[←hg];exact hstep hy0,hy,by simp only;omega⟩,hlt⟩
  ·have hy0:y=0:=by omega
   subst hy0
   refine bK ?_
   refine aC.mono (Q:=Fin T fM (.mag (Nat.gcd A B))) (fun e s' h=>by cases e<;>exact h) ?_
   refine aC.wV hT uE hm 60 (nx:=0) hv hk0 rfl trivial Ys (by kernel_rfl) (by kernel_rfl) ⟨⟨by omega,by omega⟩,cD ?_⟩
   rw[Int.toNat_natCast,←hg,Nat.gcd_zero_right]
 refine⟨fun hb s' hv=>dL (dL ?_),fun hb=>⟨fun h1=>⟨⟨hX,hY⟩,⟨by omega,?_⟩,fun s' hv=>bK (rest (lY hY2) ?_ ?_ (cC hv rfl rfl))⟩,fun h1=>⟨⟨by omega,by omega⟩,fun s' hv=>bK (rest (lY (by omega)) (lY hY2) hg (cC hv rfl rfl))⟩⟩⟩
 ·have hY0:Y=0:=by
   rcases Nat.eq_zero_or_pos Y with h1|h1
   ·exact h1
   ·have:=eL.2 (show Y≠0 by omega);omega
  refine eH (us:=[.mag X]) (.inr rfl) hv (by kernel_rfl) (cD ?_)
  rw[←hg,hY0,Nat.gcd_zero_right]
 all_goals
  have hY0:Y≠0:=eL.1 (by omega)
  have hlt:=Nat.mod_lt X (show 0<Y by omega)
  rw[if_neg hY0]
 ·exact Nat.le_trans (fA (Nat.le_of_lt hlt)) hY2
 ·exact Nat.lt_trans hlt (lY hY2)
 ·rw[←hg];exact hstep hY0
def AS (A n B m:Nat):cr:=aG (.mag (Nat.gcd A B)) [n<2^40,m<2^40]
theorem E6:∀K args pre r,bq (fI AS) K args pre=some r→aB P pL K args pre r:=
 bL (qg fun _ _ _ _ K hz hy need=>Px hz hy need.1 need.2 K [])
end Go.Am.B
