/- ref01.Gcd: Euclid, on words when both are words. -/
import Derived.Test.YtppeigelbecpbaaGreatB28
set_option linter.unusedVariables false
namespace Go.Am.B
open Go Go.Am.N AV
theorem T4:aO P z7 iX (au iX):=aP adM (by kernel_rfl) (by kernel_rfl) (by kernel_rfl)
def oR:aR:=[(nu,rZ),(tJ,Fq),(nQ,vW),(ta,lI (fun A B=>lN A B) fun A B=>[nl A<2^38,nl B<2^38])]
noncomputable abbrev AH:Code:=part (au iX) [1,1,0,0,0]
noncomputable abbrev wj:Code:=part AH [1,0]
noncomputable abbrev rL:Code:=part wj [1,1,0,1,0]
noncomputable abbrev KN:Code:=part rL [0,0,0]
theorem pM:aX P oR:=aJ Az (aJ J6 (aJ Bb (aJ K0 bn)))
theorem adk {A B:Nat}:aK T oR [] 60 [0,1] (before (au iX) [1,1,0]) ⟨aN 0 [.mag A,.mag B],[],0⟩=
  some (aa.ag [nl A<2^40,nl B<2^40] (aa.leaf ak.normal ([mag A,mag B],[]))):=by kernel_rfl
theorem Zg {A B:Nat}:aK T oR [18] 60 [0,1] [part AH [0]] ⟨aB [0,1] [.mag A,.mag B],[],0⟩=
  some (aa.fork (decide ((↑(nl B):Int)>(0:Int))) (aa.leaf ak.normal ([mag A,mag B],[])) (aa.leaf (ak.exit 0) ([mag A,mag B],[]))):=by kernel_rfl
theorem ab2 {A B:Nat}:aK T oR [30,32] 60 [0,1,5,7,32] (before wj [1,1,0,1]) ⟨aB [0,1] [.mag A,.mag B],[],0⟩=
  let c2:AV:=int IntKind.u64 (↑(if fj B=true then B else 0):Int);let c1:AV:=int IntKind.u64 (↑(if fj A=true then A else 0):Int);some (aa.fork (fj A) (aa.ag [fj A=true] (aa.leaf ak.normal ([mag A,mag B,c1,c2,AV.bool (bif true then fj B else false)],[]))) (aa.ag [fj A=false] (aa.leaf ak.normal ([mag A,mag B,c1,c2,AV.bool false],[])))):=by kernel_rfl
theorem Qi {x y:Nat}:aK T oR [34] 60 [5,7] [KN] ⟨aB [5,7] [.int .u64 x,.int .u64 y],[],0⟩=
  let c1 : Int := (↑y : Int); some (aa.fork (c1 != (0 : Int)) (aa.ag [c1 ≠ (0 : Int)] (aa.leaf ak.normal ([int IntKind.u64 c1, int IntKind.u64 ((↑x : Int).tmod c1)], []))) (aa.leaf (ak.exit 2) ([int IntKind.u64 (↑x : Int), int IntKind.u64 c1], []))) := by kernel_rfl
theorem ada {x y:Nat}:aK T oR [] 60 [4] [part rL [1]] ⟨aB [5,7] [.int .u64 x,.int .u64 y],[],0⟩=
  some (aa.ag [(0:Int)≤(↑x:Int)∧(↑x:Int)<(2:Int)^64] (aa.leaf ak.ret ([mag (↑x:Int).toNat],[]))):=by kernel_rfl
theorem SW {A B:Nat}:aK T oR [] 60 [0,1] (behind wj [1,1,0,1]) ⟨aB [0,1] [.mag A,.mag B],[],0⟩=
  some (aa.ag [nl A<2^38,nl B<2^38] (aa.leaf ak.normal ([mag B,mag (if B=0 then 0 else A%B)],[]))):=by kernel_rfl
theorem U6 {A B:Nat}:bW T oR [] 60 iX (behind (au iX) [1,1,0]) ⟨aB [0,1] [.mag A,.mag B],[],0⟩=
  some (aa.leaf ak.ret [mag A]):=by kernel_rfl
theorem Si {s:aH} {ls l:List Nat} {vs us:List AV} {os:aC} (hv:bf (l++ls) s=some (us++vs,os)) (hl:us.length=l.length) (hk:bh us=[]):bf ls s=some (vs,os):=by
 unfold bf at hv ⊢
 simp only[Option.some.injEq,Prod.mk.injEq,Gf]at hv ⊢
 obtain⟨h1,h2⟩:=hv
 obtain⟨h3,h4⟩:=List.append_inj h1 (by rw[Fm,hl])
 subst h4
 refine⟨rfl,?_⟩
 rw[←h2,h3,Jl,hk,List.nil_append]
theorem YS {A B:Nat} (hA:nl A<2^38) (hB:nl B<2^38) (K:Nat):aA P z7 K [.mag A,.mag B] [] (aI (.mag (Nat.gcd A B)) []):=by
 refine gz hT T4 rfl (of_decide_eq_true (by kernel_rfl)) rfl (fun _ c h0=>?_) K []
 have hk0:=B1 h0
 refine aq.hole [1,1,0] (by kernel_rfl) (aE.bk hT pM hm 60 [0,1] adk (by kernel_rfl) ?_)
 simp only[aa.all,ax]
 refine⟨⟨by omega,by omega⟩,fun s' hv=>bV ?_⟩
 refine aq.gl (i:=0) (y:=AH) (by kernel_rfl) [0,1] 0 (h0 0) (fun p:Nat×Nat=>[.mag p.1,.mag p.2]) (fun _=>[]) (fun _=>rfl) (fun _=>trivial)
  (fun p=>Nat.gcd p.1 p.2=Nat.gcd A B∧nl p.1<2^38∧nl p.2<2^38) (fun p=>p.2) (A,B) hv ⟨rfl,hA,hB⟩ ?_
 rintro⟨X,Y⟩ ⟨hg,hX,hY⟩
 simp only at hg hX hY
 have hstep:∀{X Y:Nat},Y≠0→Nat.gcd Y (X%Y)=Nat.gcd X Y:=fun {X Y} _=>by rw[Nat.gcd_comm X Y,Nat.gcd_rec Y X,Nat.gcd_comm]
 refine aq.hole [0] (by kernel_rfl) (show aq P c iX.ntmps (part AH [0]) _ _ from aq.bk hT pM hm 60 [0,1] Zg (by kernel_rfl) ?_)
 simp only[aa.all,decide_eq_true_eq,decide_eq_false_iff_not]
 refine⟨fun hb s' hv=>bV ?_,fun hb s' hv=>pz (ej ?_)⟩
 ·have hY0:Y≠0:=fo.1 (by omega)
  have hlt:=Nat.mod_lt X (show 0<Y by omega)
  show aq P c iX.ntmps (part AH [1]) s' _
  refine aq.oO (i:=1) (y:=wj) (by kernel_rfl) ?_
  refine aq.hole [1,1,0,1] (by kernel_rfl) (aE.ee hT pM hm 60 hv (h0 0) rfl trivial [0,1,5,7,32] ab2 (by kernel_rfl) (by kernel_rfl) ?_)
  simp only[aa.all,ax]
  have fin:∀{s':aH} {Q:ak→aH→Prop},bf [0,1] s'=some ([.mag X,.mag Y],[])→(∀s',bf [0,1] s'=some ([.mag Y,.mag (X%Y)],[])→Q .normal s')→aE P c iX.ntmps (behind wj [1,1,0,1]) s' Q:=by
   intro s' Q hv h
   refine aE.ee hT pM hm 60 hv (h0 0) rfl trivial [0,1] SW (by kernel_rfl) (by kernel_rfl) ?_
   simp only[aa.all,ax]
   exact⟨⟨hX,hY⟩,fun s' hv=>h s' (cX hv (by rw[if_neg hY0]) rfl)⟩
  have good:∀{s':aH},bf [0,1] s'=some ([.mag Y,.mag (X%Y)],[])→∃k:Nat×Nat,bf [0,1] s'=some ([.mag k.1,.mag k.2],[])∧(Nat.gcd k.1 k.2=Nat.gcd A B∧nl k.1<2^38∧nl k.2<2^38)∧k.2<Y:=
   fun hv=>⟨(Y,X%Y),hv,⟨by rw[←hg];exact hstep hY0,hY,Nat.lt_of_le_of_lt (gd (Nat.le_of_lt hlt)) hY⟩,hlt⟩
  refine⟨fun hf=>⟨hf,fun s' hv=>bV ?_⟩,fun hf=>⟨hf,fun s' hv=>bV ?_⟩⟩
  ·refine aq.cond (b:=.tmp 32) (t:=fj Y) (x:=rL) (y:=.skip) (uC hv rfl rfl) (fun hf2=>?_) (fun _=>aq.skip ?_)
   ·rw[if_pos hf,if_pos hf2]at hv
    have hX64:X<2^64:=by unfold fj at hf;simpa using hf
    have hY64:Y<2^64:=by unfold fj at hf2;simpa using hf2
    have hv:=Si (l:=[0,1]) (us:=[.mag X,.mag Y]) (gC (ls:=[0,1,5,7]) (vs:=[.mag X,.mag Y,.int .u64 (X:Nat),.int .u64 (Y:Nat)]) hv rfl rfl) rfl rfl
    refine aq.hole [0] (by kernel_rfl) ?_
    show aq P c iX.ntmps (part rL [0]) s' _
    refine aq.gl (i:=2) (y:=KN) (by kernel_rfl) [5,7] 0 (h0 0) (fun p:Nat×Nat=>[.int .u64 (p.1:Nat),.int .u64 (p.2:Nat)]) (fun _=>[]) (fun _=>rfl) (fun _=>trivial)
     (fun p=>Nat.gcd p.1 p.2=Nat.gcd A B∧p.1<2^64∧p.2<2^64) (fun p=>p.2) (X,Y) hv ⟨hg,hX64,hY64⟩ ?_
    rintro⟨x,y⟩ ⟨hg,hx,hy⟩
    simp only at hg hx hy
    refine aq.bk hT pM hm 60 [5,7] Qi (by kernel_rfl) ?_
    simp only[aa.all,ax,bne_iff_ne,ne_eq,bne_eq_false_iff_eq]
    refine⟨fun hb=>⟨hb,fun s' hv=>bV ?_⟩,fun hb s' hv=>ej ?_⟩
    ·have hy0:y≠0:=by omega
     have hlt:=Nat.mod_lt x (show 0<y by omega)
     exact⟨(y,x%y),cX hv (by rw[←Int.ofNat_tmod]) rfl,⟨by rw[←hg];exact hstep hy0,hy,by simp only;omega⟩,hlt⟩
    ·have hy0:y=0:=by omega
     show aE P c iX.ntmps [part rL [1]] s' _
     refine aE.ee hT pM hm 60 hv (h0 0) rfl trivial [4] ada (by kernel_rfl) (by kernel_rfl) ?_
     simp only[aa.all,ax,Int.toNat_natCast]
     refine⟨by omega,fun s' hv=>?_⟩
     rw[show x=Nat.gcd A B by rw[←hg,hy0,Nat.gcd_zero_right]]at hv
     exact(.inl (fF (us:=[.mag (Nat.gcd A B)]) (.inr rfl) hv (by kernel_rfl) (cT rfl)))
   ·exact bV (fin (gC (ls:=[0,1]) (vs:=[.mag X,.mag Y]) hv rfl rfl) fun s' hv=>good hv)
  ·refine aq.cond (b:=.tmp 32) (t:=false) (x:=rL) (y:=.skip) (uC hv rfl rfl) (fun h=>by simp at h) (fun _=>aq.skip ?_)
   exact bV (fin (gC (ls:=[0,1]) (vs:=[.mag X,.mag Y]) hv rfl rfl) fun s' hv=>good hv)
 ·have hY0:Y=0:=iy.1 (by omega)
  show aE P c iX.ntmps (behind (au iX) [1,1,0]) s' _
  refine aE.ji hT pM hm 60 hv (h0 0) rfl trivial U6 (by kernel_rfl) (by kernel_rfl) (cT ?_)
  rw[←hg,hY0,Nat.gcd_zero_right]
def Jx:Spec:=lI (fun A B=>.mag (Nat.gcd A B)) fun A B=>[nl A<2^38,nl B<2^38]
theorem Rc:∀K args pre r,Jx K args pre=some r→aA P z7 K args pre r:=nH fun h=>YS h.1 h.2
end Go.Am.B
