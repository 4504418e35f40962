/- ref01.Gcd: Euclid, on words when both are words. -/
import Derived.Test.YtppeigelbecpbaaGreatB28
set_option linter.unusedVariables false
namespace Go.Am.B
open Go Go.Am.N AV
theorem RW:aO P wE jI (au jI):=aQ ZO (by kernel_rfl) (by kernel_rfl) (by kernel_rfl)
def oF:aR:=[(nL,tN),(sR,Fu),(pP,AO),(sU,mL (fun A B=>mc A B) fun A B=>[nl A<2^38,nl B<2^38])]
noncomputable abbrev wH:Code:=part (au jI) [1,1,0,0,0]
noncomputable abbrev xE:Code:=part wH [1,0]
noncomputable abbrev sq:Code:=part xE [1,1,0,1,0]
noncomputable abbrev J2:Code:=part sq [0,0,0]
theorem qI:aY P oF:=aG x9 (aG LJ (aG BG (aG K7 bk)))
theorem aeT {A B:Nat}:aH T oF [] 60 [0,1] (before (au jI) [1,1,0]) ⟨aN 0 [.mag A,.mag B],[],0⟩=
  some (aa.ag [nl A<2^40,nl B<2^40] (aa.leaf aj.normal ([mag A,mag B],[]))):=by kernel_rfl
theorem ajn {A B:Nat}:aH T oF [18] 60 [0,1] [part wH [0]] ⟨aA [0,1] [.mag A,.mag B],[],0⟩=
  some (aa.fork (decide ((↑(nl B):Int)>(0:Int))) (aa.leaf aj.normal ([mag A,mag B],[])) (aa.leaf (aj.exit 0) ([mag A,mag B],[]))):=by kernel_rfl
theorem akJ {A B:Nat}:aH T oF [30,32] 60 [0,1,5,7,32] (before xE [1,1,0,1]) ⟨aA [0,1] [.mag A,.mag B],[],0⟩=
  let c2:AV:=int IntKind.u64 (↑(if fH B=true then B else 0):Int);let c1:AV:=int IntKind.u64 (↑(if fH A=true then A else 0):Int);some (aa.fork (fH A) (aa.ag [fH A=true] (aa.leaf aj.normal ([mag A,mag B,c1,c2,AV.bool (bif true then fH B else false)],[]))) (aa.ag [fH A=false] (aa.leaf aj.normal ([mag A,mag B,c1,c2,AV.bool false],[])))):=by kernel_rfl
theorem ag3 {x y:Nat}:aH T oF [34] 60 [5,7] [J2] ⟨aA [5,7] [.int .u64 x,.int .u64 y],[],0⟩=
  let c1 : Int := (↑y : Int); some (aa.fork (c1 != (0 : Int)) (aa.ag [c1 ≠ (0 : Int)] (aa.leaf aj.normal ([int IntKind.u64 c1, int IntKind.u64 ((↑x : Int).tmod c1)], []))) (aa.leaf (aj.exit 2) ([int IntKind.u64 (↑x : Int), int IntKind.u64 c1], []))) := by kernel_rfl
theorem aj7 {x y:Nat}:aH T oF [] 60 [4] [part sq [1]] ⟨aA [5,7] [.int .u64 x,.int .u64 y],[],0⟩=
  some (aa.ag [(0:Int)≤(↑x:Int)∧(↑x:Int)<(2:Int)^64] (aa.leaf aj.ret ([mag (↑x:Int).toNat],[]))):=by kernel_rfl
theorem agw {A B:Nat}:aH T oF [] 60 [0,1] (behind xE [1,1,0,1]) ⟨aA [0,1] [.mag A,.mag B],[],0⟩=
  some (aa.ag [nl A<2^38,nl B<2^38] (aa.leaf aj.normal ([mag B,mag (if B=0 then 0 else A%B)],[]))):=by kernel_rfl
theorem Tr {A B:Nat}:cm T oF [] 60 jI (behind (au jI) [1,1,0]) ⟨aA [0,1] [.mag A,.mag B],[],0⟩=
  some (aa.leaf aj.ret [mag A]):=by kernel_rfl
theorem W5 {s:aF} {ls l:List Nat} {vs us:List AV} {os:aC} (hv:aX (l++ls) s=some (us++vs,os)) (hl:us.length=l.length) (hk:aZ us=[]):aX ls s=some (vs,os):=by
 unfold aX at hv ⊢
 simp only[Option.some.injEq,Prod.mk.injEq,Ft]at hv ⊢
 obtain⟨h1,h2⟩:=hv
 obtain⟨h3,h4⟩:=List.append_inj h1 (by rw[HI,hl])
 subst h4
 refine⟨rfl,?_⟩
 rw[←h2,h3,Nw,hk,List.nil_append]
theorem Xw {A B:Nat} (hA:nl A<2^38) (hB:nl B<2^38) (K:Nat):aB P wE K [.mag A,.mag B] [] (aK (.mag (Nat.gcd A B)) []):=by
 refine iq hT RW rfl (of_decide_eq_true (by kernel_rfl)) rfl (fun _ c h0=>?_) K []
 have hk0:=CM h0
 refine aq.hole [1,1,0] (by kernel_rfl) (aD.bf hT qI hm 60 [0,1] aeT (by kernel_rfl) ?_)
 simp only[aa.all,ax]
 refine⟨⟨by omega,by omega⟩,fun s' hv=>bY ?_⟩
 refine aq.gC (i:=0) (y:=wH) (by kernel_rfl) [0,1] 0 (h0 0) (fun p:Nat×Nat=>[.mag p.1,.mag p.2]) (fun _=>[]) (fun _=>rfl) (fun _=>trivial)
  (fun p=>Nat.gcd p.1 p.2=Nat.gcd A B∧nl p.1<2^38∧nl p.2<2^38) (fun p=>p.2) (A,B) hv ⟨rfl,hA,hB⟩ ?_
 rintro⟨X,Y⟩ ⟨hg,hX,hY⟩
 simp only at hg hX hY
 have hstep:∀{X Y:Nat},Y≠0→Nat.gcd Y (X%Y)=Nat.gcd X Y:=fun {X Y} _=>by rw[Nat.gcd_comm X Y,Nat.gcd_rec Y X,Nat.gcd_comm]
 refine aq.hole [0] (by kernel_rfl) (show aq P c jI.ntmps (part wH [0]) _ _ from aq.bf hT qI hm 60 [0,1] ajn (by kernel_rfl) ?_)
 simp only[aa.all,decide_eq_true_eq,decide_eq_false_iff_not]
 refine⟨fun hb s' hv=>bY ?_,fun hb s' hv=>rq (eV ?_)⟩
 ·have hY0:Y≠0:=fY.1 (by omega)
  have hlt:=Nat.mod_lt X (show 0<Y by omega)
  show aq P c jI.ntmps (part wH [1]) s' _
  refine aq.ov (i:=1) (y:=xE) (by kernel_rfl) ?_
  refine aq.hole [1,1,0,1] (by kernel_rfl) (aD.eH hT qI hm 60 hv (h0 0) rfl trivial [0,1,5,7,32] akJ (by kernel_rfl) (by kernel_rfl) ?_)
  simp only[aa.all,ax]
  have fin:∀{s':aF} {Q:aj→aF→Prop},aX [0,1] s'=some ([.mag X,.mag Y],[])→(∀s',aX [0,1] s'=some ([.mag Y,.mag (X%Y)],[])→Q .normal s')→aD P c jI.ntmps (behind xE [1,1,0,1]) s' Q:=by
   intro s' Q hv h
   refine aD.eH hT qI hm 60 hv (h0 0) rfl trivial [0,1] agw (by kernel_rfl) (by kernel_rfl) ?_
   simp only[aa.all,ax]
   exact⟨⟨hX,hY⟩,fun s' hv=>h s' (dm hv (by rw[if_neg hY0]) rfl)⟩
  have good:∀{s':aF},aX [0,1] s'=some ([.mag Y,.mag (X%Y)],[])→∃k:Nat×Nat,aX [0,1] s'=some ([.mag k.1,.mag k.2],[])∧(Nat.gcd k.1 k.2=Nat.gcd A B∧nl k.1<2^38∧nl k.2<2^38)∧k.2<Y:=
   fun hv=>⟨(Y,X%Y),hv,⟨by rw[←hg];exact hstep hY0,hY,Nat.lt_of_le_of_lt (gB (Nat.le_of_lt hlt)) hY⟩,hlt⟩
  refine⟨fun hf=>⟨hf,fun s' hv=>bY ?_⟩,fun hf=>⟨hf,fun s' hv=>bY ?_⟩⟩
  ·refine aq.cond (b:=.tmp 32) (t:=fH Y) (x:=sq) (y:=.skip) (AF hv rfl rfl) (fun hf2=>?_) (fun _=>aq.skip ?_)
   ·rw[if_pos hf,if_pos hf2]at hv
    have hX64:X<2^64:=by unfold fH at hf;simpa using hf
    have hY64:Y<2^64:=by unfold fH at hf2;simpa using hf2
    have hv:=W5 (l:=[0,1]) (us:=[.mag X,.mag Y]) (hH (ls:=[0,1,5,7]) (vs:=[.mag X,.mag Y,.int .u64 (X:Nat),.int .u64 (Y:Nat)]) hv rfl rfl) rfl rfl
    refine aq.hole [0] (by kernel_rfl) ?_
    show aq P c jI.ntmps (part sq [0]) s' _
    refine aq.gC (i:=2) (y:=J2) (by kernel_rfl) [5,7] 0 (h0 0) (fun p:Nat×Nat=>[.int .u64 (p.1:Nat),.int .u64 (p.2:Nat)]) (fun _=>[]) (fun _=>rfl) (fun _=>trivial)
     (fun p=>Nat.gcd p.1 p.2=Nat.gcd A B∧p.1<2^64∧p.2<2^64) (fun p=>p.2) (X,Y) hv ⟨hg,hX64,hY64⟩ ?_
    rintro⟨x,y⟩ ⟨hg,hx,hy⟩
    simp only at hg hx hy
    refine aq.bf hT qI hm 60 [5,7] ag3 (by kernel_rfl) ?_
    simp only[aa.all,ax,bne_iff_ne,ne_eq,bne_eq_false_iff_eq]
    refine⟨fun hb=>⟨hb,fun s' hv=>bY ?_⟩,fun hb s' hv=>eV ?_⟩
    ·have hy0:y≠0:=by omega
     have hlt:=Nat.mod_lt x (show 0<y by omega)
     exact⟨(y,x%y),dm hv (by rw[←Int.ofNat_tmod]) rfl,⟨by rw[←hg];exact hstep hy0,hy,by simp only;omega⟩,hlt⟩
    ·have hy0:y=0:=by omega
     show aD P c jI.ntmps [part sq [1]] s' _
     refine aD.eH hT qI hm 60 hv (h0 0) rfl trivial [4] aj7 (by kernel_rfl) (by kernel_rfl) ?_
     simp only[aa.all,ax,Int.toNat_natCast]
     refine⟨by omega,fun s' hv=>?_⟩
     rw[show x=Nat.gcd A B by rw[←hg,hy0,Nat.gcd_zero_right]]at hv
     exact(.inl (fZ (us:=[.mag (Nat.gcd A B)]) (.inr rfl) hv (by kernel_rfl) (dc rfl)))
   ·exact bY (fin (hH (ls:=[0,1]) (vs:=[.mag X,.mag Y]) hv rfl rfl) fun s' hv=>good hv)
  ·refine aq.cond (b:=.tmp 32) (t:=false) (x:=sq) (y:=.skip) (AF hv rfl rfl) (fun h=>by simp at h) (fun _=>aq.skip ?_)
   exact bY (fin (hH (ls:=[0,1]) (vs:=[.mag X,.mag Y]) hv rfl rfl) fun s' hv=>good hv)
 ·have hY0:Y=0:=iJ.1 (by omega)
  show aD P c jI.ntmps (behind (au jI) [1,1,0]) s' _
  refine aD.jz hT qI hm 60 hv (h0 0) rfl trivial Tr (by kernel_rfl) (by kernel_rfl) (dc ?_)
  rw[←hg,hY0,Nat.gcd_zero_right]
def KZ:Spec:=mL (fun A B=>.mag (Nat.gcd A B)) fun A B=>[nl A<2^38,nl B<2^38]
theorem Yp:∀K args pre r,KZ K args pre=some r→aB P wE K args pre r:=oO fun h=>Xw h.1 h.2
end Go.Am.B
