/- ref01.Gcd: Euclid, on words when both are words. -/
import Derived.Test.YtolopdkjjlfgjaaGreatB28
set_option linter.unusedVariables false
noncomputable section
namespace Go.Am.B
open Go Go.Am.N AV Proofs.Tryz
theorem Zn:br 173 f173:=bu func173
def qN:bz:=[(140,um),(186,Df),(138,yW),(174,oH (fun A B=>oL A B) fun A B=>[nl A<2^38,nl B<2^38])]
abbrev x8:Code:=part (aI f173) [1,1,0,0,0]
abbrev yV:Code:=part x8 [1,0]
abbrev uT:Code:=part yV [1,1,0,1,0]
abbrev Pt:Code:=part uT [0,0,0]
theorem rV:bU P qN:=aL zY (aL KF (aL BK (aL NB cG)))
theorem aeF {A B:Nat}:aH T qN [] 60 [0,1] (before (aI f173) [1,1,0]) ⟨aU 0 [.mag A,.mag B],[],0⟩=
  some (af.aj [nl A<2^40,nl B<2^40] (af.leaf aq.normal ([mag A,mag B],[]))):=ah
theorem QB {A B:Nat}:aH T qN [18] 60 [0,1] [part x8 [0]] ⟨aB [0,1] [.mag A,.mag B],[],0⟩=
  some (af.fork (decide ((↑(nl B):Int)>0)) (af.leaf aq.normal ([mag A,mag B],[])) (af.leaf (aq.exit 0) ([mag A,mag B],[]))):=ah
theorem adI {A B:Nat}:aH T qN [30,32] 60 [0,1,5,7,32] (before yV [1,1,0,1]) ⟨aB [0,1] [.mag A,.mag B],[],0⟩=
  let c2:AV:=int .u64 (↑(if ij B=true then B else 0):Int);let c1:AV:=int .u64 (↑(if ij A=true then A else 0):Int);some (af.fork (ij A) (af.aj [ij A=true] (af.leaf aq.normal ([mag A,mag B,c1,c2,AV.bool (bif true then ij B else false)],[]))) (af.aj [ij A=false] (af.leaf aq.normal ([mag A,mag B,c1,c2,AV.bool false],[])))):=ah
theorem Yw {x y:Nat}:aH T qN [34] 60 [5,7] [Pt] ⟨aB [5,7] [.int .u64 x,.int .u64 y],[],0⟩=
  let c1:Int:=(↑y:Int);some (af.fork (c1 !=(0:Int)) (af.aj [c1≠(0:Int)] (af.leaf aq.normal ([int .u64 c1,int .u64 ((↑x:Int).tmod c1)],[]))) (af.leaf (aq.exit 2) ([int .u64 (↑x:Int),int .u64 c1],[]))):=ah
theorem agr {x y:Nat}:aH T qN [] 60 [4] [part uT [1]] ⟨aB [5,7] [.int .u64 x,.int .u64 y],[],0⟩=
  some (af.aj [(0:Int)<=(↑x:Int)/\(↑x:Int)<2^64] (af.leaf aq.ret ([mag (↑x:Int).toNat],[]))):=ah
theorem Wm {A B:Nat}:aH T qN [] 60 [0,1] (behind yV [1,1,0,1]) ⟨aB [0,1] [.mag A,.mag B],[],0⟩=
  some (af.aj [nl A<2^38,nl B<2^38] (af.leaf aq.normal ([mag B,mag (if B=0 then 0 else A%B)],[]))):=ah
theorem agE {A B:Nat}:cR T qN [] 60 f173 (behind (aI f173) [1,1,0]) ⟨aB [0,1] [.mag A,.mag B],[],0⟩=
  some (af.leaf aq.ret [mag A]):=ah
theorem aaw {s:aK} {ls l:List Nat} {vs us:List AV} {os:aE} (hv:bA (l++ls) s=some (us++vs,os)) (hl:us.length=l.length) (hk:bT us=[]):bA ls s=some (vs,os):=by
 unfold bA at hv ⊢
 simp only[ay,Prod.mk.injEq,E1]at hv ⊢
 obtain⟨h1,h2⟩:=hv
 obtain⟨h3,h4⟩:=List.append_inj h1 (by rw[D6,hl])
 subst h4
 refine⟨rfl,?_⟩
 rw[<-h2,h3,NY,hk,List.nil_append]
theorem Sy {A B:Nat} (hA:nl A<2^38) (hB:nl B<2^38) (K:Nat):aS P 173 K [.mag A,.mag B] [] (aM (.mag (Nat.gcd A B)) []):=by
 refine iE hT Zn rfl aZ rfl (fun _ c h0=>?_) K []
 have hk0:=CI h0
 refine au.hole [1,1,0] ah (aF.bL hT rV hm 60 [0,1] aeF ah ?_)
 simp only[af.all,az]
 refine⟨⟨aa,aa⟩,fun s' hv=>cW ?_⟩
 refine au.jh (i:=0) (y:=x8) ah [0,1] 0 (h0 0) (fun p:Nat×Nat=>[.mag p.1,.mag p.2]) (fun _=>[]) (fun _=>rfl) (fun _=>trivial)
  (fun p=>Nat.gcd p.1 p.2=Nat.gcd A B/\nl p.1<2^38/\nl p.2<2^38) (fun p=>p.2) (A,B) hv ⟨rfl,hA,hB⟩ ?_
 rintro⟨X,Y⟩ ⟨hg,hX,hY⟩
 simp only at hg hX hY
 have hstep:∀{X Y:Nat},Y≠0->Nat.gcd Y (X%Y)=Nat.gcd X Y:=fun {X Y} _=>by rw[Nat.gcd_comm X Y,Nat.gcd_rec Y X,Nat.gcd_comm]
 refine au.hole [0] ah (show au P c f173.ntmps (part x8 [0]) _ _ from au.bL hT rV hm 60 [0,1] QB ah ?_)
 simp only[af.all,bD,bI]
 refine⟨fun hb s' hv=>cW ?_,fun hb s' hv=>su (gv ?_)⟩
 ·have hY0:Y≠0:=iB.1 aa
  have hlt:=Nat.mod_lt X (show 0<Y by omega)
  show au P c f173.ntmps (part x8 [1]) s' _
  refine au.qF (i:=1) (y:=yV) ah ?_
  refine au.hole [1,1,0,1] ah (aF.gh hT rV hm 60 hv (h0 0) rfl trivial [0,1,5,7,32] adI ah ah ?_)
  simp only[af.all,az]
  have fin:∀{s':aK} {Q:aq->aK->Prop},bA [0,1] s'=some ([.mag X,.mag Y],[])->(∀s',bA [0,1] s'=some ([.mag Y,.mag (X%Y)],[])->Q .normal s')->aF P c f173.ntmps (behind yV [1,1,0,1]) s' Q:=by
   intro s' Q hv h
   refine aF.gh hT rV hm 60 hv (h0 0) rfl trivial [0,1] Wm ah ah ?_
   simp only[af.all,az]
   exact⟨⟨hX,hY⟩,fun s' hv=>h s' (eP hv (by rw[if_neg hY0]) rfl)⟩
  have good:∀{s':aK},bA [0,1] s'=some ([.mag Y,.mag (X%Y)],[])->∃k:Nat×Nat,bA [0,1] s'=some ([.mag k.1,.mag k.2],[])/\(Nat.gcd k.1 k.2=Nat.gcd A B/\nl k.1<2^38/\nl k.2<2^38)/\k.2<Y:=
   fun hv=>⟨(Y,X%Y),hv,⟨by rw[<-hg];exact hstep hY0,hY,Nat.lt_of_le_of_lt (jd (Nat.le_of_lt hlt)) hY⟩,hlt⟩
  refine⟨fun hf=>⟨hf,fun s' hv=>cW ?_⟩,fun hf=>⟨hf,fun s' hv=>cW ?_⟩⟩
  ·refine au.cond (b:=.tmp 32) (t:=ij Y) (x:=uT) (y:=.skip) (yu hv rfl rfl) (fun hf2=>?_) (fun _=>au.skip ?_)
   ·rw[if_pos hf,if_pos hf2]at hv
    have hX64:X<2^64:=by unfold ij at hf;simpa using hf
    have hY64:Y<2^64:=by unfold ij at hf2;simpa using hf2
    have hv:=aaw (l:=[0,1]) (us:=[.mag X,.mag Y]) (kB (ls:=[0,1,5,7]) (vs:=[.mag X,.mag Y,.int .u64 (X:Nat),.int .u64 (Y:Nat)]) hv rfl rfl) rfl rfl
    refine au.hole [0] ah ?_
    show au P c f173.ntmps (part uT [0]) s' _
    refine au.jh (i:=2) (y:=Pt) ah [5,7] 0 (h0 0) (fun p:Nat×Nat=>[.int .u64 (p.1:Nat),.int .u64 (p.2:Nat)]) (fun _=>[]) (fun _=>rfl) (fun _=>trivial)
     (fun p=>Nat.gcd p.1 p.2=Nat.gcd A B/\p.1<2^64/\p.2<2^64) (fun p=>p.2) (X,Y) hv ⟨hg,hX64,hY64⟩ ?_
    rintro⟨x,y⟩ ⟨hg,hx,hy⟩
    simp only at hg hx hy
    refine au.bL hT rV hm 60 [5,7] Yw ah ?_
    simp only[af.all,az,bne_iff_ne,ne_eq,bne_eq_false_iff_eq]
    refine⟨fun hb=>⟨hb,fun s' hv=>cW ?_⟩,fun hb s' hv=>gv ?_⟩
    ·have hy0:y≠0:=aa
     have hlt:=Nat.mod_lt x (show 0<y by omega)
     exact⟨(y,x%y),eP hv (by rw[<-Int.ofNat_tmod]) rfl,⟨by rw[<-hg];exact hstep hy0,hy,by simp only;omega⟩,hlt⟩
    ·have hy0:y=0:=aa
     show aF P c f173.ntmps [part uT [1]] s' _
     refine aF.gh hT rV hm 60 hv (h0 0) rfl trivial [4] agr ah ah ?_
     simp only[af.all,az,bG]
     refine⟨aa,fun s' hv=>?_⟩
     rw[show x=Nat.gcd A B by rw[<-hg,hy0,Nat.gcd_zero_right]]at hv
     exact(.inl (iG (us:=[.mag (Nat.gcd A B)]) (.inr rfl) hv ah (eU rfl)))
   ·exact cW (fin (kB (ls:=[0,1]) (vs:=[.mag X,.mag Y]) hv rfl rfl) fun s' hv=>good hv)
  ·refine au.cond (b:=.tmp 32) (t:=false) (x:=uT) (y:=.skip) (yu hv rfl rfl) (fun h=>by simp at h) (fun _=>au.skip ?_)
   exact cW (fin (kB (ls:=[0,1]) (vs:=[.mag X,.mag Y]) hv rfl rfl) fun s' hv=>good hv)
 ·have hY0:Y=0:=lK.1 aa
  show aF P c f173.ntmps (behind (aI f173) [1,1,0]) s' _
  refine aF.lI hT rV hm 60 hv (h0 0) rfl trivial agE ah ah (eU ?_)
  rw[<-hg,hY0,Nat.gcd_zero_right]
def OR:Spec:=oH (fun A B=>.mag (Nat.gcd A B)) fun A B=>[nl A<2^38,nl B<2^38]
theorem U1:bf P OR 173:=qK fun h=>Sy h.1 h.2
end Go.Am.B
