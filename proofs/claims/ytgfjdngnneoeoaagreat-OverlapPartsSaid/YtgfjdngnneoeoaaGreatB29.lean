/- ref01.Gcd: Euclid, on words when both are words. -/
import Derived.Test.YtgfjdngnneoeoaaGreatB28
set_option linter.unusedVariables false
noncomputable section
namespace Go.Am.B
open Go Go.Am.N AV Proofs.Tryz
theorem Tn:aX 147 f147:=aM func147
def pV:aV:=[(146,ua),(176,Dz),(108,vf),(148,nE (fun A B=>mO A B) fun A B=>[nl A<2^38,nl B<2^38])]
abbrev wN:Code:=part (aF f147) [1,1,0,0,0]
abbrev vv:Code:=part wN [1,0]
abbrev ux:Code:=part vv [1,1,0,1,0]
abbrev LG:Code:=part ux [0,0,0]
theorem ru:bg P pV:=aE vr (aE Je (aE xY (aE HK bD)))
theorem aed {A B:Nat}:aL T pV [] 60 [0,1] (before (aF f147) [1,1,0]) ⟨aS 0 [.mag A,.mag B],[],0⟩=
  some (ag.aj [nl A<2^40,nl B<2^40] (ag.leaf aq.normal ([mag A,mag B],[]))):=ah
theorem Vu {A B:Nat}:aL T pV [18] 60 [0,1] [part wN [0]] ⟨aG [0,1] [.mag A,.mag B],[],0⟩=
  some (ag.fork (decide ((↑(nl B):Int)>0)) (ag.leaf aq.normal ([mag A,mag B],[])) (ag.leaf (aq.exit 0) ([mag A,mag B],[]))):=ah
theorem ac0 {A B:Nat}:aL T pV [30,32] 60 [0,1,5,7,32] (before vv [1,1,0,1]) ⟨aG [0,1] [.mag A,.mag B],[],0⟩=
  let c2:AV:=int .u64 (↑(if gr B=true then B else 0):Int);let c1:AV:=int .u64 (↑(if gr A=true then A else 0):Int);some (ag.fork (gr A) (ag.aj [gr A=true] (ag.leaf aq.normal ([mag A,mag B,c1,c2,AV.bool (bif true then gr B else false)],[]))) (ag.aj [gr A=false] (ag.leaf aq.normal ([mag A,mag B,c1,c2,AV.bool false],[])))):=ah
theorem XF {x y:Nat}:aL T pV [34] 60 [5,7] [LG] ⟨aG [5,7] [.int .u64 x,.int .u64 y],[],0⟩=
  let c1:Int:=(↑y:Int);some (ag.fork (c1 !=(0:Int)) (ag.aj [c1≠(0:Int)] (ag.leaf aq.normal ([int .u64 c1,int .u64 ((↑x:Int).tmod c1)],[]))) (ag.leaf (aq.exit 2) ([int .u64 (↑x:Int),int .u64 c1],[]))):=ah
theorem Za {x y:Nat}:aL T pV [] 60 [4] [part ux [1]] ⟨aG [5,7] [.int .u64 x,.int .u64 y],[],0⟩=
  some (ag.aj [(0:Int)<=(↑x:Int)/\(↑x:Int)<2^64] (ag.leaf aq.ret ([mag (↑x:Int).toNat],[]))):=ah
theorem Yh {A B:Nat}:aL T pV [] 60 [0,1] (behind vv [1,1,0,1]) ⟨aG [0,1] [.mag A,.mag B],[],0⟩=
  some (ag.aj [nl A<2^38,nl B<2^38] (ag.leaf aq.normal ([mag B,mag (if B=0 then 0 else A%B)],[]))):=ah
theorem Wk {A B:Nat}:cP T pV [] 60 f147 (behind (aF f147) [1,1,0]) ⟨aG [0,1] [.mag A,.mag B],[],0⟩=
  some (ag.leaf aq.ret [mag A]):=ah
theorem Yb {s:aK} {ls l:List Nat} {vs us:List AV} {os:aD} (hv:bB (l++ls) s=some (us++vs,os)) (hl:us.length=l.length) (hk:bI us=[]):bB ls s=some (vs,os):=by
 unfold bB at hv ⊢
 simp only[ax,Prod.mk.injEq,BB]at hv ⊢
 obtain⟨h1,h2⟩:=hv
 obtain⟨h3,h4⟩:=List.append_inj h1 (by rw[Ew,hl])
 subst h4
 refine⟨rfl,?_⟩
 rw[<-h2,h3,NV,hk,List.nil_append]
theorem Sy {A B:Nat} (hA:nl A<2^38) (hB:nl B<2^38) (K:Nat):aN P 147 K [.mag A,.mag B] [] (aH (.mag (Nat.gcd A B)) []):=by
 refine jq hT Tn rfl aW rfl (fun _ c h0=>?_) K []
 have hk0:=yR h0
 refine ay.hole [1,1,0] ah (aI.bH hT ru hm 60 [0,1] aed ah ?_)
 simp only[ag.all,au]
 refine⟨⟨aa,aa⟩,fun s' hv=>cL ?_⟩
 refine ay.iF (i:=0) (y:=wN) ah [0,1] 0 (h0 0) (fun p:Nat×Nat=>[.mag p.1,.mag p.2]) (fun _=>[]) (fun _=>rfl) (fun _=>trivial)
  (fun p=>Nat.gcd p.1 p.2=Nat.gcd A B/\nl p.1<2^38/\nl p.2<2^38) (fun p=>p.2) (A,B) hv ⟨rfl,hA,hB⟩ ?_
 rintro⟨X,Y⟩ ⟨hg,hX,hY⟩
 simp only at hg hX hY
 have hstep:∀{X Y:Nat},Y≠0->Nat.gcd Y (X%Y)=Nat.gcd X Y:=fun {X Y} _=>by rw[Nat.gcd_comm X Y,Nat.gcd_rec Y X,Nat.gcd_comm]
 refine ay.hole [0] ah (show ay P c f147.ntmps (part wN [0]) _ _ from ay.bH hT ru hm 60 [0,1] Vu ah ?_)
 simp only[ag.all,bz,bG]
 refine⟨fun hb s' hv=>cL ?_,fun hb s' hv=>qq (fK ?_)⟩
 ·have hY0:Y≠0:=gE.1 aa
  have hlt:=Nat.mod_lt X (show 0<Y by omega)
  show ay P c f147.ntmps (part wN [1]) s' _
  refine ay.o9 (i:=1) (y:=vv) ah ?_
  refine ay.hole [1,1,0,1] ah (aI.fE hT ru hm 60 hv (h0 0) rfl trivial [0,1,5,7,32] ac0 ah ah ?_)
  simp only[ag.all,au]
  have fin:∀{s':aK} {Q:aq->aK->Prop},bB [0,1] s'=some ([.mag X,.mag Y],[])->(∀s',bB [0,1] s'=some ([.mag Y,.mag (X%Y)],[])->Q .normal s')->aI P c f147.ntmps (behind vv [1,1,0,1]) s' Q:=by
   intro s' Q hv h
   refine aI.fE hT ru hm 60 hv (h0 0) rfl trivial [0,1] Yh ah ah ?_
   simp only[ag.all,au]
   exact⟨⟨hX,hY⟩,fun s' hv=>h s' (ee hv (by rw[if_neg hY0]) rfl)⟩
  have good:∀{s':aK},bB [0,1] s'=some ([.mag Y,.mag (X%Y)],[])->∃k:Nat×Nat,bB [0,1] s'=some ([.mag k.1,.mag k.2],[])/\(Nat.gcd k.1 k.2=Nat.gcd A B/\nl k.1<2^38/\nl k.2<2^38)/\k.2<Y:=
   fun hv=>⟨(Y,X%Y),hv,⟨by rw[<-hg];exact hstep hY0,hY,Nat.lt_of_le_of_lt (iC (Nat.le_of_lt hlt)) hY⟩,hlt⟩
  refine⟨fun hf=>⟨hf,fun s' hv=>cL ?_⟩,fun hf=>⟨hf,fun s' hv=>cL ?_⟩⟩
  ·refine ay.cond (b:=.tmp 32) (t:=gr Y) (x:=ux) (y:=.skip) (xp hv rfl rfl) (fun hf2=>?_) (fun _=>ay.skip ?_)
   ·rw[if_pos hf,if_pos hf2]at hv
    have hX64:X<2^64:=by unfold gr at hf;simpa using hf
    have hY64:Y<2^64:=by unfold gr at hf2;simpa using hf2
    have hv:=Yb (l:=[0,1]) (us:=[.mag X,.mag Y]) (jI (ls:=[0,1,5,7]) (vs:=[.mag X,.mag Y,.int .u64 (X:Nat),.int .u64 (Y:Nat)]) hv rfl rfl) rfl rfl
    refine ay.hole [0] ah ?_
    show ay P c f147.ntmps (part ux [0]) s' _
    refine ay.iF (i:=2) (y:=LG) ah [5,7] 0 (h0 0) (fun p:Nat×Nat=>[.int .u64 (p.1:Nat),.int .u64 (p.2:Nat)]) (fun _=>[]) (fun _=>rfl) (fun _=>trivial)
     (fun p=>Nat.gcd p.1 p.2=Nat.gcd A B/\p.1<2^64/\p.2<2^64) (fun p=>p.2) (X,Y) hv ⟨hg,hX64,hY64⟩ ?_
    rintro⟨x,y⟩ ⟨hg,hx,hy⟩
    simp only at hg hx hy
    refine ay.bH hT ru hm 60 [5,7] XF ah ?_
    simp only[ag.all,au,bne_iff_ne,ne_eq,bne_eq_false_iff_eq]
    refine⟨fun hb=>⟨hb,fun s' hv=>cL ?_⟩,fun hb s' hv=>fK ?_⟩
    ·have hy0:y≠0:=aa
     have hlt:=Nat.mod_lt x (show 0<y by omega)
     exact⟨(y,x%y),ee hv (by rw[<-Int.ofNat_tmod]) rfl,⟨by rw[<-hg];exact hstep hy0,hy,by simp only;omega⟩,hlt⟩
    ·have hy0:y=0:=aa
     show aI P c f147.ntmps [part ux [1]] s' _
     refine aI.fE hT ru hm 60 hv (h0 0) rfl trivial [4] Za ah ah ?_
     simp only[ag.all,au,br]
     refine⟨aa,fun s' hv=>?_⟩
     rw[show x=Nat.gcd A B by rw[<-hg,hy0,Nat.gcd_zero_right]]at hv
     exact(.inl (gU (us:=[.mag (Nat.gcd A B)]) (.inr rfl) hv ah (dX rfl)))
   ·exact cL (fin (jI (ls:=[0,1]) (vs:=[.mag X,.mag Y]) hv rfl rfl) fun s' hv=>good hv)
  ·refine ay.cond (b:=.tmp 32) (t:=false) (x:=ux) (y:=.skip) (xp hv rfl rfl) (fun h=>by simp at h) (fun _=>ay.skip ?_)
   exact cL (fin (jI (ls:=[0,1]) (vs:=[.mag X,.mag Y]) hv rfl rfl) fun s' hv=>good hv)
 ·have hY0:Y=0:=j9.1 aa
  show aI P c f147.ntmps (behind (aF f147) [1,1,0]) s' _
  refine aI.kA hT ru hm 60 hv (h0 0) rfl trivial Wk ah ah (dX ?_)
  rw[<-hg,hY0,Nat.gcd_zero_right]
def K9:Spec:=nE (fun A B=>.mag (Nat.gcd A B)) fun A B=>[nl A<2^38,nl B<2^38]
theorem adv:bf P K9 147:=pq fun h=>Sy h.1 h.2
end Go.Am.B
