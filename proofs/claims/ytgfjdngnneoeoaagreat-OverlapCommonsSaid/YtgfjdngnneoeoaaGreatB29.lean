/- ref01.Gcd: Euclid, on words when both are words. -/
import Derived.Test.YtgfjdngnneoeoaaGreatB28
set_option linter.unusedVariables false
noncomputable section
namespace Go.Am.B
open Go Go.Am.N AV Proofs.Tryz
theorem acN:aW 147 f147:=aN func147
def pC:aU:=[(146,sY),(176,DA),(108,wk),(148,mY (fun A B=>mX A B) fun A B=>[nl A<2^38,nl B<2^38])]
abbrev uz:Code:=part (aF f147) [1,1,0,0,0]
abbrev vp:Code:=part uz [1,0]
abbrev tA:Code:=part vp [1,1,0,1,0]
abbrev EG:Code:=part tA [0,0,0]
theorem qv:aZ P pC:=aE u5 (aE FE (aE yJ (aE L8 bA)))
theorem agD {A B:Nat}:aM T pC [] 60 [0,1] (before (aF f147) [1,1,0]) ⟨aT 0 [.mag A,.mag B],[],0⟩=
  some (ag.aj [nl A<2^40,nl B<2^40] (ag.leaf ak.normal ([mag A,mag B],[]))):=ah
theorem Q1 {A B:Nat}:aM T pC [18] 60 [0,1] [part uz [0]] ⟨aH [0,1] [.mag A,.mag B],[],0⟩=
  some (ag.fork (decide ((↑(nl B):Int)>0)) (ag.leaf ak.normal ([mag A,mag B],[])) (ag.leaf (ak.exit 0) ([mag A,mag B],[]))):=ah
theorem Vw {A B:Nat}:aM T pC [30,32] 60 [0,1,5,7,32] (before vp [1,1,0,1]) ⟨aH [0,1] [.mag A,.mag B],[],0⟩=
  let c2:AV:=int .u64 (↑(if gl B=true then B else 0):Int);let c1:AV:=int .u64 (↑(if gl A=true then A else 0):Int);some (ag.fork (gl A) (ag.aj [gl A=true] (ag.leaf ak.normal ([mag A,mag B,c1,c2,AV.bool (bif true then gl B else false)],[]))) (ag.aj [gl A=false] (ag.leaf ak.normal ([mag A,mag B,c1,c2,AV.bool false],[])))):=ah
theorem afx {x y:Nat}:aM T pC [34] 60 [5,7] [EG] ⟨aH [5,7] [.int .u64 x,.int .u64 y],[],0⟩=
  let c1:Int:=(↑y:Int);some (ag.fork (c1 !=(0:Int)) (ag.aj [c1≠(0:Int)] (ag.leaf ak.normal ([int .u64 c1,int .u64 ((↑x:Int).tmod c1)],[]))) (ag.leaf (ak.exit 2) ([int .u64 (↑x:Int),int .u64 c1],[]))):=ah
theorem YW {x y:Nat}:aM T pC [] 60 [4] [part tA [1]] ⟨aH [5,7] [.int .u64 x,.int .u64 y],[],0⟩=
  some (ag.aj [(0:Int)<=(↑x:Int)/\(↑x:Int)<2^64] (ag.leaf ak.ret ([mag (↑x:Int).toNat],[]))):=ah
theorem Ur {A B:Nat}:aM T pC [] 60 [0,1] (behind vp [1,1,0,1]) ⟨aH [0,1] [.mag A,.mag B],[],0⟩=
  some (ag.aj [nl A<2^38,nl B<2^38] (ag.leaf ak.normal ([mag B,mag (if B=0 then 0 else A%B)],[]))):=ah
theorem OT {A B:Nat}:cR T pC [] 60 f147 (behind (aF f147) [1,1,0]) ⟨aH [0,1] [.mag A,.mag B],[],0⟩=
  some (ag.leaf ak.ret [mag A]):=ah
theorem aeD {s:aL} {ls l:List Nat} {vs us:List AV} {os:aD} (hv:bC (l++ls) s=some (us++vs,os)) (hl:us.length=l.length) (hk:bH us=[]):bC ls s=some (vs,os):=by
 unfold bC at hv ⊢
 simp only[ax,Prod.mk.injEq,Ce]at hv ⊢
 obtain⟨h1,h2⟩:=hv
 obtain⟨h3,h4⟩:=List.append_inj h1 (by rw[Ef,hl])
 subst h4
 refine⟨rfl,?_⟩
 rw[<-h2,h3,Ns,hk,List.nil_append]
theorem T8 {A B:Nat} (hA:nl A<2^38) (hB:nl B<2^38) (K:Nat):aO P 147 K [.mag A,.mag B] [] (aI (.mag (Nat.gcd A B)) []):=by
 refine ji hT acN rfl aV rfl (fun _ c h0=>?_) K []
 have hk0:=yx h0
 refine ay.hole [1,1,0] ah (aJ.bE hT qv hm 60 [0,1] agD ah ?_)
 simp only[ag.all,au]
 refine⟨⟨aa,aa⟩,fun s' hv=>cF ?_⟩
 refine ay.ij (i:=0) (y:=uz) ah [0,1] 0 (h0 0) (fun p:Nat×Nat=>[.mag p.1,.mag p.2]) (fun _=>[]) (fun _=>rfl) (fun _=>trivial)
  (fun p=>Nat.gcd p.1 p.2=Nat.gcd A B/\nl p.1<2^38/\nl p.2<2^38) (fun p=>p.2) (A,B) hv ⟨rfl,hA,hB⟩ ?_
 rintro⟨X,Y⟩ ⟨hg,hX,hY⟩
 simp only at hg hX hY
 have hstep:∀{X Y:Nat},Y≠0->Nat.gcd Y (X%Y)=Nat.gcd X Y:=fun {X Y} _=>by rw[Nat.gcd_comm X Y,Nat.gcd_rec Y X,Nat.gcd_comm]
 refine ay.hole [0] ah (show ay P c f147.ntmps (part uz [0]) _ _ from ay.bE hT qv hm 60 [0,1] Q1 ah ?_)
 simp only[ag.all,bz,bF]
 refine⟨fun hb s' hv=>cF ?_,fun hb s' hv=>pY (fG ?_)⟩
 ·have hY0:Y≠0:=gA.1 aa
  have hlt:=Nat.mod_lt X (show 0<Y by omega)
  show ay P c f147.ntmps (part uz [1]) s' _
  refine ay.oF (i:=1) (y:=vp) ah ?_
  refine ay.hole [1,1,0,1] ah (aJ.fu hT qv hm 60 hv (h0 0) rfl trivial [0,1,5,7,32] Vw ah ah ?_)
  simp only[ag.all,au]
  have fin:∀{s':aL} {Q:ak->aL->Prop},bC [0,1] s'=some ([.mag X,.mag Y],[])->(∀s',bC [0,1] s'=some ([.mag Y,.mag (X%Y)],[])->Q .normal s')->aJ P c f147.ntmps (behind vp [1,1,0,1]) s' Q:=by
   intro s' Q hv h
   refine aJ.fu hT qv hm 60 hv (h0 0) rfl trivial [0,1] Ur ah ah ?_
   simp only[ag.all,au]
   exact⟨⟨hX,hY⟩,fun s' hv=>h s' (dS hv (by rw[if_neg hY0]) rfl)⟩
  have good:∀{s':aL},bC [0,1] s'=some ([.mag Y,.mag (X%Y)],[])->∃k:Nat×Nat,bC [0,1] s'=some ([.mag k.1,.mag k.2],[])/\(Nat.gcd k.1 k.2=Nat.gcd A B/\nl k.1<2^38/\nl k.2<2^38)/\k.2<Y:=
   fun hv=>⟨(Y,X%Y),hv,⟨by rw[<-hg];exact hstep hY0,hY,Nat.lt_of_le_of_lt (ic (Nat.le_of_lt hlt)) hY⟩,hlt⟩
  refine⟨fun hf=>⟨hf,fun s' hv=>cF ?_⟩,fun hf=>⟨hf,fun s' hv=>cF ?_⟩⟩
  ·refine ay.cond (b:=.tmp 32) (t:=gl Y) (x:=tA) (y:=.skip) (uk hv rfl rfl) (fun hf2=>?_) (fun _=>ay.skip ?_)
   ·rw[if_pos hf,if_pos hf2]at hv
    have hX64:X<2^64:=by unfold gl at hf;simpa using hf
    have hY64:Y<2^64:=by unfold gl at hf2;simpa using hf2
    have hv:=aeD (l:=[0,1]) (us:=[.mag X,.mag Y]) (jn (ls:=[0,1,5,7]) (vs:=[.mag X,.mag Y,.int .u64 (X:Nat),.int .u64 (Y:Nat)]) hv rfl rfl) rfl rfl
    refine ay.hole [0] ah ?_
    show ay P c f147.ntmps (part tA [0]) s' _
    refine ay.ij (i:=2) (y:=EG) ah [5,7] 0 (h0 0) (fun p:Nat×Nat=>[.int .u64 (p.1:Nat),.int .u64 (p.2:Nat)]) (fun _=>[]) (fun _=>rfl) (fun _=>trivial)
     (fun p=>Nat.gcd p.1 p.2=Nat.gcd A B/\p.1<2^64/\p.2<2^64) (fun p=>p.2) (X,Y) hv ⟨hg,hX64,hY64⟩ ?_
    rintro⟨x,y⟩ ⟨hg,hx,hy⟩
    simp only at hg hx hy
    refine ay.bE hT qv hm 60 [5,7] afx ah ?_
    simp only[ag.all,au,bne_iff_ne,ne_eq,bne_eq_false_iff_eq]
    refine⟨fun hb=>⟨hb,fun s' hv=>cF ?_⟩,fun hb s' hv=>fG ?_⟩
    ·have hy0:y≠0:=aa
     have hlt:=Nat.mod_lt x (show 0<y by omega)
     exact⟨(y,x%y),dS hv (by rw[<-Int.ofNat_tmod]) rfl,⟨by rw[<-hg];exact hstep hy0,hy,by simp only;omega⟩,hlt⟩
    ·have hy0:y=0:=aa
     show aJ P c f147.ntmps [part tA [1]] s' _
     refine aJ.fu hT qv hm 60 hv (h0 0) rfl trivial [4] YW ah ah ?_
     simp only[ag.all,au,bw]
     refine⟨aa,fun s' hv=>?_⟩
     rw[show x=Nat.gcd A B by rw[<-hg,hy0,Nat.gcd_zero_right]]at hv
     exact(.inl (gL (us:=[.mag (Nat.gcd A B)]) (.inr rfl) hv ah (dM rfl)))
   ·exact cF (fin (jn (ls:=[0,1]) (vs:=[.mag X,.mag Y]) hv rfl rfl) fun s' hv=>good hv)
  ·refine ay.cond (b:=.tmp 32) (t:=false) (x:=tA) (y:=.skip) (uk hv rfl rfl) (fun h=>by simp at h) (fun _=>ay.skip ?_)
   exact cF (fin (jn (ls:=[0,1]) (vs:=[.mag X,.mag Y]) hv rfl rfl) fun s' hv=>good hv)
 ·have hY0:Y=0:=jX.1 aa
  show aJ P c f147.ntmps (behind (aF f147) [1,1,0]) s' _
  refine aJ.jN hT qv hm 60 hv (h0 0) rfl trivial OT ah ah (dM ?_)
  rw[<-hg,hY0,Nat.gcd_zero_right]
def KW:Spec:=mY (fun A B=>.mag (Nat.gcd A B)) fun A B=>[nl A<2^38,nl B<2^38]
theorem aer:aY P KW 147:=oB fun h=>T8 h.1 h.2
end Go.Am.B
