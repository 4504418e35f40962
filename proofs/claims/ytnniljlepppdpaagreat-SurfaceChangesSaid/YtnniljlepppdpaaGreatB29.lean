/- ref01.Gcd: Euclid, on words when both are words. -/
import Derived.Test.YtnniljlepppdpaaGreatB28
set_option linter.unusedVariables false
noncomputable section
namespace Go.Am.B
open Go Go.Am.N AV
theorem Vz:aT P BG lF (ay lF):=aU Proofs.Tryz.func208 ag ag ag
def qB:bf:=[(rz,u9),(Bq,LU),(tA,A2),(zJ,oD (fun A B=>oL A B) fun A B=>[nl A<2^38,nl B<2^38])]
abbrev yA:Code:=part (ay lF) [1,1,0,0,0]
abbrev Aw:Code:=part yA [1,0]
abbrev wv:Code:=part Aw [1,1,0,1,0]
abbrev NY:Code:=part wv [0,0,0]
theorem rN:bu P qB:=aI yZ (aI Re (aI Gu (aI Oc bz)))
theorem afe {A B:Nat}:aG T qB [] 60 [0,1] (before (ay lF) [1,1,0]) ⟨aP 0 [.mag A,.mag B],[],0⟩=
  some (ah.aj [nl A<2^40,nl B<2^40] (ah.leaf ax.normal ([mag A,mag B],[]))):=ag
theorem afP {A B:Nat}:aG T qB [18] 60 [0,1] [part yA [0]] ⟨aB [0,1] [.mag A,.mag B],[],0⟩=
  some (ah.fork (decide ((↑(nl B):Int)>0)) (ah.leaf ax.normal ([mag A,mag B],[])) (ah.leaf (ax.exit 0) ([mag A,mag B],[]))):=ag
theorem YZ {A B:Nat}:aG T qB [30,32] 60 [0,1,5,7,32] (before Aw [1,1,0,1]) ⟨aB [0,1] [.mag A,.mag B],[],0⟩=
  let c2:AV:=int .u64 (↑(if gD B=true then B else 0):Int);let c1:AV:=int .u64 (↑(if gD A=true then A else 0):Int);some (ah.fork (gD A) (ah.aj [gD A=true] (ah.leaf ax.normal ([mag A,mag B,c1,c2,AV.bool (bif true then gD B else false)],[]))) (ah.aj [gD A=false] (ah.leaf ax.normal ([mag A,mag B,c1,c2,AV.bool false],[])))):=ag
theorem ahZ {x y:Nat}:aG T qB [34] 60 [5,7] [NY] ⟨aB [5,7] [.int .u64 x,.int .u64 y],[],0⟩=
  let c1:Int:=(↑y:Int);some (ah.fork (c1 !=(0:Int)) (ah.aj [c1≠(0:Int)] (ah.leaf ax.normal ([int .u64 c1,int .u64 ((↑x:Int).tmod c1)],[]))) (ah.leaf (ax.exit 2) ([int .u64 (↑x:Int),int .u64 c1],[]))):=ag
theorem ah1 {x y:Nat}:aG T qB [] 60 [4] [part wv [1]] ⟨aB [5,7] [.int .u64 x,.int .u64 y],[],0⟩=
  some (ah.aj [(0:Int)<=(↑x:Int)/\(↑x:Int)<2^64] (ah.leaf ax.ret ([mag (↑x:Int).toNat],[]))):=ag
theorem XZ {A B:Nat}:aG T qB [] 60 [0,1] (behind Aw [1,1,0,1]) ⟨aB [0,1] [.mag A,.mag B],[],0⟩=
  some (ah.aj [nl A<2^38,nl B<2^38] (ah.leaf ax.normal ([mag B,mag (if B=0 then 0 else A%B)],[]))):=ag
theorem ale {A B:Nat}:cj T qB [] 60 lF (behind (ay lF) [1,1,0]) ⟨aB [0,1] [.mag A,.mag B],[],0⟩=
  some (ah.leaf ax.ret [mag A]):=ag
theorem akE {s:aK} {ls l:List Nat} {vs us:List AV} {os:aE} (hv:bA (l++ls) s=some (us++vs,os)) (hl:us.length=l.length) (hk:bI us=[]):bA ls s=some (vs,os):=by
 unfold bA at hv ⊢
 simp only[az,Prod.mk.injEq,Ls]at hv ⊢
 obtain⟨h1,h2⟩:=hv
 obtain⟨h3,h4⟩:=List.append_inj h1 (by rw[Jp,hl])
 subst h4
 refine⟨rfl,?_⟩
 rw[<-h2,h3,Nl,hk,List.nil_append]
theorem akD {A B:Nat} (hA:nl A<2^38) (hB:nl B<2^38) (K:Nat):aQ P BG K [.mag A,.mag B] [] (aJ (.mag (Nat.gcd A B)) []):=by
 refine fc hT Vz rfl aX rfl (fun _ c h0=>?_) K []
 have hk0:=Ff h0
 refine au.hole [1,1,0] ag (aH.bC hT rN hm 60 [0,1] afe ag ?_)
 simp only[ah.all,aA]
 refine⟨⟨aa,aa⟩,fun s' hv=>cO ?_⟩
 refine au.iJ (i:=0) (y:=yA) ag [0,1] 0 (h0 0) (fun p:Nat×Nat=>[.mag p.1,.mag p.2]) (fun _=>[]) (fun _=>rfl) (fun _=>trivial)
  (fun p=>Nat.gcd p.1 p.2=Nat.gcd A B/\nl p.1<2^38/\nl p.2<2^38) (fun p=>p.2) (A,B) hv ⟨rfl,hA,hB⟩ ?_
 rintro⟨X,Y⟩ ⟨hg,hX,hY⟩
 simp only at hg hX hY
 have hstep:∀{X Y:Nat},Y≠0->Nat.gcd Y (X%Y)=Nat.gcd X Y:=fun {X Y} _=>by rw[Nat.gcd_comm X Y,Nat.gcd_rec Y X,Nat.gcd_comm]
 refine au.hole [0] ag (show au P c lF.ntmps (part yA [0]) _ _ from au.bC hT rN hm 60 [0,1] afP ag ?_)
 simp only[ah.all,bq,bw]
 refine⟨fun hb s' hv=>cO ?_,fun hb s' hv=>sY (fO ?_)⟩
 ·have hY0:Y≠0:=gJ.1 aa
  have hlt:=Nat.mod_lt X (show 0<Y by omega)
  show au P c lF.ntmps (part yA [1]) s' _
  refine au.qL (i:=1) (y:=Aw) ag ?_
  refine au.hole [1,1,0,1] ag (aH.fJ hT rN hm 60 hv (h0 0) rfl trivial [0,1,5,7,32] YZ ag ag ?_)
  simp only[ah.all,aA]
  have fin:∀{s':aK} {Q:ax->aK->Prop},bA [0,1] s'=some ([.mag X,.mag Y],[])->(∀s',bA [0,1] s'=some ([.mag Y,.mag (X%Y)],[])->Q .normal s')->aH P c lF.ntmps (behind Aw [1,1,0,1]) s' Q:=by
   intro s' Q hv h
   refine aH.fJ hT rN hm 60 hv (h0 0) rfl trivial [0,1] XZ ag ag ?_
   simp only[ah.all,aA]
   exact⟨⟨hX,hY⟩,fun s' hv=>h s' (dQ hv (by rw[if_neg hY0]) rfl)⟩
  have good:∀{s':aK},bA [0,1] s'=some ([.mag Y,.mag (X%Y)],[])->∃k:Nat×Nat,bA [0,1] s'=some ([.mag k.1,.mag k.2],[])/\(Nat.gcd k.1 k.2=Nat.gcd A B/\nl k.1<2^38/\nl k.2<2^38)/\k.2<Y:=
   fun hv=>⟨(Y,X%Y),hv,⟨by rw[<-hg];exact hstep hY0,hY,Nat.lt_of_le_of_lt (iH (Nat.le_of_lt hlt)) hY⟩,hlt⟩
  refine⟨fun hf=>⟨hf,fun s' hv=>cO ?_⟩,fun hf=>⟨hf,fun s' hv=>cO ?_⟩⟩
  ·refine au.cond (b:=.tmp 32) (t:=gD Y) (x:=wv) (y:=.skip) (yg hv rfl rfl) (fun hf2=>?_) (fun _=>au.skip ?_)
   ·rw[if_pos hf,if_pos hf2]at hv
    have hX64:X<2^64:=by unfold gD at hf;simpa using hf
    have hY64:Y<2^64:=by unfold gD at hf2;simpa using hf2
    have hv:=akE (l:=[0,1]) (us:=[.mag X,.mag Y]) (jx (ls:=[0,1,5,7]) (vs:=[.mag X,.mag Y,.int .u64 (X:Nat),.int .u64 (Y:Nat)]) hv rfl rfl) rfl rfl
    refine au.hole [0] ag ?_
    show au P c lF.ntmps (part wv [0]) s' _
    refine au.iJ (i:=2) (y:=NY) ag [5,7] 0 (h0 0) (fun p:Nat×Nat=>[.int .u64 (p.1:Nat),.int .u64 (p.2:Nat)]) (fun _=>[]) (fun _=>rfl) (fun _=>trivial)
     (fun p=>Nat.gcd p.1 p.2=Nat.gcd A B/\p.1<2^64/\p.2<2^64) (fun p=>p.2) (X,Y) hv ⟨hg,hX64,hY64⟩ ?_
    rintro⟨x,y⟩ ⟨hg,hx,hy⟩
    simp only at hg hx hy
    refine au.bC hT rN hm 60 [5,7] ahZ ag ?_
    simp only[ah.all,aA,bne_iff_ne,ne_eq,bne_eq_false_iff_eq]
    refine⟨fun hb=>⟨hb,fun s' hv=>cO ?_⟩,fun hb s' hv=>fO ?_⟩
    ·have hy0:y≠0:=aa
     have hlt:=Nat.mod_lt x (show 0<y by omega)
     exact⟨(y,x%y),dQ hv (by rw[<-Int.ofNat_tmod]) rfl,⟨by rw[<-hg];exact hstep hy0,hy,by simp only;omega⟩,hlt⟩
    ·have hy0:y=0:=aa
     show aH P c lF.ntmps [part wv [1]] s' _
     refine aH.fJ hT rN hm 60 hv (h0 0) rfl trivial [4] ah1 ag ag ?_
     simp only[ah.all,aA,bn]
     refine⟨aa,fun s' hv=>?_⟩
     rw[show x=Nat.gcd A B by rw[<-hg,hy0,Nat.gcd_zero_right]]at hv
     exact(.inl (gQ (us:=[.mag (Nat.gcd A B)]) (.inr rfl) hv ag (dO rfl)))
   ·exact cO (fin (jx (ls:=[0,1]) (vs:=[.mag X,.mag Y]) hv rfl rfl) fun s' hv=>good hv)
  ·refine au.cond (b:=.tmp 32) (t:=false) (x:=wv) (y:=.skip) (yg hv rfl rfl) (fun h=>by simp at h) (fun _=>au.skip ?_)
   exact cO (fin (jx (ls:=[0,1]) (vs:=[.mag X,.mag Y]) hv rfl rfl) fun s' hv=>good hv)
 ·have hY0:Y=0:=jX.1 aa
  show aH P c lF.ntmps (behind (ay lF) [1,1,0]) s' _
  refine aH.kO hT rN hm 60 hv (h0 0) rfl trivial ale ag ag (dO ?_)
  rw[<-hg,hY0,Nat.gcd_zero_right]
def P8:Spec:=oD (fun A B=>.mag (Nat.gcd A B)) fun A B=>[nl A<2^38,nl B<2^38]
theorem aaq:aW P P8 BG:=qe fun h=>akD h.1 h.2
end Go.Am.B
