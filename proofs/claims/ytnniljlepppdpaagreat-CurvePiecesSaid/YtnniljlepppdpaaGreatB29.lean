/- ref01.Gcd: Euclid, on words when both are words. -/
import Derived.Test.YtnniljlepppdpaaGreatB28
set_option linter.unusedVariables false
noncomputable section
namespace Go.Am.B
open Go Go.Am.N AV
theorem YT:aU P BZ kG (az kG):=aT Proofs.Tryz.func208 ah ah ah
def pK:aV:=[(oW,tU),(vF,ET),(qC,wj),(zh,nE (fun A B=>mY A B) fun A B=>[nl A<2^38,nl B<2^38])]
abbrev xQ:Code:=part (az kG) [1,1,0,0,0]
abbrev x7:Code:=part xQ [1,0]
abbrev tR:Code:=part x7 [1,1,0,1,0]
abbrev JY:Code:=part tR [0,0,0]
theorem r8:bn P pK:=aI wG (aI P2 (aI zS (aI Qz bE)))
theorem ZO {A B:Nat}:aJ T pK [] 60 [0,1] (before (az kG) [1,1,0]) ⟨aQ 0 [.mag A,.mag B],[],0⟩=
  some (ag.aj [nl A<2^40,nl B<2^40] (ag.leaf ak.normal ([mag A,mag B],[]))):=ah
theorem afs {A B:Nat}:aJ T pK [18] 60 [0,1] [part xQ [0]] ⟨aF [0,1] [.mag A,.mag B],[],0⟩=
  some (ag.fork (decide ((↑(nl B):Int)>(0:Int))) (ag.leaf ak.normal ([mag A,mag B],[])) (ag.leaf (ak.exit 0) ([mag A,mag B],[]))):=ah
theorem aeB {A B:Nat}:aJ T pK [30,32] 60 [0,1,5,7,32] (before x7 [1,1,0,1]) ⟨aF [0,1] [.mag A,.mag B],[],0⟩=
  let c2:AV:=int IntKind.u64 (↑(if fP B=true then B else 0):Int);let c1:AV:=int IntKind.u64 (↑(if fP A=true then A else 0):Int);some (ag.fork (fP A) (ag.aj [fP A=true] (ag.leaf ak.normal ([mag A,mag B,c1,c2,AV.bool (bif true then fP B else false)],[]))) (ag.aj [fP A=false] (ag.leaf ak.normal ([mag A,mag B,c1,c2,AV.bool false],[])))):=ah
theorem ahW {x y:Nat}:aJ T pK [34] 60 [5,7] [JY] ⟨aF [5,7] [.int .u64 x,.int .u64 y],[],0⟩=
  let c1 : Int := (↑y : Int); some (ag.fork (c1 != (0 : Int)) (ag.aj [c1 ≠ (0 : Int)] (ag.leaf ak.normal ([int IntKind.u64 c1, int IntKind.u64 ((↑x : Int).tmod c1)], []))) (ag.leaf (ak.exit 2) ([int IntKind.u64 (↑x : Int), int IntKind.u64 c1], []))) := ah
theorem TS {x y:Nat}:aJ T pK [] 60 [4] [part tR [1]] ⟨aF [5,7] [.int .u64 x,.int .u64 y],[],0⟩=
  some (ag.aj [(0:Int)<=(↑x:Int)/\(↑x:Int)<(2:Int)^64] (ag.leaf ak.ret ([mag (↑x:Int).toNat],[]))):=ah
theorem T7 {A B:Nat}:aJ T pK [] 60 [0,1] (behind x7 [1,1,0,1]) ⟨aF [0,1] [.mag A,.mag B],[],0⟩=
  some (ag.aj [nl A<2^38,nl B<2^38] (ag.leaf ak.normal ([mag B,mag (if B=0 then 0 else A%B)],[]))):=ah
theorem Ui {A B:Nat}:cJ T pK [] 60 kG (behind (az kG) [1,1,0]) ⟨aF [0,1] [.mag A,.mag B],[],0⟩=
  some (ag.leaf ak.ret [mag A]):=ah
theorem Yc {s:aH} {ls l:List Nat} {vs us:List AV} {os:aE} (hv:bk (l++ls) s=some (us++vs,os)) (hl:us.length=l.length) (hk:bu us=[]):bk ls s=some (vs,os):=by
 unfold bk at hv ⊢
 simp only[au,Prod.mk.injEq,Fo]at hv ⊢
 obtain⟨h1,h2⟩:=hv
 obtain⟨h3,h4⟩:=List.append_inj h1 (by rw[Fa,hl])
 subst h4
 refine⟨rfl,?_⟩
 rw[<-h2,h3,Kq,hk,List.nil_append]
theorem ae7 {A B:Nat} (hA:nl A<2^38) (hB:nl B<2^38) (K:Nat):aD P BZ K [.mag A,.mag B] [] (aL (.mag (Nat.gcd A B)) []):=by
 refine iy hT YT rfl aW rfl (fun _ c h0=>?_) K []
 have hk0:=A6 h0
 refine ay.hole [1,1,0] ah (aG.bz hT r8 hm 60 [0,1] ZO ah ?_)
 simp only[ag.all,aA]
 refine⟨⟨aa,aa⟩,fun s' hv=>cw ?_⟩
 refine ay.gP (i:=0) (y:=xQ) ah [0,1] 0 (h0 0) (fun p:Nat×Nat=>[.mag p.1,.mag p.2]) (fun _=>[]) (fun _=>rfl) (fun _=>trivial)
  (fun p=>Nat.gcd p.1 p.2=Nat.gcd A B/\nl p.1<2^38/\nl p.2<2^38) (fun p=>p.2) (A,B) hv ⟨rfl,hA,hB⟩ ?_
 rintro⟨X,Y⟩ ⟨hg,hX,hY⟩
 simp only at hg hX hY
 have hstep:∀{X Y:Nat},Y≠0->Nat.gcd Y (X%Y)=Nat.gcd X Y:=fun {X Y} _=>by rw[Nat.gcd_comm X Y,Nat.gcd_rec Y X,Nat.gcd_comm]
 refine ay.hole [0] ah (show ay P c kG.ntmps (part xQ [0]) _ _ from ay.bz hT r8 hm 60 [0,1] afs ah ?_)
 simp only[ag.all,bf,bt]
 refine⟨fun hb s' hv=>cw ?_,fun hb s' hv=>qS (fc ?_)⟩
 ·have hY0:Y≠0:=gd.1 aa
  have hlt:=Nat.mod_lt X (show 0<Y by omega)
  show ay P c kG.ntmps (part xQ [1]) s' _
  refine ay.oK (i:=1) (y:=x7) ah ?_
  refine ay.hole [1,1,0,1] ah (aG.eW hT r8 hm 60 hv (h0 0) rfl trivial [0,1,5,7,32] aeB ah ah ?_)
  simp only[ag.all,aA]
  have fin:∀{s':aH} {Q:ak->aH->Prop},bk [0,1] s'=some ([.mag X,.mag Y],[])->(∀s',bk [0,1] s'=some ([.mag Y,.mag (X%Y)],[])->Q .normal s')->aG P c kG.ntmps (behind x7 [1,1,0,1]) s' Q:=by
   intro s' Q hv h
   refine aG.eW hT r8 hm 60 hv (h0 0) rfl trivial [0,1] T7 ah ah ?_
   simp only[ag.all,aA]
   exact⟨⟨hX,hY⟩,fun s' hv=>h s' (dH hv (by rw[if_neg hY0]) rfl)⟩
  have good:∀{s':aH},bk [0,1] s'=some ([.mag Y,.mag (X%Y)],[])->∃k:Nat×Nat,bk [0,1] s'=some ([.mag k.1,.mag k.2],[])/\(Nat.gcd k.1 k.2=Nat.gcd A B/\nl k.1<2^38/\nl k.2<2^38)/\k.2<Y:=
   fun hv=>⟨(Y,X%Y),hv,⟨by rw[<-hg];exact hstep hY0,hY,Nat.lt_of_le_of_lt (gJ (Nat.le_of_lt hlt)) hY⟩,hlt⟩
  refine⟨fun hf=>⟨hf,fun s' hv=>cw ?_⟩,fun hf=>⟨hf,fun s' hv=>cw ?_⟩⟩
  ·refine ay.cond (b:=.tmp 32) (t:=fP Y) (x:=tR) (y:=.skip) (yx hv rfl rfl) (fun hf2=>?_) (fun _=>ay.skip ?_)
   ·rw[if_pos hf,if_pos hf2]at hv
    have hX64:X<2^64:=by unfold fP at hf;simpa using hf
    have hY64:Y<2^64:=by unfold fP at hf2;simpa using hf2
    have hv:=Yc (l:=[0,1]) (us:=[.mag X,.mag Y]) (iD (ls:=[0,1,5,7]) (vs:=[.mag X,.mag Y,.int .u64 (X:Nat),.int .u64 (Y:Nat)]) hv rfl rfl) rfl rfl
    refine ay.hole [0] ah ?_
    show ay P c kG.ntmps (part tR [0]) s' _
    refine ay.gP (i:=2) (y:=JY) ah [5,7] 0 (h0 0) (fun p:Nat×Nat=>[.int .u64 (p.1:Nat),.int .u64 (p.2:Nat)]) (fun _=>[]) (fun _=>rfl) (fun _=>trivial)
     (fun p=>Nat.gcd p.1 p.2=Nat.gcd A B/\p.1<2^64/\p.2<2^64) (fun p=>p.2) (X,Y) hv ⟨hg,hX64,hY64⟩ ?_
    rintro⟨x,y⟩ ⟨hg,hx,hy⟩
    simp only at hg hx hy
    refine ay.bz hT r8 hm 60 [5,7] ahW ah ?_
    simp only[ag.all,aA,bne_iff_ne,ne_eq,bne_eq_false_iff_eq]
    refine⟨fun hb=>⟨hb,fun s' hv=>cw ?_⟩,fun hb s' hv=>fc ?_⟩
    ·have hy0:y≠0:=aa
     have hlt:=Nat.mod_lt x (show 0<y by omega)
     exact⟨(y,x%y),dH hv (by rw[<-Int.ofNat_tmod]) rfl,⟨by rw[<-hg];exact hstep hy0,hy,by simp only;omega⟩,hlt⟩
    ·have hy0:y=0:=aa
     show aG P c kG.ntmps [part tR [1]] s' _
     refine aG.eW hT r8 hm 60 hv (h0 0) rfl trivial [4] TS ah ah ?_
     simp only[ag.all,aA,aX]
     refine⟨aa,fun s' hv=>?_⟩
     rw[show x=Nat.gcd A B by rw[<-hg,hy0,Nat.gcd_zero_right]]at hv
     exact(.inl (gj (us:=[.mag (Nat.gcd A B)]) (.inr rfl) hv ah (dD rfl)))
   ·exact cw (fin (iD (ls:=[0,1]) (vs:=[.mag X,.mag Y]) hv rfl rfl) fun s' hv=>good hv)
  ·refine ay.cond (b:=.tmp 32) (t:=false) (x:=tR) (y:=.skip) (yx hv rfl rfl) (fun h=>by simp at h) (fun _=>ay.skip ?_)
   exact cw (fin (iD (ls:=[0,1]) (vs:=[.mag X,.mag Y]) hv rfl rfl) fun s' hv=>good hv)
 ·have hY0:Y=0:=ja.1 aa
  show aG P c kG.ntmps (behind (az kG) [1,1,0]) s' _
  refine aG.j6 hT r8 hm 60 hv (h0 0) rfl trivial Ui ah ah (dD ?_)
  rw[<-hg,hY0,Nat.gcd_zero_right]
def Ol:Spec:=nE (fun A B=>.mag (Nat.gcd A B)) fun A B=>[nl A<2^38,nl B<2^38]
theorem aa4:∀K args pre r,Ol K args pre=some r->aD P BZ K args pre r:=pA fun h=>ae7 h.1 h.2
end Go.Am.B
