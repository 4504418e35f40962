/- ref01. -/
import Derived.Test.YtppeigelbecpbaaGreatB28
set_option linter.unusedVariables false
noncomputable section
namespace Go.Am.B
open Go Go.Am.N AV
theorem aj2:aT P A6 kU (aA kU):=aY Proofs.Tryz.func209 ag ag ag
def pR:bg:=[(qx,uN),(yJ,Jh),(tJ,AE),(AD,nD (fun A B=>nA A B) fun A B=>[nl A<2^38,nl B<2^38])]
abbrev zN:Code:=part (aA kU) [1,1,0,0,0]
abbrev zC:Code:=part zN [1,0]
abbrev vE:Code:=part zC [1,1,0,1,0]
abbrev NU:Code:=part vE [0,0,0]
theorem sq:bz P pR:=aL xC (aL Pu (aL FN (aL Sw bO)))
theorem adS {A B:Nat}:aH T pR [] 60 [0,1] (before (aA kU) [1,1,0]) ⟨aQ 0 [.mag A,.mag B],[],0⟩=
  some (ah.aj [nl A<2^40,nl B<2^40] (ah.leaf au.normal ([mag A,mag B],[]))):=ag
theorem acJ {A B:Nat}:aH T pR [18] 60 [0,1] [part zN [0]] ⟨aC [0,1] [.mag A,.mag B],[],0⟩=
  some (ah.fork (decide ((↑(nl B):Int)>(0:Int))) (ah.leaf au.normal ([mag A,mag B],[])) (ah.leaf (au.exit 0) ([mag A,mag B],[]))):=ag
theorem alu {A B:Nat}:aH T pR [30,32] 60 [0,1,5,7,32] (before zC [1,1,0,1]) ⟨aC [0,1] [.mag A,.mag B],[],0⟩=
  let c2:AV:=int IntKind.u64 (↑(if gb B=true then B else 0):Int);let c1:AV:=int IntKind.u64 (↑(if gb A=true then A else 0):Int);some (ah.fork (gb A) (ah.aj [gb A=true] (ah.leaf au.normal ([mag A,mag B,c1,c2,AV.bool (bif true then gb B else false)],[]))) (ah.aj [gb A=false] (ah.leaf au.normal ([mag A,mag B,c1,c2,AV.bool false],[])))):=ag
theorem ahT {x y:Nat}:aH T pR [34] 60 [5,7] [NU] ⟨aC [5,7] [.int .u64 x,.int .u64 y],[],0⟩=
  let c1 : Int := (↑y : Int); some (ah.fork (c1 != (0 : Int)) (ah.aj [c1 ≠ (0 : Int)] (ah.leaf au.normal ([int IntKind.u64 c1, int IntKind.u64 ((↑x : Int).tmod c1)], []))) (ah.leaf (au.exit 2) ([int IntKind.u64 (↑x : Int), int IntKind.u64 c1], []))) := ag
theorem abr {x y:Nat}:aH T pR [] 60 [4] [part vE [1]] ⟨aC [5,7] [.int .u64 x,.int .u64 y],[],0⟩=
  some (ah.aj [(0:Int)<=(↑x:Int)/\(↑x:Int)<(2:Int)^64] (ah.leaf au.ret ([mag (↑x:Int).toNat],[]))):=ag
theorem afL {A B:Nat}:aH T pR [] 60 [0,1] (behind zC [1,1,0,1]) ⟨aC [0,1] [.mag A,.mag B],[],0⟩=
  some (ah.aj [nl A<2^38,nl B<2^38] (ah.leaf au.normal ([mag B,mag (if B=0 then 0 else A%B)],[]))):=ag
theorem aip {A B:Nat}:cw T pR [] 60 kU (behind (aA kU) [1,1,0]) ⟨aC [0,1] [.mag A,.mag B],[],0⟩=
  some (ah.leaf au.ret [mag A]):=ag
theorem VP {s:aM} {ls l:List Nat} {vs us:List AV} {os:aF} (hv:bt (l++ls) s=some (us++vs,os)) (hl:us.length=l.length) (hk:bC us=[]):bt ls s=some (vs,os):=by
 unfold bt at hv ⊢
 simp only[ay,Prod.mk.injEq,I9]at hv ⊢
 obtain⟨h1,h2⟩:=hv
 obtain⟨h3,h4⟩:=List.append_inj h1 (by rw[Ir,hl])
 subst h4
 refine⟨rfl,?_⟩
 rw[<-h2,h3,LL,hk,List.nil_append]
theorem TU {A B:Nat} (hA:nl A<2^38) (hB:nl B<2^38) (K:Nat):aE P A6 K [.mag A,.mag B] [] (aK (.mag (Nat.gcd A B)) []):=by
 refine gr hT aj2 rfl aX rfl (fun _ c h0=>?_) K []
 have hk0:=Dm h0
 refine ax.hole [1,1,0] ag (aI.bA hT sq hm 60 [0,1] adS ag ?_)
 simp only[ah.all,az]
 refine⟨⟨aa,aa⟩,fun s' hv=>cJ ?_⟩
 refine ax.g9 (i:=0) (y:=zN) ag [0,1] 0 (h0 0) (fun p:Nat×Nat=>[.mag p.1,.mag p.2]) (fun _=>[]) (fun _=>rfl) (fun _=>trivial)
  (fun p=>Nat.gcd p.1 p.2=Nat.gcd A B/\nl p.1<2^38/\nl p.2<2^38) (fun p=>p.2) (A,B) hv ⟨rfl,hA,hB⟩ ?_
 rintro⟨X,Y⟩ ⟨hg,hX,hY⟩
 simp only at hg hX hY
 have hstep:∀{X Y:Nat},Y≠0->Nat.gcd Y (X%Y)=Nat.gcd X Y:=fun {X Y} _=>by rw[Nat.gcd_comm X Y,Nat.gcd_rec Y X,Nat.gcd_comm]
 refine ax.hole [0] ag (show ax P c kU.ntmps (part zN [0]) _ _ from ax.bA hT sq hm 60 [0,1] acJ ag ?_)
 simp only[ah.all,aZ,bk]
 refine⟨fun hb s' hv=>cJ ?_,fun hb s' hv=>tI (fC ?_)⟩
 ·have hY0:Y≠0:=gn.1 aa
  have hlt:=Nat.mod_lt X (show 0<Y by omega)
  show ax P c kU.ntmps (part zN [1]) s' _
  refine ax.qh (i:=1) (y:=zC) ag ?_
  refine ax.hole [1,1,0,1] ag (aI.fh hT sq hm 60 hv (h0 0) rfl trivial [0,1,5,7,32] alu ag ag ?_)
  simp only[ah.all,az]
  have fin:∀{s':aM} {Q:au->aM->Prop},bt [0,1] s'=some ([.mag X,.mag Y],[])->(∀s',bt [0,1] s'=some ([.mag Y,.mag (X%Y)],[])->Q .normal s')->aI P c kU.ntmps (behind zC [1,1,0,1]) s' Q:=by
   intro s' Q hv h
   refine aI.fh hT sq hm 60 hv (h0 0) rfl trivial [0,1] afL ag ag ?_
   simp only[ah.all,az]
   exact⟨⟨hX,hY⟩,fun s' hv=>h s' (dJ hv (by rw[if_neg hY0]) rfl)⟩
  have good:∀{s':aM},bt [0,1] s'=some ([.mag Y,.mag (X%Y)],[])->∃k:Nat×Nat,bt [0,1] s'=some ([.mag k.1,.mag k.2],[])/\(Nat.gcd k.1 k.2=Nat.gcd A B/\nl k.1<2^38/\nl k.2<2^38)/\k.2<Y:=
   fun hv=>⟨(Y,X%Y),hv,⟨by rw[<-hg];exact hstep hY0,hY,Nat.lt_of_le_of_lt (gV (Nat.le_of_lt hlt)) hY⟩,hlt⟩
  refine⟨fun hf=>⟨hf,fun s' hv=>cJ ?_⟩,fun hf=>⟨hf,fun s' hv=>cJ ?_⟩⟩
  ·refine ax.cond (b:=.tmp 32) (t:=gb Y) (x:=vE) (y:=.skip) (yw hv rfl rfl) (fun hf2=>?_) (fun _=>ax.skip ?_)
   ·rw[if_pos hf,if_pos hf2]at hv
    have hX64:X<2^64:=by unfold gb at hf;simpa using hf
    have hY64:Y<2^64:=by unfold gb at hf2;simpa using hf2
    have hv:=VP (l:=[0,1]) (us:=[.mag X,.mag Y]) (iL (ls:=[0,1,5,7]) (vs:=[.mag X,.mag Y,.int .u64 (X:Nat),.int .u64 (Y:Nat)]) hv rfl rfl) rfl rfl
    refine ax.hole [0] ag ?_
    show ax P c kU.ntmps (part vE [0]) s' _
    refine ax.g9 (i:=2) (y:=NU) ag [5,7] 0 (h0 0) (fun p:Nat×Nat=>[.int .u64 (p.1:Nat),.int .u64 (p.2:Nat)]) (fun _=>[]) (fun _=>rfl) (fun _=>trivial)
     (fun p=>Nat.gcd p.1 p.2=Nat.gcd A B/\p.1<2^64/\p.2<2^64) (fun p=>p.2) (X,Y) hv ⟨hg,hX64,hY64⟩ ?_
    rintro⟨x,y⟩ ⟨hg,hx,hy⟩
    simp only at hg hx hy
    refine ax.bA hT sq hm 60 [5,7] ahT ag ?_
    simp only[ah.all,az,bne_iff_ne,ne_eq,bne_eq_false_iff_eq]
    refine⟨fun hb=>⟨hb,fun s' hv=>cJ ?_⟩,fun hb s' hv=>fC ?_⟩
    ·have hy0:y≠0:=aa
     have hlt:=Nat.mod_lt x (show 0<y by omega)
     exact⟨(y,x%y),dJ hv (by rw[<-Int.ofNat_tmod]) rfl,⟨by rw[<-hg];exact hstep hy0,hy,by simp only;omega⟩,hlt⟩
    ·have hy0:y=0:=aa
     show aI P c kU.ntmps [part vE [1]] s' _
     refine aI.fh hT sq hm 60 hv (h0 0) rfl trivial [4] abr ag ag ?_
     simp only[ah.all,az,aW]
     refine⟨aa,fun s' hv=>?_⟩
     rw[show x=Nat.gcd A B by rw[<-hg,hy0,Nat.gcd_zero_right]]at hv
     exact(.inl (gy (us:=[.mag (Nat.gcd A B)]) (.inr rfl) hv ag (dF rfl)))
   ·exact cJ (fin (iL (ls:=[0,1]) (vs:=[.mag X,.mag Y]) hv rfl rfl) fun s' hv=>good hv)
  ·refine ax.cond (b:=.tmp 32) (t:=false) (x:=vE) (y:=.skip) (yw hv rfl rfl) (fun h=>by simp at h) (fun _=>ax.skip ?_)
   exact cJ (fin (iL (ls:=[0,1]) (vs:=[.mag X,.mag Y]) hv rfl rfl) fun s' hv=>good hv)
 ·have hY0:Y=0:=jG.1 aa
  show aI P c kU.ntmps (behind (aA kU) [1,1,0]) s' _
  refine aI.jZ hT sq hm 60 hv (h0 0) rfl trivial aip ag ag (dF ?_)
  rw[<-hg,hY0,Nat.gcd_zero_right]
def Mc:Spec:=nD (fun A B=>.mag (Nat.gcd A B)) fun A B=>[nl A<2^38,nl B<2^38]
theorem aeD:∀K args pre r,Mc K args pre=some r->aE P A6 K args pre r:=pM fun h=>TU h.1 h.2
end Go.Am.B
