/- ref01.Gcd: Euclid, on words when both are words. -/
import Derived.Test.YtnniljlepppdpaaGreatB28
set_option linter.unusedVariables false
noncomputable section
namespace Go.Am.B
open Go Go.Am.N AV
theorem Wd:aR P AM lP (az lP):=aS Proofs.Tryz.func208 ag ag ag
def qZ:aX:=[(qW,uA),(xo,Gz),(sU,zJ),(yx,nS (fun A B=>nY A B) fun A B=>[nl A<2^38,nl B<2^38])]
abbrev yC:Code:=part (az lP) [1,1,0,0,0]
abbrev yy:Code:=part yC [1,0]
abbrev uK:Code:=part yy [1,1,0,1,0]
abbrev Ts:Code:=part uK [0,0,0]
theorem rI:bq P qZ:=aH zo (aH Su (aH Cn (aH Q0 bC)))
theorem ahG {A B:Nat}:aI T qZ [] 60 [0,1] (before (az lP) [1,1,0]) ⟨aP 0 [.mag A,.mag B],[],0⟩=
  some (ah.aj [nl A<2^40,nl B<2^40] (ah.leaf aq.normal ([mag A,mag B],[]))):=ag
theorem ai8 {A B:Nat}:aI T qZ [18] 60 [0,1] [part yC [0]] ⟨aE [0,1] [.mag A,.mag B],[],0⟩=
  some (ah.fork (decide ((↑(nl B):Int)>(0:Int))) (ah.leaf aq.normal ([mag A,mag B],[])) (ah.leaf (aq.exit 0) ([mag A,mag B],[]))):=ag
theorem ag1 {A B:Nat}:aI T qZ [30,32] 60 [0,1,5,7,32] (before yy [1,1,0,1]) ⟨aE [0,1] [.mag A,.mag B],[],0⟩=
  let c2:AV:=int IntKind.u64 (↑(if gv B=true then B else 0):Int);let c1:AV:=int IntKind.u64 (↑(if gv A=true then A else 0):Int);some (ah.fork (gv A) (ah.aj [gv A=true] (ah.leaf aq.normal ([mag A,mag B,c1,c2,AV.bool (bif true then gv B else false)],[]))) (ah.aj [gv A=false] (ah.leaf aq.normal ([mag A,mag B,c1,c2,AV.bool false],[])))):=ag
theorem akj {x y:Nat}:aI T qZ [34] 60 [5,7] [Ts] ⟨aE [5,7] [.int .u64 x,.int .u64 y],[],0⟩=
  let c1 : Int := (↑y : Int); some (ah.fork (c1 != (0 : Int)) (ah.aj [c1 ≠ (0 : Int)] (ah.leaf aq.normal ([int IntKind.u64 c1, int IntKind.u64 ((↑x : Int).tmod c1)], []))) (ah.leaf (aq.exit 2) ([int IntKind.u64 (↑x : Int), int IntKind.u64 c1], []))) := ag
theorem abC {x y:Nat}:aI T qZ [] 60 [4] [part uK [1]] ⟨aE [5,7] [.int .u64 x,.int .u64 y],[],0⟩=
  some (ah.aj [(0:Int)<=(↑x:Int)/\(↑x:Int)<(2:Int)^64] (ah.leaf aq.ret ([mag (↑x:Int).toNat],[]))):=ag
theorem afq {A B:Nat}:aI T qZ [] 60 [0,1] (behind yy [1,1,0,1]) ⟨aE [0,1] [.mag A,.mag B],[],0⟩=
  some (ah.aj [nl A<2^38,nl B<2^38] (ah.leaf aq.normal ([mag B,mag (if B=0 then 0 else A%B)],[]))):=ag
theorem UM {A B:Nat}:cJ T qZ [] 60 lP (behind (az lP) [1,1,0]) ⟨aE [0,1] [.mag A,.mag B],[],0⟩=
  some (ah.leaf aq.ret [mag A]):=ag
theorem alA {s:aJ} {ls l:List Nat} {vs us:List AV} {os:aF} (hv:bw (l++ls) s=some (us++vs,os)) (hl:us.length=l.length) (hk:bA us=[]):bw ls s=some (vs,os):=by
 unfold bw at hv ⊢
 simp only[ax,Prod.mk.injEq,J4]at hv ⊢
 obtain⟨h1,h2⟩:=hv
 obtain⟨h3,h4⟩:=List.append_inj h1 (by rw[F0,hl])
 subst h4
 refine⟨rfl,?_⟩
 rw[<-h2,h3,Ng,hk,List.nil_append]
theorem ahl {A B:Nat} (hA:nl A<2^38) (hB:nl B<2^38) (K:Nat):aD P AM K [.mag A,.mag B] [] (aK (.mag (Nat.gcd A B)) []):=by
 refine iP hT Wd rfl aW rfl (fun _ c h0=>?_) K []
 have hk0:=DU h0
 refine ay.hole [1,1,0] ag (aG.bB hT rI hm 60 [0,1] ahG ag ?_)
 simp only[ah.all,aA]
 refine⟨⟨aa,aa⟩,fun s' hv=>cF ?_⟩
 refine ay.iC (i:=0) (y:=yC) ag [0,1] 0 (h0 0) (fun p:Nat×Nat=>[.mag p.1,.mag p.2]) (fun _=>[]) (fun _=>rfl) (fun _=>trivial)
  (fun p=>Nat.gcd p.1 p.2=Nat.gcd A B/\nl p.1<2^38/\nl p.2<2^38) (fun p=>p.2) (A,B) hv ⟨rfl,hA,hB⟩ ?_
 rintro⟨X,Y⟩ ⟨hg,hX,hY⟩
 simp only at hg hX hY
 have hstep:∀{X Y:Nat},Y≠0->Nat.gcd Y (X%Y)=Nat.gcd X Y:=fun {X Y} _=>by rw[Nat.gcd_comm X Y,Nat.gcd_rec Y X,Nat.gcd_comm]
 refine ay.hole [0] ag (show ay P c lP.ntmps (part yC [0]) _ _ from ay.bB hT rI hm 60 [0,1] ai8 ag ?_)
 simp only[ah.all,bh,bz]
 refine⟨fun hb s' hv=>cF ?_,fun hb s' hv=>tZ (fN ?_)⟩
 ·have hY0:Y≠0:=gG.1 aa
  have hlt:=Nat.mod_lt X (show 0<Y by omega)
  show ay P c lP.ntmps (part yC [1]) s' _
  refine ay.q9 (i:=1) (y:=yy) ag ?_
  refine ay.hole [1,1,0,1] ag (aG.fE hT rI hm 60 hv (h0 0) rfl trivial [0,1,5,7,32] ag1 ag ag ?_)
  simp only[ah.all,aA]
  have fin:∀{s':aJ} {Q:aq->aJ->Prop},bw [0,1] s'=some ([.mag X,.mag Y],[])->(∀s',bw [0,1] s'=some ([.mag Y,.mag (X%Y)],[])->Q .normal s')->aG P c lP.ntmps (behind yy [1,1,0,1]) s' Q:=by
   intro s' Q hv h
   refine aG.fE hT rI hm 60 hv (h0 0) rfl trivial [0,1] afq ag ag ?_
   simp only[ah.all,aA]
   exact⟨⟨hX,hY⟩,fun s' hv=>h s' (dP hv (by rw[if_neg hY0]) rfl)⟩
  have good:∀{s':aJ},bw [0,1] s'=some ([.mag Y,.mag (X%Y)],[])->∃k:Nat×Nat,bw [0,1] s'=some ([.mag k.1,.mag k.2],[])/\(Nat.gcd k.1 k.2=Nat.gcd A B/\nl k.1<2^38/\nl k.2<2^38)/\k.2<Y:=
   fun hv=>⟨(Y,X%Y),hv,⟨by rw[<-hg];exact hstep hY0,hY,Nat.lt_of_le_of_lt (iA (Nat.le_of_lt hlt)) hY⟩,hlt⟩
  refine⟨fun hf=>⟨hf,fun s' hv=>cF ?_⟩,fun hf=>⟨hf,fun s' hv=>cF ?_⟩⟩
  ·refine ay.cond (b:=.tmp 32) (t:=gv Y) (x:=uK) (y:=.skip) (xD hv rfl rfl) (fun hf2=>?_) (fun _=>ay.skip ?_)
   ·rw[if_pos hf,if_pos hf2]at hv
    have hX64:X<2^64:=by unfold gv at hf;simpa using hf
    have hY64:Y<2^64:=by unfold gv at hf2;simpa using hf2
    have hv:=alA (l:=[0,1]) (us:=[.mag X,.mag Y]) (iY (ls:=[0,1,5,7]) (vs:=[.mag X,.mag Y,.int .u64 (X:Nat),.int .u64 (Y:Nat)]) hv rfl rfl) rfl rfl
    refine ay.hole [0] ag ?_
    show ay P c lP.ntmps (part uK [0]) s' _
    refine ay.iC (i:=2) (y:=Ts) ag [5,7] 0 (h0 0) (fun p:Nat×Nat=>[.int .u64 (p.1:Nat),.int .u64 (p.2:Nat)]) (fun _=>[]) (fun _=>rfl) (fun _=>trivial)
     (fun p=>Nat.gcd p.1 p.2=Nat.gcd A B/\p.1<2^64/\p.2<2^64) (fun p=>p.2) (X,Y) hv ⟨hg,hX64,hY64⟩ ?_
    rintro⟨x,y⟩ ⟨hg,hx,hy⟩
    simp only at hg hx hy
    refine ay.bB hT rI hm 60 [5,7] akj ag ?_
    simp only[ah.all,aA,bne_iff_ne,ne_eq,bne_eq_false_iff_eq]
    refine⟨fun hb=>⟨hb,fun s' hv=>cF ?_⟩,fun hb s' hv=>fN ?_⟩
    ·have hy0:y≠0:=aa
     have hlt:=Nat.mod_lt x (show 0<y by omega)
     exact⟨(y,x%y),dP hv (by rw[<-Int.ofNat_tmod]) rfl,⟨by rw[<-hg];exact hstep hy0,hy,by simp only;omega⟩,hlt⟩
    ·have hy0:y=0:=aa
     show aG P c lP.ntmps [part uK [1]] s' _
     refine aG.fE hT rI hm 60 hv (h0 0) rfl trivial [4] abC ag ag ?_
     simp only[ah.all,aA,aZ]
     refine⟨aa,fun s' hv=>?_⟩
     rw[show x=Nat.gcd A B by rw[<-hg,hy0,Nat.gcd_zero_right]]at hv
     exact(.inl (gM (us:=[.mag (Nat.gcd A B)]) (.inr rfl) hv ag (dL rfl)))
   ·exact cF (fin (iY (ls:=[0,1]) (vs:=[.mag X,.mag Y]) hv rfl rfl) fun s' hv=>good hv)
  ·refine ay.cond (b:=.tmp 32) (t:=false) (x:=uK) (y:=.skip) (xD hv rfl rfl) (fun h=>by simp at h) (fun _=>ay.skip ?_)
   exact cF (fin (iY (ls:=[0,1]) (vs:=[.mag X,.mag Y]) hv rfl rfl) fun s' hv=>good hv)
 ·have hY0:Y=0:=jK.1 aa
  show aG P c lP.ntmps (behind (az lP) [1,1,0]) s' _
  refine aG.k8 hT rI hm 60 hv (h0 0) rfl trivial UM ag ag (dL ?_)
  rw[<-hg,hY0,Nat.gcd_zero_right]
def S7:Spec:=nS (fun A B=>.mag (Nat.gcd A B)) fun A B=>[nl A<2^38,nl B<2^38]
theorem Wr:∀K args pre r,S7 K args pre=some r->aD P AM K args pre r:=rB fun h=>ahl h.1 h.2
end Go.Am.B
