/- ref01.Gcd: Euclid, on words when both are words. -/
import Derived.Test.YtolopdkjjlfgjaaGreatB28
set_option linter.unusedVariables false
noncomputable section
namespace Go.Am.B
open Go Go.Am.N AV Proofs.Tryz
theorem acL:bC 173 f173:=bD func173
def qK:bG:=[(140,wo),(186,FV),(138,wI),(174,oX (fun A B=>oZ A B) fun A B=>[nl A<2^38,nl B<2^38])]
abbrev wL:Code:=part (aJ f173) [1,1,0,0,0]
abbrev wH:Code:=part wL [1,0]
abbrev ve:Code:=part wH [1,1,0,1,0]
abbrev MD:Code:=part ve [0,0,0]
theorem sZ:cm P qK:=aM xZ (aM Ie (aM Bq (aM IG cK)))
theorem Qt {A B:Nat}:aK T qK [] 60 [0,1] (before (aJ f173) [1,1,0]) ⟨bf 0 [.mag A,.mag B],[],0⟩=
  some (af.aj [nl A<2^40,nl B<2^40] (af.leaf au.normal ([mag A,mag B],[]))):=ah
theorem V0 {A B:Nat}:aK T qK [18] 60 [0,1] [part wL [0]] ⟨aH [0,1] [.mag A,.mag B],[],0⟩=
  some (af.fork (decide ((↑(nl B):Int)>0)) (af.leaf au.normal ([mag A,mag B],[])) (af.leaf (au.exit 0) ([mag A,mag B],[]))):=ah
theorem Yw {A B:Nat}:aK T qK [30,32] 60 [0,1,5,7,32] (before wH [1,1,0,1]) ⟨aH [0,1] [.mag A,.mag B],[],0⟩=
  let c2:AV:=int .u64 (↑(if iD B=true then B else 0):Int);let c1:AV:=int .u64 (↑(if iD A=true then A else 0):Int);some (af.fork (iD A) (af.aj [iD A=true] (af.leaf au.normal ([mag A,mag B,c1,c2,AV.bool (bif true then iD B else false)],[]))) (af.aj [iD A=false] (af.leaf au.normal ([mag A,mag B,c1,c2,AV.bool false],[])))):=ah
theorem Qo {x y:Nat}:aK T qK [34] 60 [5,7] [MD] ⟨aH [5,7] [.int .u64 x,.int .u64 y],[],0⟩=
  let c1:Int:=(↑y:Int);some (af.fork (c1 !=(0:Int)) (af.aj [c1≠(0:Int)] (af.leaf au.normal ([int .u64 c1,int .u64 ((↑x:Int).tmod c1)],[]))) (af.leaf (au.exit 2) ([int .u64 (↑x:Int),int .u64 c1],[]))):=ah
theorem adw {x y:Nat}:aK T qK [] 60 [4] [part ve [1]] ⟨aH [5,7] [.int .u64 x,.int .u64 y],[],0⟩=
  some (af.aj [(0:Int)<=(↑x:Int)/\(↑x:Int)<2^64] (af.leaf au.ret ([mag (↑x:Int).toNat],[]))):=ah
theorem acj {A B:Nat}:aK T qK [] 60 [0,1] (behind wH [1,1,0,1]) ⟨aH [0,1] [.mag A,.mag B],[],0⟩=
  some (af.aj [nl A<2^38,nl B<2^38] (af.leaf au.normal ([mag B,mag (if B=0 then 0 else A%B)],[]))):=ah
theorem TK {A B:Nat}:dJ T qK [] 60 f173 (behind (aJ f173) [1,1,0]) ⟨aH [0,1] [.mag A,.mag B],[],0⟩=
  some (af.leaf au.ret [mag A]):=ah
theorem Z4 {s:aL} {ls l:List Nat} {vs us:List AV} {os:aG} (hv:bp (l++ls) s=some (us++vs,os)) (hl:us.length=l.length) (hk:bV us=[]):bp ls s=some (vs,os):=by
 unfold bp at hv ⊢
 simp only[aB,Prod.mk.injEq,Eh]at hv ⊢
 obtain⟨h1,h2⟩:=hv
 obtain⟨h3,h4⟩:=List.append_inj h1 (by rw[Fu,hl])
 subst h4
 refine⟨rfl,?_⟩
 rw[<-h2,h3,Jv,hk,List.nil_append]
theorem Wq {A B:Nat} (hA:nl A<2^38) (hB:nl B<2^38) (K:Nat):aY P 173 K [.mag A,.mag B] [] (aT (.mag (Nat.gcd A B)) []):=by
 refine ja hT acL rfl br rfl (fun _ c h0=>?_) K []
 have hk0:=AW h0
 refine aA.hole [1,1,0] ah (aI.bM hT sZ hm 60 [0,1] Qt ah ?_)
 simp only[af.all,aF]
 refine⟨⟨aa,aa⟩,fun s' hv=>cU ?_⟩
 refine aA.js (i:=0) (y:=wL) ah [0,1] 0 (h0 0) (fun p:Nat×Nat=>[.mag p.1,.mag p.2]) (fun _=>[]) (fun _=>rfl) (fun _=>trivial)
  (fun p=>Nat.gcd p.1 p.2=Nat.gcd A B/\nl p.1<2^38/\nl p.2<2^38) (fun p=>p.2) (A,B) hv ⟨rfl,hA,hB⟩ ?_
 rintro⟨X,Y⟩ ⟨hg,hX,hY⟩
 simp only at hg hX hY
 have hstep:∀{X Y:Nat},Y≠0->Nat.gcd Y (X%Y)=Nat.gcd X Y:=fun {X Y} _=>by rw[Nat.gcd_comm X Y,Nat.gcd_rec Y X,Nat.gcd_comm]
 refine aA.hole [0] ah (show aA P c f173.ntmps (part wL [0]) _ _ from aA.bM hT sZ hm 60 [0,1] V0 ah ?_)
 simp only[af.all,bI,bO]
 refine⟨fun hb s' hv=>cU ?_,fun hb s' hv=>sP (gD ?_)⟩
 ·have hY0:Y≠0:=iO.1 aa
  have hlt:=Nat.mod_lt X (show 0<Y by omega)
  show aA P c f173.ntmps (part wL [1]) s' _
  refine aA.qI (i:=1) (y:=wH) ah ?_
  refine aA.hole [1,1,0,1] ah (aI.gC hT sZ hm 60 hv (h0 0) rfl trivial [0,1,5,7,32] Yw ah ah ?_)
  simp only[af.all,aF]
  have fin:∀{s':aL} {Q:au->aL->Prop},bp [0,1] s'=some ([.mag X,.mag Y],[])->(∀s',bp [0,1] s'=some ([.mag Y,.mag (X%Y)],[])->Q .normal s')->aI P c f173.ntmps (behind wH [1,1,0,1]) s' Q:=by
   intro s' Q hv h
   refine aI.gC hT sZ hm 60 hv (h0 0) rfl trivial [0,1] acj ah ah ?_
   simp only[af.all,aF]
   exact⟨⟨hX,hY⟩,fun s' hv=>h s' (eU hv (by rw[if_neg hY0]) rfl)⟩
  have good:∀{s':aL},bp [0,1] s'=some ([.mag Y,.mag (X%Y)],[])->∃k:Nat×Nat,bp [0,1] s'=some ([.mag k.1,.mag k.2],[])/\(Nat.gcd k.1 k.2=Nat.gcd A B/\nl k.1<2^38/\nl k.2<2^38)/\k.2<Y:=
   fun hv=>⟨(Y,X%Y),hv,⟨by rw[<-hg];exact hstep hY0,hY,Nat.lt_of_le_of_lt (jt (Nat.le_of_lt hlt)) hY⟩,hlt⟩
  refine⟨fun hf=>⟨hf,fun s' hv=>cU ?_⟩,fun hf=>⟨hf,fun s' hv=>cU ?_⟩⟩
  ·refine aA.cond (b:=.tmp 32) (t:=iD Y) (x:=ve) (y:=.skip) (xX hv rfl rfl) (fun hf2=>?_) (fun _=>aA.skip ?_)
   ·rw[if_pos hf,if_pos hf2]at hv
    have hX64:X<2^64:=by unfold iD at hf;simpa using hf
    have hY64:Y<2^64:=by unfold iD at hf2;simpa using hf2
    have hv:=Z4 (l:=[0,1]) (us:=[.mag X,.mag Y]) (kK (ls:=[0,1,5,7]) (vs:=[.mag X,.mag Y,.int .u64 (X:Nat),.int .u64 (Y:Nat)]) hv rfl rfl) rfl rfl
    refine aA.hole [0] ah ?_
    show aA P c f173.ntmps (part ve [0]) s' _
    refine aA.js (i:=2) (y:=MD) ah [5,7] 0 (h0 0) (fun p:Nat×Nat=>[.int .u64 (p.1:Nat),.int .u64 (p.2:Nat)]) (fun _=>[]) (fun _=>rfl) (fun _=>trivial)
     (fun p=>Nat.gcd p.1 p.2=Nat.gcd A B/\p.1<2^64/\p.2<2^64) (fun p=>p.2) (X,Y) hv ⟨hg,hX64,hY64⟩ ?_
    rintro⟨x,y⟩ ⟨hg,hx,hy⟩
    simp only at hg hx hy
    refine aA.bM hT sZ hm 60 [5,7] Qo ah ?_
    simp only[af.all,aF,bne_iff_ne,ne_eq,bne_eq_false_iff_eq]
    refine⟨fun hb=>⟨hb,fun s' hv=>cU ?_⟩,fun hb s' hv=>gD ?_⟩
    ·have hy0:y≠0:=aa
     have hlt:=Nat.mod_lt x (show 0<y by omega)
     exact⟨(y,x%y),eU hv (by rw[<-Int.ofNat_tmod]) rfl,⟨by rw[<-hg];exact hstep hy0,hy,by simp only;omega⟩,hlt⟩
    ·have hy0:y=0:=aa
     show aI P c f173.ntmps [part ve [1]] s' _
     refine aI.gC hT sZ hm 60 hv (h0 0) rfl trivial [4] adw ah ah ?_
     simp only[af.all,aF,bJ]
     refine⟨aa,fun s' hv=>?_⟩
     rw[show x=Nat.gcd A B by rw[<-hg,hy0,Nat.gcd_zero_right]]at hv
     exact(.inl (iS (us:=[.mag (Nat.gcd A B)]) (.inr rfl) hv ah (fo rfl)))
   ·exact cU (fin (kK (ls:=[0,1]) (vs:=[.mag X,.mag Y]) hv rfl rfl) fun s' hv=>good hv)
  ·refine aA.cond (b:=.tmp 32) (t:=false) (x:=ve) (y:=.skip) (xX hv rfl rfl) (fun h=>by simp at h) (fun _=>aA.skip ?_)
   exact cU (fin (kK (ls:=[0,1]) (vs:=[.mag X,.mag Y]) hv rfl rfl) fun s' hv=>good hv)
 ·have hY0:Y=0:=kA.1 aa
  show aI P c f173.ntmps (behind (aJ f173) [1,1,0]) s' _
  refine aI.lU hT sZ hm 60 hv (h0 0) rfl trivial TK ah ah (fo ?_)
  rw[<-hg,hY0,Nat.gcd_zero_right]
def Mx:Spec:=oX (fun A B=>.mag (Nat.gcd A B)) fun A B=>[nl A<2^38,nl B<2^38]
theorem afO:bF P Mx 173:=qB fun h=>Wq h.1 h.2
end Go.Am.B
