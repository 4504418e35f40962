/- ref01.Gcd: Euclid, on words when both are words. -/
import Derived.Test.YtolopdkjjlfgjaaGreatB28
set_option linter.unusedVariables false
noncomputable section
namespace Go.Am.B
open Go Go.Am.N AV Proofs.Tryz
theorem Q0:bu 173 f173:=bz func173
def p5:bB:=[(140,uS),(186,B9),(138,vO),(174,nL (fun A B=>nq A B) fun A B=>[nl A<2^38,nl B<2^38])]
abbrev wh:Code:=part (aG f173) [1,1,0,0,0]
abbrev xR:Code:=part wh [1,0]
abbrev uU:Code:=part xR [1,1,0,1,0]
abbrev Ko:Code:=part uU [0,0,0]
theorem rI:bT P p5:=aN w8 (aN KZ (aN BE (aN Ja ct)))
theorem Tc {A B:Nat}:aH T p5 [] 60 [0,1] (before (aG f173) [1,1,0]) ⟨aV 0 [.mag A,.mag B],[],0⟩=
  some (af.aj [nl A<2^40,nl B<2^40] (af.leaf ak.normal ([mag A,mag B],[]))):=ag
theorem O7 {A B:Nat}:aH T p5 [18] 60 [0,1] [part wh [0]] ⟨aE [0,1] [.mag A,.mag B],[],0⟩=
  some (af.fork (decide ((↑(nl B):Int)>0)) (af.leaf ak.normal ([mag A,mag B],[])) (af.leaf (ak.exit 0) ([mag A,mag B],[]))):=ag
theorem aen {A B:Nat}:aH T p5 [30,32] 60 [0,1,5,7,32] (before xR [1,1,0,1]) ⟨aE [0,1] [.mag A,.mag B],[],0⟩=
  let c2:AV:=int .u64 (↑(if gP B=true then B else 0):Int);let c1:AV:=int .u64 (↑(if gP A=true then A else 0):Int);some (af.fork (gP A) (af.aj [gP A=true] (af.leaf ak.normal ([mag A,mag B,c1,c2,AV.bool (bif true then gP B else false)],[]))) (af.aj [gP A=false] (af.leaf ak.normal ([mag A,mag B,c1,c2,AV.bool false],[])))):=ag
theorem aay {x y:Nat}:aH T p5 [34] 60 [5,7] [Ko] ⟨aE [5,7] [.int .u64 x,.int .u64 y],[],0⟩=
  let c1:Int:=(↑y:Int);some (af.fork (c1 !=(0:Int)) (af.aj [c1≠(0:Int)] (af.leaf ak.normal ([int .u64 c1,int .u64 ((↑x:Int).tmod c1)],[]))) (af.leaf (ak.exit 2) ([int .u64 (↑x:Int),int .u64 c1],[]))):=ag
theorem PD {x y:Nat}:aH T p5 [] 60 [4] [part uU [1]] ⟨aE [5,7] [.int .u64 x,.int .u64 y],[],0⟩=
  some (af.aj [(0:Int)<=(↑x:Int)/\(↑x:Int)<2^64] (af.leaf ak.ret ([mag (↑x:Int).toNat],[]))):=ag
theorem SW {A B:Nat}:aH T p5 [] 60 [0,1] (behind xR [1,1,0,1]) ⟨aE [0,1] [.mag A,.mag B],[],0⟩=
  some (af.aj [nl A<2^38,nl B<2^38] (af.leaf ak.normal ([mag B,mag (if B=0 then 0 else A%B)],[]))):=ag
theorem adC {A B:Nat}:dA T p5 [] 60 f173 (behind (aG f173) [1,1,0]) ⟨aE [0,1] [.mag A,.mag B],[],0⟩=
  some (af.leaf ak.ret [mag A]):=ag
theorem ab6 {s:aI} {ls l:List Nat} {vs us:List AV} {os:aD} (hv:bh (l++ls) s=some (us++vs,os)) (hl:us.length=l.length) (hk:bM us=[]):bh ls s=some (vs,os):=by
 unfold bh at hv ⊢
 simp only[ax,Prod.mk.injEq,CD]at hv ⊢
 obtain⟨h1,h2⟩:=hv
 obtain⟨h3,h4⟩:=List.append_inj h1 (by rw[CT,hl])
 subst h4
 refine⟨rfl,?_⟩
 rw[<-h2,h3,HQ,hk,List.nil_append]
theorem Wm {A B:Nat} (hA:nl A<2^38) (hB:nl B<2^38) (K:Nat):aQ P 173 K [.mag A,.mag B] [] (aM (.mag (Nat.gcd A B)) []):=by
 refine iI hT Q0 rfl bp rfl (fun _ c h0=>?_) K []
 have hk0:=y9 h0
 refine au.hole [1,1,0] ag (aF.bJ hT rI hm 60 [0,1] Tc ag ?_)
 simp only[af.all,aA]
 refine⟨⟨aa,aa⟩,fun s' hv=>cM ?_⟩
 refine au.iR (i:=0) (y:=wh) ag [0,1] 0 (h0 0) (fun p:Nat×Nat=>[.mag p.1,.mag p.2]) (fun _=>[]) (fun _=>rfl) (fun _=>trivial)
  (fun p=>Nat.gcd p.1 p.2=Nat.gcd A B/\nl p.1<2^38/\nl p.2<2^38) (fun p=>p.2) (A,B) hv ⟨rfl,hA,hB⟩ ?_
 rintro⟨X,Y⟩ ⟨hg,hX,hY⟩
 simp only at hg hX hY
 have hstep:∀{X Y:Nat},Y≠0->Nat.gcd Y (X%Y)=Nat.gcd X Y:=fun {X Y} _=>by rw[Nat.gcd_comm X Y,Nat.gcd_rec Y X,Nat.gcd_comm]
 refine au.hole [0] ag (show au P c f173.ntmps (part wh [0]) _ _ from au.bJ hT rI hm 60 [0,1] O7 ag ?_)
 simp only[af.all,bK,bO]
 refine⟨fun hb s' hv=>cM ?_,fun hb s' hv=>sj (fW ?_)⟩
 ·have hY0:Y≠0:=gZ.1 aa
  have hlt:=Nat.mod_lt X (show 0<Y by omega)
  show au P c f173.ntmps (part wh [1]) s' _
  refine au.qh (i:=1) (y:=xR) ag ?_
  refine au.hole [1,1,0,1] ag (aF.fT hT rI hm 60 hv (h0 0) rfl trivial [0,1,5,7,32] aen ag ag ?_)
  simp only[af.all,aA]
  have fin:∀{s':aI} {Q:ak->aI->Prop},bh [0,1] s'=some ([.mag X,.mag Y],[])->(∀s',bh [0,1] s'=some ([.mag Y,.mag (X%Y)],[])->Q .normal s')->aF P c f173.ntmps (behind xR [1,1,0,1]) s' Q:=by
   intro s' Q hv h
   refine aF.fT hT rI hm 60 hv (h0 0) rfl trivial [0,1] SW ag ag ?_
   simp only[af.all,aA]
   exact⟨⟨hX,hY⟩,fun s' hv=>h s' (eH hv (by rw[if_neg hY0]) rfl)⟩
  have good:∀{s':aI},bh [0,1] s'=some ([.mag Y,.mag (X%Y)],[])->∃k:Nat×Nat,bh [0,1] s'=some ([.mag k.1,.mag k.2],[])/\(Nat.gcd k.1 k.2=Nat.gcd A B/\nl k.1<2^38/\nl k.2<2^38)/\k.2<Y:=
   fun hv=>⟨(Y,X%Y),hv,⟨by rw[<-hg];exact hstep hY0,hY,Nat.lt_of_le_of_lt (iS (Nat.le_of_lt hlt)) hY⟩,hlt⟩
  refine⟨fun hf=>⟨hf,fun s' hv=>cM ?_⟩,fun hf=>⟨hf,fun s' hv=>cM ?_⟩⟩
  ·refine au.cond (b:=.tmp 32) (t:=gP Y) (x:=uU) (y:=.skip) (yB hv rfl rfl) (fun hf2=>?_) (fun _=>au.skip ?_)
   ·rw[if_pos hf,if_pos hf2]at hv
    have hX64:X<2^64:=by unfold gP at hf;simpa using hf
    have hY64:Y<2^64:=by unfold gP at hf2;simpa using hf2
    have hv:=ab6 (l:=[0,1]) (us:=[.mag X,.mag Y]) (ku (ls:=[0,1,5,7]) (vs:=[.mag X,.mag Y,.int .u64 (X:Nat),.int .u64 (Y:Nat)]) hv rfl rfl) rfl rfl
    refine au.hole [0] ag ?_
    show au P c f173.ntmps (part uU [0]) s' _
    refine au.iR (i:=2) (y:=Ko) ag [5,7] 0 (h0 0) (fun p:Nat×Nat=>[.int .u64 (p.1:Nat),.int .u64 (p.2:Nat)]) (fun _=>[]) (fun _=>rfl) (fun _=>trivial)
     (fun p=>Nat.gcd p.1 p.2=Nat.gcd A B/\p.1<2^64/\p.2<2^64) (fun p=>p.2) (X,Y) hv ⟨hg,hX64,hY64⟩ ?_
    rintro⟨x,y⟩ ⟨hg,hx,hy⟩
    simp only at hg hx hy
    refine au.bJ hT rI hm 60 [5,7] aay ag ?_
    simp only[af.all,aA,bne_iff_ne,ne_eq,bne_eq_false_iff_eq]
    refine⟨fun hb=>⟨hb,fun s' hv=>cM ?_⟩,fun hb s' hv=>fW ?_⟩
    ·have hy0:y≠0:=aa
     have hlt:=Nat.mod_lt x (show 0<y by omega)
     exact⟨(y,x%y),eH hv (by rw[<-Int.ofNat_tmod]) rfl,⟨by rw[<-hg];exact hstep hy0,hy,by simp only;omega⟩,hlt⟩
    ·have hy0:y=0:=aa
     show aF P c f173.ntmps [part uU [1]] s' _
     refine aF.fT hT rI hm 60 hv (h0 0) rfl trivial [4] PD ag ag ?_
     simp only[af.all,aA,bE]
     refine⟨aa,fun s' hv=>?_⟩
     rw[show x=Nat.gcd A B by rw[<-hg,hy0,Nat.gcd_zero_right]]at hv
     exact(.inl (iq (us:=[.mag (Nat.gcd A B)]) (.inr rfl) hv ag (eO rfl)))
   ·exact cM (fin (ku (ls:=[0,1]) (vs:=[.mag X,.mag Y]) hv rfl rfl) fun s' hv=>good hv)
  ·refine au.cond (b:=.tmp 32) (t:=false) (x:=uU) (y:=.skip) (yB hv rfl rfl) (fun h=>by simp at h) (fun _=>au.skip ?_)
   exact cM (fin (ku (ls:=[0,1]) (vs:=[.mag X,.mag Y]) hv rfl rfl) fun s' hv=>good hv)
 ·have hY0:Y=0:=kO.1 aa
  show aF P c f173.ntmps (behind (aG f173) [1,1,0]) s' _
  refine aF.kJ hT rI hm 60 hv (h0 0) rfl trivial adC ag ag (eO ?_)
  rw[<-hg,hY0,Nat.gcd_zero_right]
def LQ:Spec:=nL (fun A B=>.mag (Nat.gcd A B)) fun A B=>[nl A<2^38,nl B<2^38]
theorem aeV:bA P LQ 173:=qy fun h=>Wm h.1 h.2
end Go.Am.B
