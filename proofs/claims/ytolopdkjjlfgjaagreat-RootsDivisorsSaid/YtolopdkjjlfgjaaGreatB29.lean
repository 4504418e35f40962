/- ref01.Gcd: Euclid, on words when both are words. -/
import Derived.Test.YtolopdkjjlfgjaaGreatB28
set_option linter.unusedVariables false
noncomputable section
namespace Go.Am.B
open Go Go.Am.N AV Proofs.Tryz
theorem Py:aX 173 f173:=aY func173
def pV:bg:=[(140,sW),(186,BD),(138,wJ),(174,mZ (fun A B=>mR A B) fun A B=>[nl A<2^38,nl B<2^38])]
abbrev wV:Code:=part (aG f173) [1,1,0,0,0]
abbrev vk:Code:=part wV [1,0]
abbrev rR:Code:=part vk [1,1,0,1,0]
abbrev Ko:Code:=part rR [0,0,0]
theorem qK:bK P pV:=aK vZ (aK Fl (aK zN (aK KB bU)))
theorem YV {A B:Nat}:aH T pV [] 60 [0,1] (before (aG f173) [1,1,0]) ⟨aS 0 [.mag A,.mag B],[],0⟩=
  some (af.aj [nl A<2^40,nl B<2^40] (af.leaf aq.normal ([mag A,mag B],[]))):=ag
theorem adf {A B:Nat}:aH T pV [18] 60 [0,1] [part wV [0]] ⟨aD [0,1] [.mag A,.mag B],[],0⟩=
  some (af.fork (decide ((↑(nl B):Int)>0)) (af.leaf aq.normal ([mag A,mag B],[])) (af.leaf (aq.exit 0) ([mag A,mag B],[]))):=ag
theorem Vu {A B:Nat}:aH T pV [30,32] 60 [0,1,5,7,32] (before vk [1,1,0,1]) ⟨aD [0,1] [.mag A,.mag B],[],0⟩=
  let c2:AV:=int .u64 (↑(if gm B=true then B else 0):Int);let c1:AV:=int .u64 (↑(if gm A=true then A else 0):Int);some (af.fork (gm A) (af.aj [gm A=true] (af.leaf aq.normal ([mag A,mag B,c1,c2,AV.bool (bif true then gm B else false)],[]))) (af.aj [gm A=false] (af.leaf aq.normal ([mag A,mag B,c1,c2,AV.bool false],[])))):=ag
theorem S1 {x y:Nat}:aH T pV [34] 60 [5,7] [Ko] ⟨aD [5,7] [.int .u64 x,.int .u64 y],[],0⟩=
  let c1:Int:=(↑y:Int);some (af.fork (c1 !=(0:Int)) (af.aj [c1≠(0:Int)] (af.leaf aq.normal ([int .u64 c1,int .u64 ((↑x:Int).tmod c1)],[]))) (af.leaf (aq.exit 2) ([int .u64 (↑x:Int),int .u64 c1],[]))):=ag
theorem Ux {x y:Nat}:aH T pV [] 60 [4] [part rR [1]] ⟨aD [5,7] [.int .u64 x,.int .u64 y],[],0⟩=
  some (af.aj [(0:Int)<=(↑x:Int)/\(↑x:Int)<2^64] (af.leaf aq.ret ([mag (↑x:Int).toNat],[]))):=ag
theorem OL {A B:Nat}:aH T pV [] 60 [0,1] (behind vk [1,1,0,1]) ⟨aD [0,1] [.mag A,.mag B],[],0⟩=
  some (af.aj [nl A<2^38,nl B<2^38] (af.leaf aq.normal ([mag B,mag (if B=0 then 0 else A%B)],[]))):=ag
theorem VF {A B:Nat}:cN T pV [] 60 f173 (behind (aG f173) [1,1,0]) ⟨aD [0,1] [.mag A,.mag B],[],0⟩=
  some (af.leaf aq.ret [mag A]):=ag
theorem ab1 {s:aI} {ls l:List Nat} {vs us:List AV} {os:aE} (hv:bk (l++ls) s=some (us++vs,os)) (hl:us.length=l.length) (hk:bH us=[]):bk ls s=some (vs,os):=by
 unfold bk at hv ⊢
 simp only[ax,Prod.mk.injEq,DZ]at hv ⊢
 obtain⟨h1,h2⟩:=hv
 obtain⟨h3,h4⟩:=List.append_inj h1 (by rw[BW,hl])
 subst h4
 refine⟨rfl,?_⟩
 rw[<-h2,h3,Na,hk,List.nil_append]
theorem adA {A B:Nat} (hA:nl A<2^38) (hB:nl B<2^38) (K:Nat):aO P 173 K [.mag A,.mag B] [] (aJ (.mag (Nat.gcd A B)) []):=by
 refine ij hT Py rfl aW rfl (fun _ c h0=>?_) K []
 have hk0:=zD h0
 refine au.hole [1,1,0] ag (aF.bF hT qK hm 60 [0,1] YV ag ?_)
 simp only[af.all,az]
 refine⟨⟨aa,aa⟩,fun s' hv=>cD ?_⟩
 refine au.iy (i:=0) (y:=wV) ag [0,1] 0 (h0 0) (fun p:Nat×Nat=>[.mag p.1,.mag p.2]) (fun _=>[]) (fun _=>rfl) (fun _=>trivial)
  (fun p=>Nat.gcd p.1 p.2=Nat.gcd A B/\nl p.1<2^38/\nl p.2<2^38) (fun p=>p.2) (A,B) hv ⟨rfl,hA,hB⟩ ?_
 rintro⟨X,Y⟩ ⟨hg,hX,hY⟩
 simp only at hg hX hY
 have hstep:∀{X Y:Nat},Y≠0->Nat.gcd Y (X%Y)=Nat.gcd X Y:=fun {X Y} _=>by rw[Nat.gcd_comm X Y,Nat.gcd_rec Y X,Nat.gcd_comm]
 refine au.hole [0] ag (show au P c f173.ntmps (part wV [0]) _ _ from au.bF hT qK hm 60 [0,1] adf ag ?_)
 simp only[af.all,bz,bE]
 refine⟨fun hb s' hv=>cD ?_,fun hb s' hv=>p5 (fL ?_)⟩
 ·have hY0:Y≠0:=gI.1 aa
  have hlt:=Nat.mod_lt X (show 0<Y by omega)
  show au P c f173.ntmps (part wV [1]) s' _
  refine au.pF (i:=1) (y:=vk) ag ?_
  refine au.hole [1,1,0,1] ag (aF.fE hT qK hm 60 hv (h0 0) rfl trivial [0,1,5,7,32] Vu ag ag ?_)
  simp only[af.all,az]
  have fin:∀{s':aI} {Q:aq->aI->Prop},bk [0,1] s'=some ([.mag X,.mag Y],[])->(∀s',bk [0,1] s'=some ([.mag Y,.mag (X%Y)],[])->Q .normal s')->aF P c f173.ntmps (behind vk [1,1,0,1]) s' Q:=by
   intro s' Q hv h
   refine aF.fE hT qK hm 60 hv (h0 0) rfl trivial [0,1] OL ag ag ?_
   simp only[af.all,az]
   exact⟨⟨hX,hY⟩,fun s' hv=>h s' (ef hv (by rw[if_neg hY0]) rfl)⟩
  have good:∀{s':aI},bk [0,1] s'=some ([.mag Y,.mag (X%Y)],[])->∃k:Nat×Nat,bk [0,1] s'=some ([.mag k.1,.mag k.2],[])/\(Nat.gcd k.1 k.2=Nat.gcd A B/\nl k.1<2^38/\nl k.2<2^38)/\k.2<Y:=
   fun hv=>⟨(Y,X%Y),hv,⟨by rw[<-hg];exact hstep hY0,hY,Nat.lt_of_le_of_lt (hH (Nat.le_of_lt hlt)) hY⟩,hlt⟩
  refine⟨fun hf=>⟨hf,fun s' hv=>cD ?_⟩,fun hf=>⟨hf,fun s' hv=>cD ?_⟩⟩
  ·refine au.cond (b:=.tmp 32) (t:=gm Y) (x:=rR) (y:=.skip) (wO hv rfl rfl) (fun hf2=>?_) (fun _=>au.skip ?_)
   ·rw[if_pos hf,if_pos hf2]at hv
    have hX64:X<2^64:=by unfold gm at hf;simpa using hf
    have hY64:Y<2^64:=by unfold gm at hf2;simpa using hf2
    have hv:=ab1 (l:=[0,1]) (us:=[.mag X,.mag Y]) (jS (ls:=[0,1,5,7]) (vs:=[.mag X,.mag Y,.int .u64 (X:Nat),.int .u64 (Y:Nat)]) hv rfl rfl) rfl rfl
    refine au.hole [0] ag ?_
    show au P c f173.ntmps (part rR [0]) s' _
    refine au.iy (i:=2) (y:=Ko) ag [5,7] 0 (h0 0) (fun p:Nat×Nat=>[.int .u64 (p.1:Nat),.int .u64 (p.2:Nat)]) (fun _=>[]) (fun _=>rfl) (fun _=>trivial)
     (fun p=>Nat.gcd p.1 p.2=Nat.gcd A B/\p.1<2^64/\p.2<2^64) (fun p=>p.2) (X,Y) hv ⟨hg,hX64,hY64⟩ ?_
    rintro⟨x,y⟩ ⟨hg,hx,hy⟩
    simp only at hg hx hy
    refine au.bF hT qK hm 60 [5,7] S1 ag ?_
    simp only[af.all,az,bne_iff_ne,ne_eq,bne_eq_false_iff_eq]
    refine⟨fun hb=>⟨hb,fun s' hv=>cD ?_⟩,fun hb s' hv=>fL ?_⟩
    ·have hy0:y≠0:=aa
     have hlt:=Nat.mod_lt x (show 0<y by omega)
     exact⟨(y,x%y),ef hv (by rw[<-Int.ofNat_tmod]) rfl,⟨by rw[<-hg];exact hstep hy0,hy,by simp only;omega⟩,hlt⟩
    ·have hy0:y=0:=aa
     show aF P c f173.ntmps [part rR [1]] s' _
     refine aF.fE hT qK hm 60 hv (h0 0) rfl trivial [4] Ux ag ag ?_
     simp only[af.all,az,bu]
     refine⟨aa,fun s' hv=>?_⟩
     rw[show x=Nat.gcd A B by rw[<-hg,hy0,Nat.gcd_zero_right]]at hv
     exact(.inl (gN (us:=[.mag (Nat.gcd A B)]) (.inr rfl) hv ag (en rfl)))
   ·exact cD (fin (jS (ls:=[0,1]) (vs:=[.mag X,.mag Y]) hv rfl rfl) fun s' hv=>good hv)
  ·refine au.cond (b:=.tmp 32) (t:=false) (x:=rR) (y:=.skip) (wO hv rfl rfl) (fun h=>by simp at h) (fun _=>au.skip ?_)
   exact cD (fin (jS (ls:=[0,1]) (vs:=[.mag X,.mag Y]) hv rfl rfl) fun s' hv=>good hv)
 ·have hY0:Y=0:=kB.1 aa
  show aF P c f173.ntmps (behind (aG f173) [1,1,0]) s' _
  refine aF.j7 hT qK hm 60 hv (h0 0) rfl trivial VF ag ag (en ?_)
  rw[<-hg,hY0,Nat.gcd_zero_right]
def CW:Spec:=mZ (fun A B=>.mag (Nat.gcd A B)) fun A B=>[nl A<2^38,nl B<2^38]
theorem KT:bf P CW 173:=pI fun h=>adA h.1 h.2
end Go.Am.B
