/- ref01.Gcd: Euclid, on words when both are words. -/
import Derived.Test.YtolopdkjjlfgjaaGreatB28
set_option linter.unusedVariables false
noncomputable section
namespace Go.Am.B
open Go Go.Am.N AV Proofs.Tryz
theorem VN:aX 173 f173:=aZ func173
def oq:bh:=[(140,sA),(186,BT),(138,vG),(174,l7 (fun A B=>l6 A B) fun A B=>[nl A<2^38,nl B<2^38])]
abbrev uS:Code:=part (aH f173) [1,1,0,0,0]
abbrev vh:Code:=part uS [1,0]
abbrev sS:Code:=part vh [1,1,0,1,0]
abbrev MR:Code:=part sS [0,0,0]
theorem qP:bI P oq:=aL uY (aL LY (aL xS (aL ID b9)))
theorem Zl {A B:Nat}:aG T oq [] 60 [0,1] (before (aH f173) [1,1,0]) ⟨aT 0 [.mag A,.mag B],[],0⟩=
  some (af.aj [nl A<2^40,nl B<2^40] (af.leaf aq.normal ([mag A,mag B],[]))):=ah
theorem aat {A B:Nat}:aG T oq [18] 60 [0,1] [part uS [0]] ⟨aC [0,1] [.mag A,.mag B],[],0⟩=
  some (af.fork (decide ((↑(nl B):Int)>0)) (af.leaf aq.normal ([mag A,mag B],[])) (af.leaf (aq.exit 0) ([mag A,mag B],[]))):=ah
theorem XP {A B:Nat}:aG T oq [30,32] 60 [0,1,5,7,32] (before vh [1,1,0,1]) ⟨aC [0,1] [.mag A,.mag B],[],0⟩=
  let c2:AV:=int .u64 (↑(if gq B=true then B else 0):Int);let c1:AV:=int .u64 (↑(if gq A=true then A else 0):Int);some (af.fork (gq A) (af.aj [gq A=true] (af.leaf aq.normal ([mag A,mag B,c1,c2,AV.bool (bif true then gq B else false)],[]))) (af.aj [gq A=false] (af.leaf aq.normal ([mag A,mag B,c1,c2,AV.bool false],[])))):=ah
theorem P9 {x y:Nat}:aG T oq [34] 60 [5,7] [MR] ⟨aC [5,7] [.int .u64 x,.int .u64 y],[],0⟩=
  let c1:Int:=(↑y:Int);some (af.fork (c1 !=(0:Int)) (af.aj [c1≠(0:Int)] (af.leaf aq.normal ([int .u64 c1,int .u64 ((↑x:Int).tmod c1)],[]))) (af.leaf (aq.exit 2) ([int .u64 (↑x:Int),int .u64 c1],[]))):=ah
theorem RJ {x y:Nat}:aG T oq [] 60 [4] [part sS [1]] ⟨aC [5,7] [.int .u64 x,.int .u64 y],[],0⟩=
  some (af.aj [(0:Int)<=(↑x:Int)/\(↑x:Int)<2^64] (af.leaf aq.ret ([mag (↑x:Int).toNat],[]))):=ah
theorem WA {A B:Nat}:aG T oq [] 60 [0,1] (behind vh [1,1,0,1]) ⟨aC [0,1] [.mag A,.mag B],[],0⟩=
  some (af.aj [nl A<2^38,nl B<2^38] (af.leaf aq.normal ([mag B,mag (if B=0 then 0 else A%B)],[]))):=ah
theorem N5 {A B:Nat}:cA T oq [] 60 f173 (behind (aH f173) [1,1,0]) ⟨aC [0,1] [.mag A,.mag B],[],0⟩=
  some (af.leaf aq.ret [mag A]):=ah
theorem abt {s:aJ} {ls l:List Nat} {vs us:List AV} {os:aE} (hv:bk (l++ls) s=some (us++vs,os)) (hl:us.length=l.length) (hk:bH us=[]):bk ls s=some (vs,os):=by
 unfold bk at hv ⊢
 simp only[ay,Prod.mk.injEq,Es]at hv ⊢
 obtain⟨h1,h2⟩:=hv
 obtain⟨h3,h4⟩:=List.append_inj h1 (by rw[EV,hl])
 subst h4
 refine⟨rfl,?_⟩
 rw[<-h2,h3,E5,hk,List.nil_append]
theorem Wo {A B:Nat} (hA:nl A<2^38) (hB:nl B<2^38) (K:Nat):aP P 173 K [.mag A,.mag B] [] (aK (.mag (Nat.gcd A B)) []):=by
 refine gm hT VN rfl aW rfl (fun _ c h0=>?_) K []
 have hk0:=AB h0
 refine au.hole [1,1,0] ah (aF.bD hT qP hm 60 [0,1] Zl ah ?_)
 simp only[af.all,aA]
 refine⟨⟨aa,aa⟩,fun s' hv=>cE ?_⟩
 refine au.g8 (i:=0) (y:=uS) ah [0,1] 0 (h0 0) (fun p:Nat×Nat=>[.mag p.1,.mag p.2]) (fun _=>[]) (fun _=>rfl) (fun _=>trivial)
  (fun p=>Nat.gcd p.1 p.2=Nat.gcd A B/\nl p.1<2^38/\nl p.2<2^38) (fun p=>p.2) (A,B) hv ⟨rfl,hA,hB⟩ ?_
 rintro⟨X,Y⟩ ⟨hg,hX,hY⟩
 simp only at hg hX hY
 have hstep:∀{X Y:Nat},Y≠0->Nat.gcd Y (X%Y)=Nat.gcd X Y:=fun {X Y} _=>by rw[Nat.gcd_comm X Y,Nat.gcd_rec Y X,Nat.gcd_comm]
 refine au.hole [0] ah (show au P c f173.ntmps (part uS [0]) _ _ from au.bD hT qP hm 60 [0,1] aat ah ?_)
 simp only[af.all,bw,bB]
 refine⟨fun hb s' hv=>cE ?_,fun hb s' hv=>pV (fz ?_)⟩
 ·have hY0:Y≠0:=gC.1 aa
  have hlt:=Nat.mod_lt X (show 0<Y by omega)
  show au P c f173.ntmps (part uS [1]) s' _
  refine au.oy (i:=1) (y:=vh) ah ?_
  refine au.hole [1,1,0,1] ah (aF.fu hT qP hm 60 hv (h0 0) rfl trivial [0,1,5,7,32] XP ah ah ?_)
  simp only[af.all,aA]
  have fin:∀{s':aJ} {Q:aq->aJ->Prop},bk [0,1] s'=some ([.mag X,.mag Y],[])->(∀s',bk [0,1] s'=some ([.mag Y,.mag (X%Y)],[])->Q .normal s')->aF P c f173.ntmps (behind vh [1,1,0,1]) s' Q:=by
   intro s' Q hv h
   refine aF.fu hT qP hm 60 hv (h0 0) rfl trivial [0,1] WA ah ah ?_
   simp only[af.all,aA]
   exact⟨⟨hX,hY⟩,fun s' hv=>h s' (dY hv (by rw[if_neg hY0]) rfl)⟩
  have good:∀{s':aJ},bk [0,1] s'=some ([.mag Y,.mag (X%Y)],[])->∃k:Nat×Nat,bk [0,1] s'=some ([.mag k.1,.mag k.2],[])/\(Nat.gcd k.1 k.2=Nat.gcd A B/\nl k.1<2^38/\nl k.2<2^38)/\k.2<Y:=
   fun hv=>⟨(Y,X%Y),hv,⟨by rw[<-hg];exact hstep hY0,hY,Nat.lt_of_le_of_lt (gW (Nat.le_of_lt hlt)) hY⟩,hlt⟩
  refine⟨fun hf=>⟨hf,fun s' hv=>cE ?_⟩,fun hf=>⟨hf,fun s' hv=>cE ?_⟩⟩
  ·refine au.cond (b:=.tmp 32) (t:=gq Y) (x:=sS) (y:=.skip) (uw hv rfl rfl) (fun hf2=>?_) (fun _=>au.skip ?_)
   ·rw[if_pos hf,if_pos hf2]at hv
    have hX64:X<2^64:=by unfold gq at hf;simpa using hf
    have hY64:Y<2^64:=by unfold gq at hf2;simpa using hf2
    have hv:=abt (l:=[0,1]) (us:=[.mag X,.mag Y]) (jB (ls:=[0,1,5,7]) (vs:=[.mag X,.mag Y,.int .u64 (X:Nat),.int .u64 (Y:Nat)]) hv rfl rfl) rfl rfl
    refine au.hole [0] ah ?_
    show au P c f173.ntmps (part sS [0]) s' _
    refine au.g8 (i:=2) (y:=MR) ah [5,7] 0 (h0 0) (fun p:Nat×Nat=>[.int .u64 (p.1:Nat),.int .u64 (p.2:Nat)]) (fun _=>[]) (fun _=>rfl) (fun _=>trivial)
     (fun p=>Nat.gcd p.1 p.2=Nat.gcd A B/\p.1<2^64/\p.2<2^64) (fun p=>p.2) (X,Y) hv ⟨hg,hX64,hY64⟩ ?_
    rintro⟨x,y⟩ ⟨hg,hx,hy⟩
    simp only at hg hx hy
    refine au.bD hT qP hm 60 [5,7] P9 ah ?_
    simp only[af.all,aA,bne_iff_ne,ne_eq,bne_eq_false_iff_eq]
    refine⟨fun hb=>⟨hb,fun s' hv=>cE ?_⟩,fun hb s' hv=>fz ?_⟩
    ·have hy0:y≠0:=aa
     have hlt:=Nat.mod_lt x (show 0<y by omega)
     exact⟨(y,x%y),dY hv (by rw[<-Int.ofNat_tmod]) rfl,⟨by rw[<-hg];exact hstep hy0,hy,by simp only;omega⟩,hlt⟩
    ·have hy0:y=0:=aa
     show aF P c f173.ntmps [part sS [1]] s' _
     refine aF.fu hT qP hm 60 hv (h0 0) rfl trivial [4] RJ ah ah ?_
     simp only[af.all,aA,bu]
     refine⟨aa,fun s' hv=>?_⟩
     rw[show x=Nat.gcd A B by rw[<-hg,hy0,Nat.gcd_zero_right]]at hv
     exact(.inl (gF (us:=[.mag (Nat.gcd A B)]) (.inr rfl) hv ah (ef rfl)))
   ·exact cE (fin (jB (ls:=[0,1]) (vs:=[.mag X,.mag Y]) hv rfl rfl) fun s' hv=>good hv)
  ·refine au.cond (b:=.tmp 32) (t:=false) (x:=sS) (y:=.skip) (uw hv rfl rfl) (fun h=>by simp at h) (fun _=>au.skip ?_)
   exact cE (fin (jB (ls:=[0,1]) (vs:=[.mag X,.mag Y]) hv rfl rfl) fun s' hv=>good hv)
 ·have hY0:Y=0:=jE.1 aa
  show aF P c f173.ntmps (behind (aH f173) [1,1,0]) s' _
  refine aF.jM hT qP hm 60 hv (h0 0) rfl trivial N5 ah ah (ef ?_)
  rw[<-hg,hY0,Nat.gcd_zero_right]
def HD:Spec:=l7 (fun A B=>.mag (Nat.gcd A B)) fun A B=>[nl A<2^38,nl B<2^38]
theorem Sl:bf P HD 173:=ou fun h=>Wo h.1 h.2
end Go.Am.B
