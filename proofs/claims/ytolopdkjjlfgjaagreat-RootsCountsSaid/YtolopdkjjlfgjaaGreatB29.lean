/- ref01.Gcd: Euclid, on words when both are words. -/
import Derived.Test.YtolopdkjjlfgjaaGreatB28
set_option linter.unusedVariables false
noncomputable section
namespace Go.Am.B
open Go Go.Am.N AV Proofs.Tryz
theorem Wq:aZ 173 f173:=bf func173
def nZ:bp:=[(140,sy),(186,DB),(138,u9),(174,lU (fun A B=>mH A B) fun A B=>[nl A<2^38,nl B<2^38])]
abbrev vp:Code:=part (aG f173) [1,1,0,0,0]
abbrev uZ:Code:=part vp [1,0]
abbrev rL:Code:=part uZ [1,1,0,1,0]
abbrev HD:Code:=part rL [0,0,0]
theorem qP:bI P nZ:=aI v7 (aI E6 (aI yK (aI FW bY)))
theorem RT {A B:Nat}:aF T nZ [] 60 [0,1] (before (aG f173) [1,1,0]) ⟨aQ 0 [.mag A,.mag B],[],0⟩=
  some (af.aj [nl A<2^40,nl B<2^40] (af.leaf aq.normal ([mag A,mag B],[]))):=ah
theorem Sf {A B:Nat}:aF T nZ [18] 60 [0,1] [part vp [0]] ⟨aC [0,1] [.mag A,.mag B],[],0⟩=
  some (af.fork (decide ((↑(nl B):Int)>0)) (af.leaf aq.normal ([mag A,mag B],[])) (af.leaf (aq.exit 0) ([mag A,mag B],[]))):=ah
theorem MC {A B:Nat}:aF T nZ [30,32] 60 [0,1,5,7,32] (before uZ [1,1,0,1]) ⟨aC [0,1] [.mag A,.mag B],[],0⟩=
  let c2:AV:=int .u64 (↑(if gl B=true then B else 0):Int);let c1:AV:=int .u64 (↑(if gl A=true then A else 0):Int);some (af.fork (gl A) (af.aj [gl A=true] (af.leaf aq.normal ([mag A,mag B,c1,c2,AV.bool (bif true then gl B else false)],[]))) (af.aj [gl A=false] (af.leaf aq.normal ([mag A,mag B,c1,c2,AV.bool false],[])))):=ah
theorem Yn {x y:Nat}:aF T nZ [34] 60 [5,7] [HD] ⟨aC [5,7] [.int .u64 x,.int .u64 y],[],0⟩=
  let c1:Int:=(↑y:Int);some (af.fork (c1 !=(0:Int)) (af.aj [c1≠(0:Int)] (af.leaf aq.normal ([int .u64 c1,int .u64 ((↑x:Int).tmod c1)],[]))) (af.leaf (aq.exit 2) ([int .u64 (↑x:Int),int .u64 c1],[]))):=ah
theorem Rt {x y:Nat}:aF T nZ [] 60 [4] [part rL [1]] ⟨aC [5,7] [.int .u64 x,.int .u64 y],[],0⟩=
  some (af.aj [(0:Int)<=(↑x:Int)/\(↑x:Int)<2^64] (af.leaf aq.ret ([mag (↑x:Int).toNat],[]))):=ah
theorem VH {A B:Nat}:aF T nZ [] 60 [0,1] (behind uZ [1,1,0,1]) ⟨aC [0,1] [.mag A,.mag B],[],0⟩=
  some (af.aj [nl A<2^38,nl B<2^38] (af.leaf aq.normal ([mag B,mag (if B=0 then 0 else A%B)],[]))):=ah
theorem Tq {A B:Nat}:cG T nZ [] 60 f173 (behind (aG f173) [1,1,0]) ⟨aC [0,1] [.mag A,.mag B],[],0⟩=
  some (af.leaf aq.ret [mag A]):=ah
theorem On {s:aH} {ls l:List Nat} {vs us:List AV} {os:aD} (hv:bh (l++ls) s=some (us++vs,os)) (hl:us.length=l.length) (hk:bG us=[]):bh ls s=some (vs,os):=by
 unfold bh at hv ⊢
 simp only[ay,Prod.mk.injEq,B4]at hv ⊢
 obtain⟨h1,h2⟩:=hv
 obtain⟨h3,h4⟩:=List.append_inj h1 (by rw[Ci,hl])
 subst h4
 refine⟨rfl,?_⟩
 rw[<-h2,h3,HR,hk,List.nil_append]
theorem Ri {A B:Nat} (hA:nl A<2^38) (hB:nl B<2^38) (K:Nat):aO P 173 K [.mag A,.mag B] [] (aJ (.mag (Nat.gcd A B)) []):=by
 refine gB hT Wq rfl aX rfl (fun _ c h0=>?_) K []
 have hk0:=yD h0
 refine au.hole [1,1,0] ah (aE.bD hT qP hm 60 [0,1] RT ah ?_)
 simp only[af.all,az]
 refine⟨⟨aa,aa⟩,fun s' hv=>cz ?_⟩
 refine au.gV (i:=0) (y:=vp) ah [0,1] 0 (h0 0) (fun p:Nat×Nat=>[.mag p.1,.mag p.2]) (fun _=>[]) (fun _=>rfl) (fun _=>trivial)
  (fun p=>Nat.gcd p.1 p.2=Nat.gcd A B/\nl p.1<2^38/\nl p.2<2^38) (fun p=>p.2) (A,B) hv ⟨rfl,hA,hB⟩ ?_
 rintro⟨X,Y⟩ ⟨hg,hX,hY⟩
 simp only at hg hX hY
 have hstep:∀{X Y:Nat},Y≠0->Nat.gcd Y (X%Y)=Nat.gcd X Y:=fun {X Y} _=>by rw[Nat.gcd_comm X Y,Nat.gcd_rec Y X,Nat.gcd_comm]
 refine au.hole [0] ah (show au P c f173.ntmps (part vp [0]) _ _ from au.bD hT qP hm 60 [0,1] Sf ah ?_)
 simp only[af.all,bz,bB]
 refine⟨fun hb s' hv=>cz ?_,fun hb s' hv=>pn (fo ?_)⟩
 ·have hY0:Y≠0:=gr.1 aa
  have hlt:=Nat.mod_lt X (show 0<Y by omega)
  show au P c f173.ntmps (part vp [1]) s' _
  refine au.nQ (i:=1) (y:=uZ) ah ?_
  refine au.hole [1,1,0,1] ah (aE.fj hT qP hm 60 hv (h0 0) rfl trivial [0,1,5,7,32] MC ah ah ?_)
  simp only[af.all,az]
  have fin:∀{s':aH} {Q:aq->aH->Prop},bh [0,1] s'=some ([.mag X,.mag Y],[])->(∀s',bh [0,1] s'=some ([.mag Y,.mag (X%Y)],[])->Q .normal s')->aE P c f173.ntmps (behind uZ [1,1,0,1]) s' Q:=by
   intro s' Q hv h
   refine aE.fj hT qP hm 60 hv (h0 0) rfl trivial [0,1] VH ah ah ?_
   simp only[af.all,az]
   exact⟨⟨hX,hY⟩,fun s' hv=>h s' (dS hv (by rw[if_neg hY0]) rfl)⟩
  have good:∀{s':aH},bh [0,1] s'=some ([.mag Y,.mag (X%Y)],[])->∃k:Nat×Nat,bh [0,1] s'=some ([.mag k.1,.mag k.2],[])/\(Nat.gcd k.1 k.2=Nat.gcd A B/\nl k.1<2^38/\nl k.2<2^38)/\k.2<Y:=
   fun hv=>⟨(Y,X%Y),hv,⟨by rw[<-hg];exact hstep hY0,hY,Nat.lt_of_le_of_lt (gY (Nat.le_of_lt hlt)) hY⟩,hlt⟩
  refine⟨fun hf=>⟨hf,fun s' hv=>cz ?_⟩,fun hf=>⟨hf,fun s' hv=>cz ?_⟩⟩
  ·refine au.cond (b:=.tmp 32) (t:=gl Y) (x:=rL) (y:=.skip) (vt hv rfl rfl) (fun hf2=>?_) (fun _=>au.skip ?_)
   ·rw[if_pos hf,if_pos hf2]at hv
    have hX64:X<2^64:=by unfold gl at hf;simpa using hf
    have hY64:Y<2^64:=by unfold gl at hf2;simpa using hf2
    have hv:=On (l:=[0,1]) (us:=[.mag X,.mag Y]) (jv (ls:=[0,1,5,7]) (vs:=[.mag X,.mag Y,.int .u64 (X:Nat),.int .u64 (Y:Nat)]) hv rfl rfl) rfl rfl
    refine au.hole [0] ah ?_
    show au P c f173.ntmps (part rL [0]) s' _
    refine au.gV (i:=2) (y:=HD) ah [5,7] 0 (h0 0) (fun p:Nat×Nat=>[.int .u64 (p.1:Nat),.int .u64 (p.2:Nat)]) (fun _=>[]) (fun _=>rfl) (fun _=>trivial)
     (fun p=>Nat.gcd p.1 p.2=Nat.gcd A B/\p.1<2^64/\p.2<2^64) (fun p=>p.2) (X,Y) hv ⟨hg,hX64,hY64⟩ ?_
    rintro⟨x,y⟩ ⟨hg,hx,hy⟩
    simp only at hg hx hy
    refine au.bD hT qP hm 60 [5,7] Yn ah ?_
    simp only[af.all,az,bne_iff_ne,ne_eq,bne_eq_false_iff_eq]
    refine⟨fun hb=>⟨hb,fun s' hv=>cz ?_⟩,fun hb s' hv=>fo ?_⟩
    ·have hy0:y≠0:=aa
     have hlt:=Nat.mod_lt x (show 0<y by omega)
     exact⟨(y,x%y),dS hv (by rw[<-Int.ofNat_tmod]) rfl,⟨by rw[<-hg];exact hstep hy0,hy,by simp only;omega⟩,hlt⟩
    ·have hy0:y=0:=aa
     show aE P c f173.ntmps [part rL [1]] s' _
     refine aE.fj hT qP hm 60 hv (h0 0) rfl trivial [4] Rt ah ah ?_
     simp only[af.all,az,bw]
     refine⟨aa,fun s' hv=>?_⟩
     rw[show x=Nat.gcd A B by rw[<-hg,hy0,Nat.gcd_zero_right]]at hv
     exact(.inl (gC (us:=[.mag (Nat.gcd A B)]) (.inr rfl) hv ah (dZ rfl)))
   ·exact cz (fin (jv (ls:=[0,1]) (vs:=[.mag X,.mag Y]) hv rfl rfl) fun s' hv=>good hv)
  ·refine au.cond (b:=.tmp 32) (t:=false) (x:=rL) (y:=.skip) (vt hv rfl rfl) (fun h=>by simp at h) (fun _=>au.skip ?_)
   exact cz (fin (jv (ls:=[0,1]) (vs:=[.mag X,.mag Y]) hv rfl rfl) fun s' hv=>good hv)
 ·have hY0:Y=0:=jO.1 aa
  show aE P c f173.ntmps (behind (aG f173) [1,1,0]) s' _
  refine aE.jA hT qP hm 60 hv (h0 0) rfl trivial Tq ah ah (dZ ?_)
  rw[<-hg,hY0,Nat.gcd_zero_right]
def H8:Spec:=lU (fun A B=>.mag (Nat.gcd A B)) fun A B=>[nl A<2^38,nl B<2^38]
theorem YK:aY P H8 173:=oQ fun h=>Ri h.1 h.2
end Go.Am.B
