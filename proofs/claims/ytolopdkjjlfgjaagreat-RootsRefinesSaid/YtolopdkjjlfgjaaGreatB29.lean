/- ref01.Gcd: Euclid, on words when both are words. -/
import Derived.Test.YtolopdkjjlfgjaaGreatB28
set_option linter.unusedVariables false
noncomputable section
namespace Go.Am.B
open Go Go.Am.N AV Proofs.Tryz
theorem Zd:bf 173 f173:=bg func173
def ru:bk:=[(140,vS),(186,EB),(138,AN),(174,ow (fun A B=>oX A B) fun A B=>[nl A<2^38,nl B<2^38])]
abbrev yR:Code:=part (aH f173) [1,1,0,0,0]
abbrev xF:Code:=part yR [1,0]
abbrev uF:Code:=part xF [1,1,0,1,0]
abbrev Mx:Code:=part uF [0,0,0]
theorem sV:bR P ru:=aJ Ai (aJ Km (aJ BG (aJ OI cz)))
theorem aiC {A B:Nat}:aI T ru [] 60 [0,1] (before (aH f173) [1,1,0]) ⟨aU 0 [.mag A,.mag B],[],0⟩=
  some (ag.aj [nl A<2^40,nl B<2^40] (ag.leaf aq.normal ([mag A,mag B],[]))):=ah
theorem ajZ {A B:Nat}:aI T ru [18] 60 [0,1] [part yR [0]] ⟨aC [0,1] [.mag A,.mag B],[],0⟩=
  some (ag.fork (decide ((↑(nl B):Int)>0)) (ag.leaf aq.normal ([mag A,mag B],[])) (ag.leaf (aq.exit 0) ([mag A,mag B],[]))):=ah
theorem abi {A B:Nat}:aI T ru [30,32] 60 [0,1,5,7,32] (before xF [1,1,0,1]) ⟨aC [0,1] [.mag A,.mag B],[],0⟩=
  let c2:AV:=int .u64 (↑(if iz B=true then B else 0):Int);let c1:AV:=int .u64 (↑(if iz A=true then A else 0):Int);some (ag.fork (iz A) (ag.aj [iz A=true] (ag.leaf aq.normal ([mag A,mag B,c1,c2,AV.bool (bif true then iz B else false)],[]))) (ag.aj [iz A=false] (ag.leaf aq.normal ([mag A,mag B,c1,c2,AV.bool false],[])))):=ah
theorem ZL {x y:Nat}:aI T ru [34] 60 [5,7] [Mx] ⟨aC [5,7] [.int .u64 x,.int .u64 y],[],0⟩=
  let c1:Int:=(↑y:Int);some (ag.fork (c1 !=(0:Int)) (ag.aj [c1≠(0:Int)] (ag.leaf aq.normal ([int .u64 c1,int .u64 ((↑x:Int).tmod c1)],[]))) (ag.leaf (aq.exit 2) ([int .u64 (↑x:Int),int .u64 c1],[]))):=ah
theorem YI {x y:Nat}:aI T ru [] 60 [4] [part uF [1]] ⟨aC [5,7] [.int .u64 x,.int .u64 y],[],0⟩=
  some (ag.aj [(0:Int)<=(↑x:Int)/\(↑x:Int)<2^64] (ag.leaf aq.ret ([mag (↑x:Int).toNat],[]))):=ah
theorem aev {A B:Nat}:aI T ru [] 60 [0,1] (behind xF [1,1,0,1]) ⟨aC [0,1] [.mag A,.mag B],[],0⟩=
  some (ag.aj [nl A<2^38,nl B<2^38] (ag.leaf aq.normal ([mag B,mag (if B=0 then 0 else A%B)],[]))):=ah
theorem ad1 {A B:Nat}:cQ T ru [] 60 f173 (behind (aH f173) [1,1,0]) ⟨aC [0,1] [.mag A,.mag B],[],0⟩=
  some (ag.leaf aq.ret [mag A]):=ah
theorem ZR {s:aN} {ls l:List Nat} {vs us:List AV} {os:aE} (hv:bE (l++ls) s=some (us++vs,os)) (hl:us.length=l.length) (hk:bU us=[]):bE ls s=some (vs,os):=by
 unfold bE at hv ⊢
 simp only[ay,Prod.mk.injEq,Ex]at hv ⊢
 obtain⟨h1,h2⟩:=hv
 obtain⟨h3,h4⟩:=List.append_inj h1 (by rw[F8,hl])
 subst h4
 refine⟨rfl,?_⟩
 rw[<-h2,h3,QZ,hk,List.nil_append]
theorem US {A B:Nat} (hA:nl A<2^38) (hB:nl B<2^38) (K:Nat):aQ P 173 K [.mag A,.mag B] [] (aL (.mag (Nat.gcd A B)) []):=by
 refine iw hT Zd rfl aX rfl (fun _ c h0=>?_) K []
 have hk0:=DR h0
 refine ax.hole [1,1,0] ah (aG.bO hT sV hm 60 [0,1] aiC ah ?_)
 simp only[ag.all,az]
 refine⟨⟨aa,aa⟩,fun s' hv=>cZ ?_⟩
 refine ax.jg (i:=0) (y:=yR) ah [0,1] 0 (h0 0) (fun p:Nat×Nat=>[.mag p.1,.mag p.2]) (fun _=>[]) (fun _=>rfl) (fun _=>trivial)
  (fun p=>Nat.gcd p.1 p.2=Nat.gcd A B/\nl p.1<2^38/\nl p.2<2^38) (fun p=>p.2) (A,B) hv ⟨rfl,hA,hB⟩ ?_
 rintro⟨X,Y⟩ ⟨hg,hX,hY⟩
 simp only at hg hX hY
 have hstep:∀{X Y:Nat},Y≠0->Nat.gcd Y (X%Y)=Nat.gcd X Y:=fun {X Y} _=>by rw[Nat.gcd_comm X Y,Nat.gcd_rec Y X,Nat.gcd_comm]
 refine ax.hole [0] ah (show ax P c f173.ntmps (part yR [0]) _ _ from ax.bO hT sV hm 60 [0,1] ajZ ah ?_)
 simp only[ag.all,bB,bD]
 refine⟨fun hb s' hv=>cZ ?_,fun hb s' hv=>uv (gB ?_)⟩
 ·have hY0:Y≠0:=iF.1 aa
  have hlt:=Nat.mod_lt X (show 0<Y by omega)
  show ax P c f173.ntmps (part yR [1]) s' _
  refine ax.rO (i:=1) (y:=xF) ah ?_
  refine ax.hole [1,1,0,1] ah (aG.gl hT sV hm 60 hv (h0 0) rfl trivial [0,1,5,7,32] abi ah ah ?_)
  simp only[ag.all,az]
  have fin:∀{s':aN} {Q:aq->aN->Prop},bE [0,1] s'=some ([.mag X,.mag Y],[])->(∀s',bE [0,1] s'=some ([.mag Y,.mag (X%Y)],[])->Q .normal s')->aG P c f173.ntmps (behind xF [1,1,0,1]) s' Q:=by
   intro s' Q hv h
   refine aG.gl hT sV hm 60 hv (h0 0) rfl trivial [0,1] aev ah ah ?_
   simp only[ag.all,az]
   exact⟨⟨hX,hY⟩,fun s' hv=>h s' (fe hv (by rw[if_neg hY0]) rfl)⟩
  have good:∀{s':aN},bE [0,1] s'=some ([.mag Y,.mag (X%Y)],[])->∃k:Nat×Nat,bE [0,1] s'=some ([.mag k.1,.mag k.2],[])/\(Nat.gcd k.1 k.2=Nat.gcd A B/\nl k.1<2^38/\nl k.2<2^38)/\k.2<Y:=
   fun hv=>⟨(Y,X%Y),hv,⟨by rw[<-hg];exact hstep hY0,hY,Nat.lt_of_le_of_lt (iW (Nat.le_of_lt hlt)) hY⟩,hlt⟩
  refine⟨fun hf=>⟨hf,fun s' hv=>cZ ?_⟩,fun hf=>⟨hf,fun s' hv=>cZ ?_⟩⟩
  ·refine ax.cond (b:=.tmp 32) (t:=iz Y) (x:=uF) (y:=.skip) (xp hv rfl rfl) (fun hf2=>?_) (fun _=>ax.skip ?_)
   ·rw[if_pos hf,if_pos hf2]at hv
    have hX64:X<2^64:=by unfold iz at hf;simpa using hf
    have hY64:Y<2^64:=by unfold iz at hf2;simpa using hf2
    have hv:=ZR (l:=[0,1]) (us:=[.mag X,.mag Y]) (kn (ls:=[0,1,5,7]) (vs:=[.mag X,.mag Y,.int .u64 (X:Nat),.int .u64 (Y:Nat)]) hv rfl rfl) rfl rfl
    refine ax.hole [0] ah ?_
    show ax P c f173.ntmps (part uF [0]) s' _
    refine ax.jg (i:=2) (y:=Mx) ah [5,7] 0 (h0 0) (fun p:Nat×Nat=>[.int .u64 (p.1:Nat),.int .u64 (p.2:Nat)]) (fun _=>[]) (fun _=>rfl) (fun _=>trivial)
     (fun p=>Nat.gcd p.1 p.2=Nat.gcd A B/\p.1<2^64/\p.2<2^64) (fun p=>p.2) (X,Y) hv ⟨hg,hX64,hY64⟩ ?_
    rintro⟨x,y⟩ ⟨hg,hx,hy⟩
    simp only at hg hx hy
    refine ax.bO hT sV hm 60 [5,7] ZL ah ?_
    simp only[ag.all,az,bne_iff_ne,ne_eq,bne_eq_false_iff_eq]
    refine⟨fun hb=>⟨hb,fun s' hv=>cZ ?_⟩,fun hb s' hv=>gB ?_⟩
    ·have hy0:y≠0:=aa
     have hlt:=Nat.mod_lt x (show 0<y by omega)
     exact⟨(y,x%y),fe hv (by rw[<-Int.ofNat_tmod]) rfl,⟨by rw[<-hg];exact hstep hy0,hy,by simp only;omega⟩,hlt⟩
    ·have hy0:y=0:=aa
     show aG P c f173.ntmps [part uF [1]] s' _
     refine aG.gl hT sV hm 60 hv (h0 0) rfl trivial [4] YI ah ah ?_
     simp only[ag.all,az,bJ]
     refine⟨aa,fun s' hv=>?_⟩
     rw[show x=Nat.gcd A B by rw[<-hg,hy0,Nat.gcd_zero_right]]at hv
     exact(.inl (iP (us:=[.mag (Nat.gcd A B)]) (.inr rfl) hv ah (fk rfl)))
   ·exact cZ (fin (kn (ls:=[0,1]) (vs:=[.mag X,.mag Y]) hv rfl rfl) fun s' hv=>good hv)
  ·refine ax.cond (b:=.tmp 32) (t:=false) (x:=uF) (y:=.skip) (xp hv rfl rfl) (fun h=>by simp at h) (fun _=>ax.skip ?_)
   exact cZ (fin (kn (ls:=[0,1]) (vs:=[.mag X,.mag Y]) hv rfl rfl) fun s' hv=>good hv)
 ·have hY0:Y=0:=jY.1 aa
  show aG P c f173.ntmps (behind (aH f173) [1,1,0]) s' _
  refine aG.lO hT sV hm 60 hv (h0 0) rfl trivial ad1 ah ah (fk ?_)
  rw[<-hg,hY0,Nat.gcd_zero_right]
def Iu:Spec:=ow (fun A B=>.mag (Nat.gcd A B)) fun A B=>[nl A<2^38,nl B<2^38]
theorem QU:aY P Iu 173:=qE fun h=>US h.1 h.2
end Go.Am.B
