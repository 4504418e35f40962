/- ref01.Gcd: Euclid, on words when both are words. -/
import Derived.Test.YtppeigelbecpbaaGreatB28
set_option linter.unusedVariables false
namespace Go.Am.B
open Go Go.Am.N AV
theorem SK:aN P uZ gV (au gV):=aO Nk (by kernel_rfl) (by kernel_rfl) (by kernel_rfl)
def lp:aT:=[(kH,oK),(ql,BU),(mD,sP),(oL,jQ (fun A B=>jO A B) fun A B=>[nl A<2^38,nl B<2^38])]
noncomputable abbrev uo:Code:=part (au gV) [1,1,0,0,0]
noncomputable abbrev qZ:Code:=part uo [1,0]
noncomputable abbrev oY:Code:=part qZ [1,1,0,1,0]
noncomputable abbrev FF:Code:=part oY [0,0,0]
theorem nS:bp P lp:=aK sj (aK Cg (aK wm (aK FZ br)))
theorem YI {A B:Nat}:aJ T lp [] 60 [0,1] (before (au gV) [1,1,0]) ⟨aM 0 [.mag A,.mag B],[],0⟩=
  some (aa.ag [nl A<2^40,nl B<2^40] (aa.leaf ah.normal ([mag A,mag B],[]))):=by kernel_rfl
theorem Sa {A B:Nat}:aJ T lp [18] 60 [0,1] [part uo [0]] ⟨aD [0,1] [.mag A,.mag B],[],0⟩=
  some (aa.fork (decide ((↑(nl B):Int)>(0:Int))) (aa.leaf ah.normal ([mag A,mag B],[])) (aa.leaf (ah.exit 0) ([mag A,mag B],[]))):=by kernel_rfl
theorem T9 {A B:Nat}:aJ T lp [30,32] 60 [0,1,5,7,32] (before qZ [1,1,0,1]) ⟨aD [0,1] [.mag A,.mag B],[],0⟩=
  let c2:AV:=int IntKind.u64 (↑(if ew B=true then B else 0):Int);let c1:AV:=int IntKind.u64 (↑(if ew A=true then A else 0):Int);some (aa.fork (ew A) (aa.ag [ew A=true] (aa.leaf ah.normal ([mag A,mag B,c1,c2,AV.bool (bif true then ew B else false)],[]))) (aa.ag [ew A=false] (aa.leaf ah.normal ([mag A,mag B,c1,c2,AV.bool false],[])))):=by kernel_rfl
theorem QG {x y:Nat}:aJ T lp [34] 60 [5,7] [FF] ⟨aD [5,7] [.int .u64 x,.int .u64 y],[],0⟩=
  let c1 : Int := (↑y : Int); some (aa.fork (c1 != (0 : Int)) (aa.ag [c1 ≠ (0 : Int)] (aa.leaf ah.normal ([int IntKind.u64 c1, int IntKind.u64 ((↑x : Int).tmod c1)], []))) (aa.leaf (ah.exit 2) ([int IntKind.u64 (↑x : Int), int IntKind.u64 c1], []))) := by kernel_rfl
theorem Uy {x y:Nat}:aJ T lp [] 60 [4] [part oY [1]] ⟨aD [5,7] [.int .u64 x,.int .u64 y],[],0⟩=
  some (aa.ag [(0:Int)≤(↑x:Int)∧(↑x:Int)<(2:Int)^64] (aa.leaf ah.ret ([mag (↑x:Int).toNat],[]))):=by kernel_rfl
theorem Nx {A B:Nat}:aJ T lp [] 60 [0,1] (behind qZ [1,1,0,1]) ⟨aD [0,1] [.mag A,.mag B],[],0⟩=
  some (aa.ag [nl A<2^38,nl B<2^38] (aa.leaf ah.normal ([mag B,mag (if B=0 then 0 else A%B)],[]))):=by kernel_rfl
theorem Mu {A B:Nat}:b7 T lp [] 60 gV (behind (au gV) [1,1,0]) ⟨aD [0,1] [.mag A,.mag B],[],0⟩=
  some (aa.leaf ah.ret [mag A]):=by kernel_rfl
theorem Zo {s:aE} {ls l:List Nat} {vs us:List AV} {os:aA} (hv:aR (l++ls) s=some (us++vs,os)) (hl:us.length=l.length) (hk:aU us=[]):aR ls s=some (vs,os):=by
 unfold aR at hv ⊢
 simp only[Option.some.injEq,Prod.mk.injEq,A4]at hv ⊢
 obtain⟨h1,h2⟩:=hv
 obtain⟨h3,h4⟩:=List.append_inj h1 (by rw[Be,hl])
 subst h4
 refine⟨rfl,?_⟩
 rw[←h2,h3,GV,hk,List.nil_append]
theorem Rb {A B:Nat} (hA:nl A<2^38) (hB:nl B<2^38) (K:Nat):aB P uZ K [.mag A,.mag B] [] (aG (.mag (Nat.gcd A B)) []):=by
 refine fZ hT SK rfl (of_decide_eq_true (by kernel_rfl)) rfl (fun _ c h0=>?_) K []
 have hk0:=xy h0
 refine aj.hole [1,1,0] (by kernel_rfl) (aC.aV hT nS hm 60 [0,1] YI (by kernel_rfl) ?_)
 simp only[aa.all,az]
 refine⟨⟨by omega,by omega⟩,fun s' hv=>bK ?_⟩
 refine aj.fl (i:=0) (y:=uo) (by kernel_rfl) [0,1] 0 (h0 0) (fun p:Nat×Nat=>[.mag p.1,.mag p.2]) (fun _=>[]) (fun _=>rfl) (fun _=>trivial)
  (fun p=>Nat.gcd p.1 p.2=Nat.gcd A B∧nl p.1<2^38∧nl p.2<2^38) (fun p=>p.2) (A,B) hv ⟨rfl,hA,hB⟩ ?_
 rintro⟨X,Y⟩ ⟨hg,hX,hY⟩
 simp only at hg hX hY
 have hstep:∀{X Y:Nat},Y≠0→Nat.gcd Y (X%Y)=Nat.gcd X Y:=fun {X Y} _=>by rw[Nat.gcd_comm X Y,Nat.gcd_rec Y X,Nat.gcd_comm]
 refine aj.hole [0] (by kernel_rfl) (show aj P c gV.ntmps (part uo [0]) _ _ from aj.aV hT nS hm 60 [0,1] Sa (by kernel_rfl) ?_)
 simp only[aa.all,decide_eq_true_eq,decide_eq_false_iff_not]
 refine⟨fun hb s' hv=>bK ?_,fun hb s' hv=>nr (dM ?_)⟩
 ·have hY0:Y≠0:=eL.1 (by omega)
  have hlt:=Nat.mod_lt X (show 0<Y by omega)
  show aj P c gV.ntmps (part uo [1]) s' _
  refine aj.mq (i:=1) (y:=qZ) (by kernel_rfl) ?_
  refine aj.hole [1,1,0,1] (by kernel_rfl) (aC.dB hT nS hm 60 hv (h0 0) rfl trivial [0,1,5,7,32] T9 (by kernel_rfl) (by kernel_rfl) ?_)
  simp only[aa.all,az]
  have fin:∀{s':aE} {Q:ah→aE→Prop},aR [0,1] s'=some ([.mag X,.mag Y],[])→(∀s',aR [0,1] s'=some ([.mag Y,.mag (X%Y)],[])→Q .normal s')→aC P c gV.ntmps (behind qZ [1,1,0,1]) s' Q:=by
   intro s' Q hv h
   refine aC.dB hT nS hm 60 hv (h0 0) rfl trivial [0,1] Nx (by kernel_rfl) (by kernel_rfl) ?_
   simp only[aa.all,az]
   exact⟨⟨hX,hY⟩,fun s' hv=>h s' (cC hv (by rw[if_neg hY0]) rfl)⟩
  have good:∀{s':aE},aR [0,1] s'=some ([.mag Y,.mag (X%Y)],[])→∃k:Nat×Nat,aR [0,1] s'=some ([.mag k.1,.mag k.2],[])∧(Nat.gcd k.1 k.2=Nat.gcd A B∧nl k.1<2^38∧nl k.2<2^38)∧k.2<Y:=
   fun hv=>⟨(Y,X%Y),hv,⟨by rw[←hg];exact hstep hY0,hY,Nat.lt_of_le_of_lt (fA (Nat.le_of_lt hlt)) hY⟩,hlt⟩
  refine⟨fun hf=>⟨hf,fun s' hv=>bK ?_⟩,fun hf=>⟨hf,fun s' hv=>bK ?_⟩⟩
  ·refine aj.cond (b:=.tmp 32) (t:=ew Y) (x:=oY) (y:=.skip) (ux hv rfl rfl) (fun hf2=>?_) (fun _=>aj.skip ?_)
   ·rw[if_pos hf,if_pos hf2]at hv
    have hX64:X<2^64:=by unfold ew at hf;simpa using hf
    have hY64:Y<2^64:=by unfold ew at hf2;simpa using hf2
    have hv:=Zo (l:=[0,1]) (us:=[.mag X,.mag Y]) (fS (ls:=[0,1,5,7]) (vs:=[.mag X,.mag Y,.int .u64 (X:Nat),.int .u64 (Y:Nat)]) hv rfl rfl) rfl rfl
    refine aj.hole [0] (by kernel_rfl) ?_
    show aj P c gV.ntmps (part oY [0]) s' _
    refine aj.fl (i:=2) (y:=FF) (by kernel_rfl) [5,7] 0 (h0 0) (fun p:Nat×Nat=>[.int .u64 (p.1:Nat),.int .u64 (p.2:Nat)]) (fun _=>[]) (fun _=>rfl) (fun _=>trivial)
     (fun p=>Nat.gcd p.1 p.2=Nat.gcd A B∧p.1<2^64∧p.2<2^64) (fun p=>p.2) (X,Y) hv ⟨hg,hX64,hY64⟩ ?_
    rintro⟨x,y⟩ ⟨hg,hx,hy⟩
    simp only at hg hx hy
    refine aj.aV hT nS hm 60 [5,7] QG (by kernel_rfl) ?_
    simp only[aa.all,az,bne_iff_ne,ne_eq,bne_eq_false_iff_eq]
    refine⟨fun hb=>⟨hb,fun s' hv=>bK ?_⟩,fun hb s' hv=>dM ?_⟩
    ·have hy0:y≠0:=by omega
     have hlt:=Nat.mod_lt x (show 0<y by omega)
     exact⟨(y,x%y),cC hv (by rw[←Int.ofNat_tmod]) rfl,⟨by rw[←hg];exact hstep hy0,hy,by simp only;omega⟩,hlt⟩
    ·have hy0:y=0:=by omega
     show aC P c gV.ntmps [part oY [1]] s' _
     refine aC.dB hT nS hm 60 hv (h0 0) rfl trivial [4] Uy (by kernel_rfl) (by kernel_rfl) ?_
     simp only[aa.all,az,Int.toNat_natCast]
     refine⟨by omega,fun s' hv=>?_⟩
     rw[show x=Nat.gcd A B by rw[←hg,hy0,Nat.gcd_zero_right]]at hv
     exact(.inl (eH (us:=[.mag (Nat.gcd A B)]) (.inr rfl) hv (by kernel_rfl) (cD rfl)))
   ·exact bK (fin (fS (ls:=[0,1]) (vs:=[.mag X,.mag Y]) hv rfl rfl) fun s' hv=>good hv)
  ·refine aj.cond (b:=.tmp 32) (t:=false) (x:=oY) (y:=.skip) (ux hv rfl rfl) (fun h=>by simp at h) (fun _=>aj.skip ?_)
   exact bK (fin (fS (ls:=[0,1]) (vs:=[.mag X,.mag Y]) hv rfl rfl) fun s' hv=>good hv)
 ·have hY0:Y=0:=gm.1 (by omega)
  show aC P c gV.ntmps (behind (au gV) [1,1,0]) s' _
  refine aC.g8 hT nS hm 60 hv (h0 0) rfl trivial Mu (by kernel_rfl) (by kernel_rfl) (cD ?_)
  rw[←hg,hY0,Nat.gcd_zero_right]
def Ic:Spec:=jQ (fun A B=>.mag (Nat.gcd A B)) fun A B=>[nl A<2^38,nl B<2^38]
theorem WM:∀K args pre r,Ic K args pre=some r→aB P uZ K args pre r:=lS fun h=>Rb h.1 h.2
end Go.Am.B
