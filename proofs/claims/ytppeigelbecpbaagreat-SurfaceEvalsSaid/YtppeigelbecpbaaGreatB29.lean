/- ref01.Gcd: Euclid, on words when both are words. -/
import Derived.Test.YtppeigelbecpbaaGreatB28
set_option linter.unusedVariables false
namespace Go.Am.B
open Go Go.Am.N AV
theorem abw:aO P uQ iI (aq iI):=aP RK (by kernel_rfl) (by kernel_rfl) (by kernel_rfl)
def mM:aS:=[(l6,ry),(rB,EL),(nR,vC),(rC,kq (fun A B=>kB A B) fun A B=>[nl A<2^38,nl B<2^38])]
noncomputable abbrev sB:Code:=part (aq iI) [1,1,0,0,0]
noncomputable abbrev v8:Code:=part sB [1,0]
noncomputable abbrev qV:Code:=part v8 [1,1,0,1,0]
noncomputable abbrev L6:Code:=part qV [0,0,0]
theorem pB:aW P mM:=aD x4 (aD Mh (aD zl (aD Hr aX)))
theorem WU {A B:Nat}:aG T mM [] 60 [0,1] (before (aq iI) [1,1,0]) ⟨aM 0 [.mag A,.mag B],[],0⟩=
  some (aa.af [nl A<2^40,nl B<2^40] (aa.leaf aj.normal ([mag A,mag B],[]))):=by kernel_rfl
theorem S9 {A B:Nat}:aG T mM [18] 60 [0,1] [part sB [0]] ⟨aB [0,1] [.mag A,.mag B],[],0⟩=
  some (aa.fork (decide ((↑(nl B):Int)>(0:Int))) (aa.leaf aj.normal ([mag A,mag B],[])) (aa.leaf (aj.exit 0) ([mag A,mag B],[]))):=by kernel_rfl
theorem O9 {A B:Nat}:aG T mM [30,32] 60 [0,1,5,7,32] (before v8 [1,1,0,1]) ⟨aB [0,1] [.mag A,.mag B],[],0⟩=
  let c2:AV:=int IntKind.u64 (↑(if eO B=true then B else 0):Int);let c1:AV:=int IntKind.u64 (↑(if eO A=true then A else 0):Int);some (aa.fork (eO A) (aa.af [eO A=true] (aa.leaf aj.normal ([mag A,mag B,c1,c2,AV.bool (bif true then eO B else false)],[]))) (aa.af [eO A=false] (aa.leaf aj.normal ([mag A,mag B,c1,c2,AV.bool false],[])))):=by kernel_rfl
theorem UJ {x y:Nat}:aG T mM [34] 60 [5,7] [L6] ⟨aB [5,7] [.int .u64 x,.int .u64 y],[],0⟩=
  let c1 : Int := (↑y : Int); some (aa.fork (c1 != (0 : Int)) (aa.af [c1 ≠ (0 : Int)] (aa.leaf aj.normal ([int IntKind.u64 c1, int IntKind.u64 ((↑x : Int).tmod c1)], []))) (aa.leaf (aj.exit 2) ([int IntKind.u64 (↑x : Int), int IntKind.u64 c1], []))) := by kernel_rfl
theorem Og {x y:Nat}:aG T mM [] 60 [4] [part qV [1]] ⟨aB [5,7] [.int .u64 x,.int .u64 y],[],0⟩=
  some (aa.af [(0:Int)≤(↑x:Int)∧(↑x:Int)<(2:Int)^64] (aa.leaf aj.ret ([mag (↑x:Int).toNat],[]))):=by kernel_rfl
theorem Qs {A B:Nat}:aG T mM [] 60 [0,1] (behind v8 [1,1,0,1]) ⟨aB [0,1] [.mag A,.mag B],[],0⟩=
  some (aa.af [nl A<2^38,nl B<2^38] (aa.leaf aj.normal ([mag B,mag (if B=0 then 0 else A%B)],[]))):=by kernel_rfl
theorem adS {A B:Nat}:bZ T mM [] 60 iI (behind (aq iI) [1,1,0]) ⟨aB [0,1] [.mag A,.mag B],[],0⟩=
  some (aa.leaf aj.ret [mag A]):=by kernel_rfl
theorem Y7 {s:aE} {ls l:List Nat} {vs us:List AV} {os:aA} (hv:aU (l++ls) s=some (us++vs,os)) (hl:us.length=l.length) (hk:aZ us=[]):aU ls s=some (vs,os):=by
 unfold aU at hv ⊢
 simp only[Option.some.injEq,Prod.mk.injEq,CN]at hv ⊢
 obtain⟨h1,h2⟩:=hv
 obtain⟨h3,h4⟩:=List.append_inj h1 (by rw[Di,hl])
 subst h4
 refine⟨rfl,?_⟩
 rw[←h2,h3,IC,hk,List.nil_append]
theorem ZW {A B:Nat} (hA:nl A<2^38) (hB:nl B<2^38) (K:Nat):az P uQ K [.mag A,.mag B] [] (aF (.mag (Nat.gcd A B)) []):=by
 refine eB hT abw rfl (of_decide_eq_true (by kernel_rfl)) rfl (fun _ c h0=>?_) K []
 have hk0:=Au h0
 refine ak.hole [1,1,0] (by kernel_rfl) (aC.bf hT pB hm 60 [0,1] WU (by kernel_rfl) ?_)
 simp only[aa.all,ax]
 refine⟨⟨by omega,by omega⟩,fun s' hv=>bX ?_⟩
 refine ak.fR (i:=0) (y:=sB) (by kernel_rfl) [0,1] 0 (h0 0) (fun p:Nat×Nat=>[.mag p.1,.mag p.2]) (fun _=>[]) (fun _=>rfl) (fun _=>trivial)
  (fun p=>Nat.gcd p.1 p.2=Nat.gcd A B∧nl p.1<2^38∧nl p.2<2^38) (fun p=>p.2) (A,B) hv ⟨rfl,hA,hB⟩ ?_
 rintro⟨X,Y⟩ ⟨hg,hX,hY⟩
 simp only at hg hX hY
 have hstep:∀{X Y:Nat},Y≠0→Nat.gcd Y (X%Y)=Nat.gcd X Y:=fun {X Y} _=>by rw[Nat.gcd_comm X Y,Nat.gcd_rec Y X,Nat.gcd_comm]
 refine ak.hole [0] (by kernel_rfl) (show ak P c iI.ntmps (part sB [0]) _ _ from ak.bf hT pB hm 60 [0,1] S9 (by kernel_rfl) ?_)
 simp only[aa.all,decide_eq_true_eq,decide_eq_false_iff_not]
 refine⟨fun hb s' hv=>bX ?_,fun hb s' hv=>oN (ef ?_)⟩
 ·have hY0:Y≠0:=eV.1 (by omega)
  have hlt:=Nat.mod_lt X (show 0<Y by omega)
  show ak P c iI.ntmps (part sB [1]) s' _
  refine ak.nE (i:=1) (y:=v8) (by kernel_rfl) ?_
  refine ak.hole [1,1,0,1] (by kernel_rfl) (aC.dS hT pB hm 60 hv (h0 0) rfl trivial [0,1,5,7,32] O9 (by kernel_rfl) (by kernel_rfl) ?_)
  simp only[aa.all,ax]
  have fin:∀{s':aE} {Q:aj→aE→Prop},aU [0,1] s'=some ([.mag X,.mag Y],[])→(∀s',aU [0,1] s'=some ([.mag Y,.mag (X%Y)],[])→Q .normal s')→aC P c iI.ntmps (behind v8 [1,1,0,1]) s' Q:=by
   intro s' Q hv h
   refine aC.dS hT pB hm 60 hv (h0 0) rfl trivial [0,1] Qs (by kernel_rfl) (by kernel_rfl) ?_
   simp only[aa.all,ax]
   exact⟨⟨hX,hY⟩,fun s' hv=>h s' (cO hv (by rw[if_neg hY0]) rfl)⟩
  have good:∀{s':aE},aU [0,1] s'=some ([.mag Y,.mag (X%Y)],[])→∃k:Nat×Nat,aU [0,1] s'=some ([.mag k.1,.mag k.2],[])∧(Nat.gcd k.1 k.2=Nat.gcd A B∧nl k.1<2^38∧nl k.2<2^38)∧k.2<Y:=
   fun hv=>⟨(Y,X%Y),hv,⟨by rw[←hg];exact hstep hY0,hY,Nat.lt_of_le_of_lt (fO (Nat.le_of_lt hlt)) hY⟩,hlt⟩
  refine⟨fun hf=>⟨hf,fun s' hv=>bX ?_⟩,fun hf=>⟨hf,fun s' hv=>bX ?_⟩⟩
  ·refine ak.cond (b:=.tmp 32) (t:=eO Y) (x:=qV) (y:=.skip) (ux hv rfl rfl) (fun hf2=>?_) (fun _=>ak.skip ?_)
   ·rw[if_pos hf,if_pos hf2]at hv
    have hX64:X<2^64:=by unfold eO at hf;simpa using hf
    have hY64:Y<2^64:=by unfold eO at hf2;simpa using hf2
    have hv:=Y7 (l:=[0,1]) (us:=[.mag X,.mag Y]) (gl (ls:=[0,1,5,7]) (vs:=[.mag X,.mag Y,.int .u64 (X:Nat),.int .u64 (Y:Nat)]) hv rfl rfl) rfl rfl
    refine ak.hole [0] (by kernel_rfl) ?_
    show ak P c iI.ntmps (part qV [0]) s' _
    refine ak.fR (i:=2) (y:=L6) (by kernel_rfl) [5,7] 0 (h0 0) (fun p:Nat×Nat=>[.int .u64 (p.1:Nat),.int .u64 (p.2:Nat)]) (fun _=>[]) (fun _=>rfl) (fun _=>trivial)
     (fun p=>Nat.gcd p.1 p.2=Nat.gcd A B∧p.1<2^64∧p.2<2^64) (fun p=>p.2) (X,Y) hv ⟨hg,hX64,hY64⟩ ?_
    rintro⟨x,y⟩ ⟨hg,hx,hy⟩
    simp only at hg hx hy
    refine ak.bf hT pB hm 60 [5,7] UJ (by kernel_rfl) ?_
    simp only[aa.all,ax,bne_iff_ne,ne_eq,bne_eq_false_iff_eq]
    refine⟨fun hb=>⟨hb,fun s' hv=>bX ?_⟩,fun hb s' hv=>ef ?_⟩
    ·have hy0:y≠0:=by omega
     have hlt:=Nat.mod_lt x (show 0<y by omega)
     exact⟨(y,x%y),cO hv (by rw[←Int.ofNat_tmod]) rfl,⟨by rw[←hg];exact hstep hy0,hy,by simp only;omega⟩,hlt⟩
    ·have hy0:y=0:=by omega
     show aC P c iI.ntmps [part qV [1]] s' _
     refine aC.dS hT pB hm 60 hv (h0 0) rfl trivial [4] Og (by kernel_rfl) (by kernel_rfl) ?_
     simp only[aa.all,ax,Int.toNat_natCast]
     refine⟨by omega,fun s' hv=>?_⟩
     rw[show x=Nat.gcd A B by rw[←hg,hy0,Nat.gcd_zero_right]]at hv
     exact(.inl (fk (us:=[.mag (Nat.gcd A B)]) (.inr rfl) hv (by kernel_rfl) (de rfl)))
   ·exact bX (fin (gl (ls:=[0,1]) (vs:=[.mag X,.mag Y]) hv rfl rfl) fun s' hv=>good hv)
  ·refine ak.cond (b:=.tmp 32) (t:=false) (x:=qV) (y:=.skip) (ux hv rfl rfl) (fun h=>by simp at h) (fun _=>ak.skip ?_)
   exact bX (fin (gl (ls:=[0,1]) (vs:=[.mag X,.mag Y]) hv rfl rfl) fun s' hv=>good hv)
 ·have hY0:Y=0:=gM.1 (by omega)
  show aC P c iI.ntmps (behind (aq iI) [1,1,0]) s' _
  refine aC.iM hT pB hm 60 hv (h0 0) rfl trivial adS (by kernel_rfl) (by kernel_rfl) (de ?_)
  rw[←hg,hY0,Nat.gcd_zero_right]
def MG:Spec:=kq (fun A B=>.mag (Nat.gcd A B)) fun A B=>[nl A<2^38,nl B<2^38]
theorem abY:∀K args pre r,MG K args pre=some r→az P uQ K args pre r:=mD fun h=>ZW h.1 h.2
end Go.Am.B
