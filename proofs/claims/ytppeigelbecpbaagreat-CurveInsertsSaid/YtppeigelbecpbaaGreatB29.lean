/- ref01.Gcd: Euclid, on words when both are words. -/
import Derived.Test.YtppeigelbecpbaaGreatB28
set_option linter.unusedVariables false
namespace Go.Am.B
open Go Go.Am.N AV
theorem aeF:aP P yl jw (au jw):=aQ ahC (by kernel_rfl) (by kernel_rfl) (by kernel_rfl)
def o6:aS:=[(nr,uq),(tX,II),(oO,yc),(uD,mN (fun A B=>lW A B) fun A B=>[nl A<2^38,nl B<2^38])]
noncomputable abbrev xU:Code:=part (au jw) [1,1,0,0,0]
noncomputable abbrev wE:Code:=part xU [1,0]
noncomputable abbrev uU:Code:=part wE [1,1,0,1,0]
noncomputable abbrev I6:Code:=part uU [0,0,0]
theorem rz:aW P o6:=aH wF (aH JW (aH Bt (aH Qo bp)))
theorem Yk {A B:Nat}:aJ T o6 [] 60 [0,1] (before (au jw) [1,1,0]) ⟨aN 0 [.mag A,.mag B],[],0⟩=
  some (aa.ag [nl A<2^40,nl B<2^40] (aa.leaf ak.normal ([mag A,mag B],[]))):=by kernel_rfl
theorem ab8 {A B:Nat}:aJ T o6 [18] 60 [0,1] [part xU [0]] ⟨aB [0,1] [.mag A,.mag B],[],0⟩=
  some (aa.fork (decide ((↑(nl B):Int)>(0:Int))) (aa.leaf ak.normal ([mag A,mag B],[])) (aa.leaf (ak.exit 0) ([mag A,mag B],[]))):=by kernel_rfl
theorem agi {A B:Nat}:aJ T o6 [30,32] 60 [0,1,5,7,32] (before wE [1,1,0,1]) ⟨aB [0,1] [.mag A,.mag B],[],0⟩=
  let c2:AV:=int IntKind.u64 (↑(if fy B=true then B else 0):Int);let c1:AV:=int IntKind.u64 (↑(if fy A=true then A else 0):Int);some (aa.fork (fy A) (aa.ag [fy A=true] (aa.leaf ak.normal ([mag A,mag B,c1,c2,AV.bool (bif true then fy B else false)],[]))) (aa.ag [fy A=false] (aa.leaf ak.normal ([mag A,mag B,c1,c2,AV.bool false],[])))):=by kernel_rfl
theorem adR {x y:Nat}:aJ T o6 [34] 60 [5,7] [I6] ⟨aB [5,7] [.int .u64 x,.int .u64 y],[],0⟩=
  let c1 : Int := (↑y : Int); some (aa.fork (c1 != (0 : Int)) (aa.ag [c1 ≠ (0 : Int)] (aa.leaf ak.normal ([int IntKind.u64 c1, int IntKind.u64 ((↑x : Int).tmod c1)], []))) (aa.leaf (ak.exit 2) ([int IntKind.u64 (↑x : Int), int IntKind.u64 c1], []))) := by kernel_rfl
theorem aiI {x y:Nat}:aJ T o6 [] 60 [4] [part uU [1]] ⟨aB [5,7] [.int .u64 x,.int .u64 y],[],0⟩=
  some (aa.ag [(0:Int)≤(↑x:Int)∧(↑x:Int)<(2:Int)^64] (aa.leaf ak.ret ([mag (↑x:Int).toNat],[]))):=by kernel_rfl
theorem XV {A B:Nat}:aJ T o6 [] 60 [0,1] (behind wE [1,1,0,1]) ⟨aB [0,1] [.mag A,.mag B],[],0⟩=
  some (aa.ag [nl A<2^38,nl B<2^38] (aa.leaf ak.normal ([mag B,mag (if B=0 then 0 else A%B)],[]))):=by kernel_rfl
theorem WK {A B:Nat}:bY T o6 [] 60 jw (behind (au jw) [1,1,0]) ⟨aB [0,1] [.mag A,.mag B],[],0⟩=
  some (aa.leaf ak.ret [mag A]):=by kernel_rfl
theorem Ya {s:aI} {ls l:List Nat} {vs us:List AV} {os:aC} (hv:aY (l++ls) s=some (us++vs,os)) (hl:us.length=l.length) (hk:bf us=[]):aY ls s=some (vs,os):=by
 unfold aY at hv ⊢
 simp only[Option.some.injEq,Prod.mk.injEq,EB]at hv ⊢
 obtain⟨h1,h2⟩:=hv
 obtain⟨h3,h4⟩:=List.append_inj h1 (by rw[El,hl])
 subst h4
 refine⟨rfl,?_⟩
 rw[←h2,h3,N9,hk,List.nil_append]
theorem Zf {A B:Nat} (hA:nl A<2^38) (hB:nl B<2^38) (K:Nat):aA P yl K [.mag A,.mag B] [] (aG (.mag (Nat.gcd A B)) []):=by
 refine gk hT aeF rfl (of_decide_eq_true (by kernel_rfl)) rfl (fun _ c h0=>?_) K []
 have hk0:=Dv h0
 refine aq.hole [1,1,0] (by kernel_rfl) (aD.bk hT rz hm 60 [0,1] Yk (by kernel_rfl) ?_)
 simp only[aa.all,ax]
 refine⟨⟨by omega,by omega⟩,fun s' hv=>b7 ?_⟩
 refine aq.gv (i:=0) (y:=xU) (by kernel_rfl) [0,1] 0 (h0 0) (fun p:Nat×Nat=>[.mag p.1,.mag p.2]) (fun _=>[]) (fun _=>rfl) (fun _=>trivial)
  (fun p=>Nat.gcd p.1 p.2=Nat.gcd A B∧nl p.1<2^38∧nl p.2<2^38) (fun p=>p.2) (A,B) hv ⟨rfl,hA,hB⟩ ?_
 rintro⟨X,Y⟩ ⟨hg,hX,hY⟩
 simp only at hg hX hY
 have hstep:∀{X Y:Nat},Y≠0→Nat.gcd Y (X%Y)=Nat.gcd X Y:=fun {X Y} _=>by rw[Nat.gcd_comm X Y,Nat.gcd_rec Y X,Nat.gcd_comm]
 refine aq.hole [0] (by kernel_rfl) (show aq P c jw.ntmps (part xU [0]) _ _ from aq.bk hT rz hm 60 [0,1] ab8 (by kernel_rfl) ?_)
 simp only[aa.all,decide_eq_true_eq,decide_eq_false_iff_not]
 refine⟨fun hb s' hv=>b7 ?_,fun hb s' hv=>qF (eO ?_)⟩
 ·have hY0:Y≠0:=fB.1 (by omega)
  have hlt:=Nat.mod_lt X (show 0<Y by omega)
  show aq P c jw.ntmps (part xU [1]) s' _
  refine aq.ot (i:=1) (y:=wE) (by kernel_rfl) ?_
  refine aq.hole [1,1,0,1] (by kernel_rfl) (aD.eE hT rz hm 60 hv (h0 0) rfl trivial [0,1,5,7,32] agi (by kernel_rfl) (by kernel_rfl) ?_)
  simp only[aa.all,ax]
  have fin:∀{s':aI} {Q:ak→aI→Prop},aY [0,1] s'=some ([.mag X,.mag Y],[])→(∀s',aY [0,1] s'=some ([.mag Y,.mag (X%Y)],[])→Q .normal s')→aD P c jw.ntmps (behind wE [1,1,0,1]) s' Q:=by
   intro s' Q hv h
   refine aD.eE hT rz hm 60 hv (h0 0) rfl trivial [0,1] XV (by kernel_rfl) (by kernel_rfl) ?_
   simp only[aa.all,ax]
   exact⟨⟨hX,hY⟩,fun s' hv=>h s' (dh hv (by rw[if_neg hY0]) rfl)⟩
  have good:∀{s':aI},aY [0,1] s'=some ([.mag Y,.mag (X%Y)],[])→∃k:Nat×Nat,aY [0,1] s'=some ([.mag k.1,.mag k.2],[])∧(Nat.gcd k.1 k.2=Nat.gcd A B∧nl k.1<2^38∧nl k.2<2^38)∧k.2<Y:=
   fun hv=>⟨(Y,X%Y),hv,⟨by rw[←hg];exact hstep hY0,hY,Nat.lt_of_le_of_lt (gz (Nat.le_of_lt hlt)) hY⟩,hlt⟩
  refine⟨fun hf=>⟨hf,fun s' hv=>b7 ?_⟩,fun hf=>⟨hf,fun s' hv=>b7 ?_⟩⟩
  ·refine aq.cond (b:=.tmp 32) (t:=fy Y) (x:=uU) (y:=.skip) (yh hv rfl rfl) (fun hf2=>?_) (fun _=>aq.skip ?_)
   ·rw[if_pos hf,if_pos hf2]at hv
    have hX64:X<2^64:=by unfold fy at hf;simpa using hf
    have hY64:Y<2^64:=by unfold fy at hf2;simpa using hf2
    have hv:=Ya (l:=[0,1]) (us:=[.mag X,.mag Y]) (gZ (ls:=[0,1,5,7]) (vs:=[.mag X,.mag Y,.int .u64 (X:Nat),.int .u64 (Y:Nat)]) hv rfl rfl) rfl rfl
    refine aq.hole [0] (by kernel_rfl) ?_
    show aq P c jw.ntmps (part uU [0]) s' _
    refine aq.gv (i:=2) (y:=I6) (by kernel_rfl) [5,7] 0 (h0 0) (fun p:Nat×Nat=>[.int .u64 (p.1:Nat),.int .u64 (p.2:Nat)]) (fun _=>[]) (fun _=>rfl) (fun _=>trivial)
     (fun p=>Nat.gcd p.1 p.2=Nat.gcd A B∧p.1<2^64∧p.2<2^64) (fun p=>p.2) (X,Y) hv ⟨hg,hX64,hY64⟩ ?_
    rintro⟨x,y⟩ ⟨hg,hx,hy⟩
    simp only at hg hx hy
    refine aq.bk hT rz hm 60 [5,7] adR (by kernel_rfl) ?_
    simp only[aa.all,ax,bne_iff_ne,ne_eq,bne_eq_false_iff_eq]
    refine⟨fun hb=>⟨hb,fun s' hv=>b7 ?_⟩,fun hb s' hv=>eO ?_⟩
    ·have hy0:y≠0:=by omega
     have hlt:=Nat.mod_lt x (show 0<y by omega)
     exact⟨(y,x%y),dh hv (by rw[←Int.ofNat_tmod]) rfl,⟨by rw[←hg];exact hstep hy0,hy,by simp only;omega⟩,hlt⟩
    ·have hy0:y=0:=by omega
     show aD P c jw.ntmps [part uU [1]] s' _
     refine aD.eE hT rz hm 60 hv (h0 0) rfl trivial [4] aiI (by kernel_rfl) (by kernel_rfl) ?_
     simp only[aa.all,ax,Int.toNat_natCast]
     refine⟨by omega,fun s' hv=>?_⟩
     rw[show x=Nat.gcd A B by rw[←hg,hy0,Nat.gcd_zero_right]]at hv
     exact(.inl (fJ (us:=[.mag (Nat.gcd A B)]) (.inr rfl) hv (by kernel_rfl) (cX rfl)))
   ·exact b7 (fin (gZ (ls:=[0,1]) (vs:=[.mag X,.mag Y]) hv rfl rfl) fun s' hv=>good hv)
  ·refine aq.cond (b:=.tmp 32) (t:=false) (x:=uU) (y:=.skip) (yh hv rfl rfl) (fun h=>by simp at h) (fun _=>aq.skip ?_)
   exact b7 (fin (gZ (ls:=[0,1]) (vs:=[.mag X,.mag Y]) hv rfl rfl) fun s' hv=>good hv)
 ·have hY0:Y=0:=iL.1 (by omega)
  show aD P c jw.ntmps (behind (au jw) [1,1,0]) s' _
  refine aD.jr hT rz hm 60 hv (h0 0) rfl trivial WK (by kernel_rfl) (by kernel_rfl) (cX ?_)
  rw[←hg,hY0,Nat.gcd_zero_right]
def NM:Spec:=mN (fun A B=>.mag (Nat.gcd A B)) fun A B=>[nl A<2^38,nl B<2^38]
theorem Tr:∀K args pre r,NM K args pre=some r→aA P yl K args pre r:=pO fun h=>Zf h.1 h.2
end Go.Am.B
