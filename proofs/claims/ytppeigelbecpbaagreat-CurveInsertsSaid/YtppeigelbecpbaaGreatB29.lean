/- ref01.Gcd: Euclid, on words when both are words. -/
import Derived.Test.YtppeigelbecpbaaGreatB28
set_option linter.unusedVariables false
namespace Go.Am.B
open Go Go.Am.N AV
theorem afT:aP P zk jr (au jr):=aQ Va (by kernel_rfl) (by kernel_rfl) (by kernel_rfl)
def oo:aS:=[(nK,sX),(th,FI),(oI,wS),(s5,mh (fun A B=>mE A B) fun A B=>[nl A<2^38,nl B<2^38])]
noncomputable abbrev AP:Code:=part (au jr) [1,1,0,0,0]
noncomputable abbrev Aq:Code:=part AP [1,0]
noncomputable abbrev uz:Code:=part Aq [1,1,0,1,0]
noncomputable abbrev JE:Code:=part uz [0,0,0]
theorem rL:aY P oo:=aG wU (aG KB (aG Ca (aG KZ bq)))
theorem ahf {A B:Nat}:aJ T oo [] 60 [0,1] (before (au jr) [1,1,0]) ⟨aN 0 [.mag A,.mag B],[],0⟩=
  some (aa.ag [nl A<2^40,nl B<2^40] (aa.leaf ak.normal ([mag A,mag B],[]))):=by kernel_rfl
theorem VZ {A B:Nat}:aJ T oo [18] 60 [0,1] [part AP [0]] ⟨aB [0,1] [.mag A,.mag B],[],0⟩=
  some (aa.fork (decide ((↑(nl B):Int)>(0:Int))) (aa.leaf ak.normal ([mag A,mag B],[])) (aa.leaf (ak.exit 0) ([mag A,mag B],[]))):=by kernel_rfl
theorem V5 {A B:Nat}:aJ T oo [30,32] 60 [0,1,5,7,32] (before Aq [1,1,0,1]) ⟨aB [0,1] [.mag A,.mag B],[],0⟩=
  let c2:AV:=int IntKind.u64 (↑(if fy B=true then B else 0):Int);let c1:AV:=int IntKind.u64 (↑(if fy A=true then A else 0):Int);some (aa.fork (fy A) (aa.ag [fy A=true] (aa.leaf ak.normal ([mag A,mag B,c1,c2,AV.bool (bif true then fy B else false)],[]))) (aa.ag [fy A=false] (aa.leaf ak.normal ([mag A,mag B,c1,c2,AV.bool false],[])))):=by kernel_rfl
theorem ah3 {x y:Nat}:aJ T oo [34] 60 [5,7] [JE] ⟨aB [5,7] [.int .u64 x,.int .u64 y],[],0⟩=
  let c1 : Int := (↑y : Int); some (aa.fork (c1 != (0 : Int)) (aa.ag [c1 ≠ (0 : Int)] (aa.leaf ak.normal ([int IntKind.u64 c1, int IntKind.u64 ((↑x : Int).tmod c1)], []))) (aa.leaf (ak.exit 2) ([int IntKind.u64 (↑x : Int), int IntKind.u64 c1], []))) := by kernel_rfl
theorem Vi {x y:Nat}:aJ T oo [] 60 [4] [part uz [1]] ⟨aB [5,7] [.int .u64 x,.int .u64 y],[],0⟩=
  some (aa.ag [(0:Int)≤(↑x:Int)∧(↑x:Int)<(2:Int)^64] (aa.leaf ak.ret ([mag (↑x:Int).toNat],[]))):=by kernel_rfl
theorem Zh {A B:Nat}:aJ T oo [] 60 [0,1] (behind Aq [1,1,0,1]) ⟨aB [0,1] [.mag A,.mag B],[],0⟩=
  some (aa.ag [nl A<2^38,nl B<2^38] (aa.leaf ak.normal ([mag B,mag (if B=0 then 0 else A%B)],[]))):=by kernel_rfl
theorem ai6 {A B:Nat}:bY T oo [] 60 jr (behind (au jr) [1,1,0]) ⟨aB [0,1] [.mag A,.mag B],[],0⟩=
  some (aa.leaf ak.ret [mag A]):=by kernel_rfl
theorem ahO {s:aI} {ls l:List Nat} {vs us:List AV} {os:aC} (hv:aX (l++ls) s=some (us++vs,os)) (hl:us.length=l.length) (hk:bf us=[]):aX ls s=some (vs,os):=by
 unfold aX at hv ⊢
 simp only[Option.some.injEq,Prod.mk.injEq,F5]at hv ⊢
 obtain⟨h1,h2⟩:=hv
 obtain⟨h3,h4⟩:=List.append_inj h1 (by rw[Ig,hl])
 subst h4
 refine⟨rfl,?_⟩
 rw[←h2,h3,P6,hk,List.nil_append]
theorem agx {A B:Nat} (hA:nl A<2^38) (hB:nl B<2^38) (K:Nat):aA P zk K [.mag A,.mag B] [] (aH (.mag (Nat.gcd A B)) []):=by
 refine gi hT afT rfl (of_decide_eq_true (by kernel_rfl)) rfl (fun _ c h0=>?_) K []
 have hk0:=DZ h0
 refine aq.hole [1,1,0] (by kernel_rfl) (aD.bk hT rL hm 60 [0,1] ahf (by kernel_rfl) ?_)
 simp only[aa.all,ax]
 refine⟨⟨by omega,by omega⟩,fun s' hv=>bZ ?_⟩
 refine aq.gz (i:=0) (y:=AP) (by kernel_rfl) [0,1] 0 (h0 0) (fun p:Nat×Nat=>[.mag p.1,.mag p.2]) (fun _=>[]) (fun _=>rfl) (fun _=>trivial)
  (fun p=>Nat.gcd p.1 p.2=Nat.gcd A B∧nl p.1<2^38∧nl p.2<2^38) (fun p=>p.2) (A,B) hv ⟨rfl,hA,hB⟩ ?_
 rintro⟨X,Y⟩ ⟨hg,hX,hY⟩
 simp only at hg hX hY
 have hstep:∀{X Y:Nat},Y≠0→Nat.gcd Y (X%Y)=Nat.gcd X Y:=fun {X Y} _=>by rw[Nat.gcd_comm X Y,Nat.gcd_rec Y X,Nat.gcd_comm]
 refine aq.hole [0] (by kernel_rfl) (show aq P c jr.ntmps (part AP [0]) _ _ from aq.bk hT rL hm 60 [0,1] VZ (by kernel_rfl) ?_)
 simp only[aa.all,decide_eq_true_eq,decide_eq_false_iff_not]
 refine⟨fun hb s' hv=>bZ ?_,fun hb s' hv=>qa (eO ?_)⟩
 ·have hY0:Y≠0:=fF.1 (by omega)
  have hlt:=Nat.mod_lt X (show 0<Y by omega)
  show aq P c jr.ntmps (part AP [1]) s' _
  refine aq.oU (i:=1) (y:=Aq) (by kernel_rfl) ?_
  refine aq.hole [1,1,0,1] (by kernel_rfl) (aD.eE hT rL hm 60 hv (h0 0) rfl trivial [0,1,5,7,32] V5 (by kernel_rfl) (by kernel_rfl) ?_)
  simp only[aa.all,ax]
  have fin:∀{s':aI} {Q:ak→aI→Prop},aX [0,1] s'=some ([.mag X,.mag Y],[])→(∀s',aX [0,1] s'=some ([.mag Y,.mag (X%Y)],[])→Q .normal s')→aD P c jr.ntmps (behind Aq [1,1,0,1]) s' Q:=by
   intro s' Q hv h
   refine aD.eE hT rL hm 60 hv (h0 0) rfl trivial [0,1] Zh (by kernel_rfl) (by kernel_rfl) ?_
   simp only[aa.all,ax]
   exact⟨⟨hX,hY⟩,fun s' hv=>h s' (dg hv (by rw[if_neg hY0]) rfl)⟩
  have good:∀{s':aI},aX [0,1] s'=some ([.mag Y,.mag (X%Y)],[])→∃k:Nat×Nat,aX [0,1] s'=some ([.mag k.1,.mag k.2],[])∧(Nat.gcd k.1 k.2=Nat.gcd A B∧nl k.1<2^38∧nl k.2<2^38)∧k.2<Y:=
   fun hv=>⟨(Y,X%Y),hv,⟨by rw[←hg];exact hstep hY0,hY,Nat.lt_of_le_of_lt (gn (Nat.le_of_lt hlt)) hY⟩,hlt⟩
  refine⟨fun hf=>⟨hf,fun s' hv=>bZ ?_⟩,fun hf=>⟨hf,fun s' hv=>bZ ?_⟩⟩
  ·refine aq.cond (b:=.tmp 32) (t:=fy Y) (x:=uz) (y:=.skip) (yy hv rfl rfl) (fun hf2=>?_) (fun _=>aq.skip ?_)
   ·rw[if_pos hf,if_pos hf2]at hv
    have hX64:X<2^64:=by unfold fy at hf;simpa using hf
    have hY64:Y<2^64:=by unfold fy at hf2;simpa using hf2
    have hv:=ahO (l:=[0,1]) (us:=[.mag X,.mag Y]) (gQ (ls:=[0,1,5,7]) (vs:=[.mag X,.mag Y,.int .u64 (X:Nat),.int .u64 (Y:Nat)]) hv rfl rfl) rfl rfl
    refine aq.hole [0] (by kernel_rfl) ?_
    show aq P c jr.ntmps (part uz [0]) s' _
    refine aq.gz (i:=2) (y:=JE) (by kernel_rfl) [5,7] 0 (h0 0) (fun p:Nat×Nat=>[.int .u64 (p.1:Nat),.int .u64 (p.2:Nat)]) (fun _=>[]) (fun _=>rfl) (fun _=>trivial)
     (fun p=>Nat.gcd p.1 p.2=Nat.gcd A B∧p.1<2^64∧p.2<2^64) (fun p=>p.2) (X,Y) hv ⟨hg,hX64,hY64⟩ ?_
    rintro⟨x,y⟩ ⟨hg,hx,hy⟩
    simp only at hg hx hy
    refine aq.bk hT rL hm 60 [5,7] ah3 (by kernel_rfl) ?_
    simp only[aa.all,ax,bne_iff_ne,ne_eq,bne_eq_false_iff_eq]
    refine⟨fun hb=>⟨hb,fun s' hv=>bZ ?_⟩,fun hb s' hv=>eO ?_⟩
    ·have hy0:y≠0:=by omega
     have hlt:=Nat.mod_lt x (show 0<y by omega)
     exact⟨(y,x%y),dg hv (by rw[←Int.ofNat_tmod]) rfl,⟨by rw[←hg];exact hstep hy0,hy,by simp only;omega⟩,hlt⟩
    ·have hy0:y=0:=by omega
     show aD P c jr.ntmps [part uz [1]] s' _
     refine aD.eE hT rL hm 60 hv (h0 0) rfl trivial [4] Vi (by kernel_rfl) (by kernel_rfl) ?_
     simp only[aa.all,ax,Int.toNat_natCast]
     refine⟨by omega,fun s' hv=>?_⟩
     rw[show x=Nat.gcd A B by rw[←hg,hy0,Nat.gcd_zero_right]]at hv
     exact(.inl (fM (us:=[.mag (Nat.gcd A B)]) (.inr rfl) hv (by kernel_rfl) (cY rfl)))
   ·exact bZ (fin (gQ (ls:=[0,1]) (vs:=[.mag X,.mag Y]) hv rfl rfl) fun s' hv=>good hv)
  ·refine aq.cond (b:=.tmp 32) (t:=false) (x:=uz) (y:=.skip) (yy hv rfl rfl) (fun h=>by simp at h) (fun _=>aq.skip ?_)
   exact bZ (fin (gQ (ls:=[0,1]) (vs:=[.mag X,.mag Y]) hv rfl rfl) fun s' hv=>good hv)
 ·have hY0:Y=0:=iC.1 (by omega)
  show aD P c jr.ntmps (behind (au jr) [1,1,0]) s' _
  refine aD.jq hT rL hm 60 hv (h0 0) rfl trivial ai6 (by kernel_rfl) (by kernel_rfl) (cY ?_)
  rw[←hg,hY0,Nat.gcd_zero_right]
def Pq:Spec:=mh (fun A B=>.mag (Nat.gcd A B)) fun A B=>[nl A<2^38,nl B<2^38]
theorem aaE:∀K args pre r,Pq K args pre=some r→aA P zk K args pre r:=oQ fun h=>agx h.1 h.2
end Go.Am.B
