/- brepkernellaw06.RootsKnown. -/
import Derived.Test.YtolopdkjjlfgjaaGreatM37a
set_option linter.unusedVariables false
namespace Go.Am.B
open Go Go.Am.N AV af au IntKind Proofs.Tryz
theorem R3:bC 54 f54:=bD func54
theorem ab9:bF P Nt 54:=fj fun⟨⟨x,y⟩,a,_⟩ K _=>by
 have hW:=de
 have hle:∀u v:Rat,decide (gq u v<=0)=decide (u<=v):=fun u v=>decide_eq_decide.2 (by
  have:=uo (x:=u) (y:=v)
  unfold jl at this
  rwa [decide_eq_true_iff]at this)
 refine cB hT um hm R3 rfl br rfl 60 UK (fun _=>?_) K []
 simp only[af.all,aF,hle,bI,bO,cond_true]
 refine⟨fun h=>⟨⟨aa,aa,aa,aa,h,aa,aa,aa,aa⟩,ja ?_⟩,fun h=>⟨⟨aa,aa,aa,aa,h⟩,ja (decide_eq_false fun hh=>h hh.1).symm⟩⟩
 show _=vh x a y
 exact decide_eq_decide.2 ⟨fun h'=>⟨h,h'⟩,fun h'=>h'.2⟩
theorem ow:cm P l5:=jg (aM Y3 (aM T8 (aM Jn (aM Gw (aM ET (aM Yq (aM (NC cj) (aM Qr (aM aeD (aM ab9 um))))))))))
theorem MC {a:Rat}:∀{L:List (Rat×Nat)} {k:Nat},k<=L.length->(∀j,j<k->(eU L j).1<a)->(k=L.length\/¬(eU L k).1<a)->
  (k<L.length/\(eU L k).1=a->(iw a L).length=L.length/\∀j,eU (iw a L) j=if j=k then((eU L k).1,(eU L k).2+1)else eU L j)/\
  (¬(k<L.length/\(eU L k).1=a)->(iw a L).length=L.length+1/\∀j,eU (iw a L) j=if j<k then eU L j else if j=k then(a,1)else eU L (j-1))
 |[],k,h1,_,_=>by
  have hk:k=0:=Nat.le_zero.1 h1
  subst hk
  refine⟨fun h=>absurd h.1 (Nat.not_lt_zero _),fun _=>⟨rfl,fun j=>?_⟩⟩
  cases j with
  |zero=>rfl
  |succ j=>rfl
 |p::l,0,_,_,h3=>by
  have hp:¬p.1<a:=h3.resolve_left (by simp)
  unfold iw
  rw[if_neg hp]
  refine⟨fun h=>?_,fun h=>?_⟩
  ·rw[if_pos (show p.1=a from h.2)]
   refine⟨rfl,fun j=>?_⟩
   cases j with
   |zero=>rfl
   |succ j=>rfl
  ·rw[if_neg (show¬p.1=a from fun h0=>h ⟨by simp,h0⟩)]
   refine⟨rfl,fun j=>?_⟩
   cases j with
   |zero=>rfl
   |succ j=>rfl
 |p::l,k+1,h1,h2,h3=>by
  have hp:p.1<a:=h2 0 (Nat.succ_pos _)
  unfold iw
  rw[if_pos hp]
  obtain⟨i1,i2⟩:=MC (L:=l) (k:=k) (by rw[List.length_cons]at h1;omega) (fun j hj=>h2 (j+1) aa) (h3.imp (fun h=>by rw[List.length_cons]at h;omega) fun h=>h)
  refine⟨fun h=>?_,fun h=>?_⟩
  ·obtain⟨j1,j2⟩:=i1 ⟨by have:=h.1;rw[List.length_cons]at this;omega,h.2⟩
   refine⟨congrArg (·+1) j1,fun j=>?_⟩
   cases j with
   |zero=>rfl
   |succ j=>
    show eU (iw a l) j=_
    rw[j2]
    by_cases hj:j=k
    ·rw[if_pos hj,if_pos aa];rfl
    ·rw[if_neg hj,if_neg aa];rfl
  ·obtain⟨j1,j2⟩:=i2 fun h0=>h ⟨by rw[List.length_cons];omega,h0.2⟩
   refine⟨congrArg (·+1) j1,fun j=>?_⟩
   cases j with
   |zero=>rw[if_pos (Nat.succ_pos _)];rfl
   |succ j=>
    show eU (iw a l) j=_
    rw[j2]
    by_cases hj:j<k
    ·rw[if_pos hj,if_pos aa];rfl
    ·rw[if_neg hj,if_neg (show¬j+1<k+1 by omega)]
     by_cases hj2:j=k
     ·rw[if_pos hj2,if_pos aa]
     ·rw[if_neg hj2,if_neg aa]
      obtain⟨m,rfl⟩:∃m,j=m+1:=⟨j-1,aa⟩
      rfl
def mH (z:Nat->Int) (i j:Nat):Rat:=(eU (dJ z i) j).1
def mq (z:Nat->Int) (i j:Nat):Int:=((eU (dJ z i) j).2:Nat)
def Ee (n:Nat) (z:Nat->Int) (w:Int):Nat->List AV
 |0=>zw n z w
 |i+1=>qI n z w (cq z (i+1)) (dJ z (i+1)).length ((i+1:Nat):Int)
def DD (z:Nat->Int):Nat->aG
 |0=>xA
 |i+1=>pP (dJ z (i+1)).length (mH z (i+1)) (mq z (i+1))
theorem Al {n:Nat} {z:Nat->Int} {w:Int} {p:PP} {m m':Nat} {j:Int} {f:Nat->Rat} {g:Nat->Int} {k0 k1:Nat} {F G:Nat->AV} (hm:m=m') (hk:k0≠k1) (hf:∀i,i<m->F i=.rat (f i) 64) (hg:∀i,i<m->G i=.int .i64 (g i)):
  fu [] ([vK n z,.int .i64 w,.bool false,aP p,.own k0 3 0 m,.own k1 1 0 m,.int .i64 j],[(k1,⟨true,true,1,m,G⟩),(k0,⟨true,true,3,m,F⟩)]) (qI n z w p m' j) (pP m' f g) 2:=by
 subst hm
 have e0:look k0 [(k1,(⟨true,true,1,m,G⟩:aC)),(k0,⟨true,true,3,m,F⟩)]=some ⟨true,true,3,m,F⟩:=by simp[look,Ne.symm hk]
 have e1:look k1 [(k1,(⟨true,true,1,m,G⟩:aC)),(k0,⟨true,true,3,m,F⟩)]=some ⟨true,true,1,m,G⟩:=by simp[look]
 exact⟨[(0,k0),(1,k1)],by simp[jG,hk,Ne.symm hk],rfl,rfl,bX rfl e0 rfl (fun i hi=>cA (by rw[hf i hi];rfl) (hf i hi)) (bX rfl e1 rfl (fun i hi=>cA (by rw[hg i hi];rfl) (hg i hi)) trivial)⟩
theorem HM {z:Nat->Int} {i:Nat} (hi:i<6):vR ((cq z i).1-1) (2-1) (cq z i).2 (iA (dI (z i))).2:=by
 have h:=Ar (z:=z) i aa
 have h1:=h.len
 obtain⟨_,_,_,h2,h3⟩:=ab4 (q:=iA (dI (z i))) aa aa h.bd aa DC
 exact⟨h2,h3⟩
theorem CN {x y:Rat} {s:Nat} (hs:s<=ag):cY (fun i=>nth [AV.rat x 64,AV.rat y s] (.rat 0 1) (i+0)) 2 ag:=fun i hi=>by
 have hW:=de
 rcases(show i=0\/i=1 by omega)with rfl|rfl
 ·exact fh rfl aa
 ·exact fh rfl hs
theorem NH {z:Nat->Int} {i:Nat} (h:i<=6):(dJ z i).length<=6:=by
 have h1:=Pe (l:=ju z i)
 rw[M0]at h1
 show(m8 (ju z i)).length<=6
 omega
theorem Oh {z:Nat->Int}:∀{i j:Nat},(eU (dJ z i) j).2<=i
 |0,j=>by
  show(eU [] j).2<=0
  exact Nat.le_refl _
 |i+1,j=>by
  have hx:∀{a:Rat} {L:List (Rat×Nat)} {b:Nat},(∀j,(eU L j).2<=b)->∀j,(eU (iw a L) j).2<=b+1:=fun {a L}=>by
   induction L with
   |nil=>
    intro b _ j
    cases j with
    |zero=>exact Nat.succ_le_succ (Nat.zero_le _)
    |succ j=>exact Nat.zero_le _
   |cons p L ih=>
    intro b h j
    unfold iw
    split
    ·cases j with
     |zero=>exact Nat.le_succ_of_le (h 0)
     |succ j=>exact ih (fun j=>h (j+1)) j
    ·split
     ·cases j with
      |zero=>exact Nat.succ_le_succ (h 0)
      |succ j=>exact Nat.le_succ_of_le (h (j+1))
     ·cases j with
      |zero=>exact Nat.succ_le_succ (Nat.zero_le _)
      |succ j=>exact Nat.le_succ_of_le (h j)
  exact hx (fun j=>Oh) j
abbrev yD (c:Ctx) (n:Nat) (z:Nat->Int) (w:Int) (i:Nat):au->aL->Prop:=
 vj c gY (fun i:Nat=>Ee n z w i) (fun i=>DD z i) 2 (fun i=>i<=n) (fun i=>i=n) (fun i=>n-i) 0 (fun s'=>∃v,nh f10 gY (.bool true) v/\bp gY s'=some v) i
theorem Ld {c:Ctx} (hk:Kept [] c) {n:Nat} {z:Nat->Int} {w:Int} {i:Nat} (hi:i<n) (hn:n<=6):
  aA P c f10.ntmps (part k8 [1,1]) ⟨aH gY (qI n z w (cq z (i+1)) (dJ z (i+1)).length (i:Nat)),pP (dJ z (i+1)).length (mH z (i+1)) (mq z (i+1)),2⟩ (yD c n z w i):=by
 refine aA.bM hT ow hm 60 gY aap ah ?_
 simp only[af.all,aF]
 refine⟨aa,fun s' hv=>⟨i+1,aa,by dsimp only;omega,?_⟩⟩
 exact fu.le (Al (p:=cq z (i+1)) (k0:=0) (k1:=1) rfl (by decide) (fun _ _=>rfl) (fun _ _=>rfl)) hv hk
theorem acp {c:Ctx} (hk:Kept [] c) {n:Nat} {z:Nat->Int} {w:Int} (hn:n<=6):aA P c f10.ntmps k8 ⟨aH gY (zw n z w),xA,2⟩ (yD c n z w 0):=by
 have hW:=de
 refine aA.AS hT ow hm (y:=k8) [1,0] (j:=1) (x1:=nj) (zb:=part k8 [1,1]) ah ah ah ah hk (f1:=[27]) 60 gY 2 (fun _:Unit=>zw n z w) (fun _=>xA) (fun _=>0<n) ⟨_,Xq,?_⟩ (fun _ hG=>?_)
 ·simp only[af.all,bI,bO]
  refine⟨fun h2=>⟨(),aa,[(0,0)],rfl,rfl,rfl,fo trivial⟩,fun h2 s' hv=>⟨rfl,0,aa,fu.le ⟨[(0,0)],rfl,rfl,rfl,fo trivial⟩ hv hk⟩⟩
 ·have hmu:=HM (z:=z) (i:=0) (by decide)
  refine aA.yE hT ow hm (x:=nj) [1,1,1,0] (i:=2) (y:=part nj [1,1,1,0,0,0]) ah ah ah hk (f1:=[]) (f2:=[]) 60 oS 1 (fun _:Unit=>FR n z w (cq z 1)) (fun _=>Eo (dI (z 0))) (fun _=>True) (fun _=>True) (fun _=>0) (fun _=>False) ⟨_,abW,?_⟩ (fun _ _=>⟨_,aeh,?_⟩) (fun _ s' _ hle=>?_) (fun _ _ h=>h.elim)
  ·simp only[af.all,aF]
   refine⟨⟨⟨aa,by simpa using hG⟩,aa⟩,⟨aa,aa,aa,aa,by decide,by decide,by decide,?_,?_,aa,aa,aa,hmu⟩,(),trivial,[(0,20482)],rfl,rfl,rfl,fo trivial⟩
   ·intro i _;exact fh rfl (by rw[hW];decide)
   ·exact CN (by rw[hW];decide)
  ·simp only[af.all]
   exact⟨rfl,(),trivial,[(0,0)],rfl,rfl,rfl,fo trivial⟩
  ·refine aI.weak rfl hle (aI.bM hT ow hm 60 gY aaq ah ?_)
   simp only[af.all,aF]
   refine⟨by decide,by decide,fun s'' hv=>?_⟩
   exact aA.mP (fu.le (Al (p:=cq z 1) (m':=(dJ z 1).length) (f:=mH z 1) (g:=mq z 1) rfl (by decide) (fun i hi=>by obtain rfl:i=0:=Nat.lt_one_iff.1 hi;rfl) (fun i hi=>by obtain rfl:i=0:=Nat.lt_one_iff.1 hi;rfl)) hv hk) (Ld hk hG hn)
theorem Ys {c:Ctx} (hk:Kept [] c) {n:Nat} {z:Nat->Int} {w:Int} {i:Nat} (hi:i+1<=n) (hn:n<=6):aA P c f10.ntmps k8 ⟨aH gY (qI n z w (cq z (i+1)) (dJ z (i+1)).length ((i+1:Nat):Int)),pP (dJ z (i+1)).length (mH z (i+1)) (mq z (i+1)),2⟩ (yD c n z w (i+1)):=by
 have hW:=de
 have hl:=NH (z:=z) (i:=i+1) aa
 have hre:∀{m:Nat} {f:Nat->Rat} {g:Nat->Int},jV 2 [(0,0),(1,1)] [(1,aC.mk true true 1 m fun i=>.int .i64 (g i)),(0,aC.mk true true 3 m fun i=>.rat (f i) 64)] (pP m f g):=fun {m f g}=>bX rfl rfl rfl (fun i _=>cA rfl rfl) (bX rfl rfl rfl (fun i _=>cA rfl rfl) trivial)
 refine aA.AS hT ow hm (y:=k8) [1,0] (j:=1) (x1:=nj) (zb:=part k8 [1,1]) ah ah ah ah hk (f1:=[27]) 60 gY 2 (fun _:Unit=>qI n z w (cq z (i+1)) (dJ z (i+1)).length ((i+1:Nat):Int)) (fun _=>pP (dJ z (i+1)).length (mH z (i+1)) (mq z (i+1))) (fun _=>i+1<n) ⟨_,Wz,?_⟩ (fun _ hG=>?_)
 ·simp only[af.all,bI,bO]
  refine⟨fun h2=>⟨(),aa,[(0,0),(1,1)],rfl,rfl,rfl,hre⟩,fun h2 s' hv=>⟨rfl,i+1,aa,fu.le ⟨[(0,0),(1,1)],rfl,rfl,rfl,hre⟩ hv hk⟩⟩
 ·have hmu:=HM (z:=z) (i:=i+1) aa
  have hkp:=(Ar (z:=z) (i+1) aa).len
  obtain⟨a,ha⟩:∃a,a=dI (z (i+1)):=⟨_,rfl⟩
  have e2:cq z (i+1+1)=oP (cq z (i+1)) (iA a):=by rw[ha];rfl
  have eL:dJ z (i+1+1)=iw a (dJ z (i+1)):=by rw[ha];rfl
  have hnx:=Ld hk (z:=z) (w:=w) hG hn
  have htm:=fun j=>Oh (z:=z) (i:=i+1) (j:=j)
  obtain⟨L,hL⟩:∃L,L=dJ z (i+1):=⟨_,rfl⟩
  obtain⟨f,hf⟩:∃f:Nat->Rat,f=fun j=>(eU L j).1:=⟨_,rfl⟩
  obtain⟨g,hg⟩:∃g:Nat->Int,g=fun j=>(((eU L j).2:Nat):Int):=⟨_,rfl⟩
  have ef:mH z (i+1)=f:=by rw[hf,hL];rfl
  have eg:mq z (i+1)=g:=by rw[hg,hL];rfl
  rw[<-hL]at hl eL htm
  rw[ef,eg,<-hL]
  refine aA.yE hT ow hm (x:=nj) [1,1,1,0] (i:=2) (y:=part nj [1,1,1,0,0,0]) ah ah ah hk (f1:=[]) (f2:=[50,58]) 60 oS 3 (fun k:Nat=>Fp n z w (cq z (i+1+1)) L.length ((i+1:Nat):Int) k) (fun _=>B4 L.length f g a) (fun k=>k<=L.length/\∀j,j<k->f j<a) (fun k=>(k<=L.length/\∀j,j<k->f j<a)/\(k=L.length\/¬f k<a)) (fun k=>L.length-k) (fun _=>False) ⟨_,Z7,?_⟩ (fun k hK=>⟨_,SI,?_⟩) (fun k s' hD hle=>?_) (fun _ _ h=>h.elim)
  ·simp only[af.all,aF]
   refine⟨⟨⟨aa,by show i+1<n;exact hG⟩,aa⟩,⟨aa,aa,aa,aa,by decide,by decide,by decide,eF aX,CN (by rw[hW];decide),aa,aa,aa,hmu⟩,0,⟨Nat.zero_le _,fun j hj=>absurd hj (Nat.not_lt_zero j)⟩,[(0,0),(1,1),(2,20482)],rfl,?_,rfl,bX rfl rfl rfl (fun i _=>cA rfl rfl) (bX rfl rfl rfl (fun i _=>cA rfl rfl) (lE rfl rfl (cA rfl (by rw[ha];rfl)) trivial))⟩
   rw[e2,ha];rfl
  ·have hre3:jV 3 [(0,0),(1,1),(2,2)] [((2:Nat),iy fun _=>.rat a 64),(1,aC.mk true true 1 L.length fun i=>.int .i64 (g i)),(0,aC.mk true true 3 L.length fun i=>.rat (f i) 64)] (B4 L.length f g a):=bX rfl rfl rfl (fun i _=>cA rfl rfl) (bX rfl rfl rfl (fun i _=>cA rfl rfl) (fo trivial))
   have hc:(bif true then decide (gq (f (((k:Nat):Int).toNat+0)) a<0)else false)=decide (f k<a):=by
    show decide (gq (f k) a<0)=decide (f k<a)
    exact decide_eq_decide.2 (by unfold gq;grind)
   simp only[hc]
   simp only[af.all,aF,bI,bO]
   refine⟨fun h1=>⟨⟨h1,⟨aa,aa⟩,aa,aa,aa,aa⟩,fun h2=>⟨aa,k+1,⟨aa,fun j hj=>?_⟩,by dsimp only;omega,[(0,0),(1,1),(2,2)],rfl,rfl,rfl,hre3⟩,fun h2=>⟨rfl,k,⟨hK,.inr h2⟩,[(0,0),(1,1),(2,2)],rfl,rfl,rfl,hre3⟩⟩,fun h1=>⟨h1,?_⟩⟩
   ·rcases Nat.lt_succ_iff_lt_or_eq.1 hj with h|h
    ·exact hK.2 j h
    ·rw[h];exact h2
   ·exact⟨fun h=>Bool.noConfusion h,fun _=>⟨rfl,k,⟨hK,.inl aa⟩,[(0,0),(1,1),(2,2)],rfl,rfl,rfl,hre3⟩⟩
  ·obtain⟨⟨hk1,hk2⟩,hk3⟩:=hD
   obtain⟨u1,u2⟩:=MC (a:=a) (L:=L) (k:=k) hk1 (fun j hj=>by have:=hk2 j hj;rw[hf]at this;exact this) (hk3.imp id fun h=>by rw[hf]at h;exact h)
   rw[<-eL]at u1 u2
   refine aI.weak rfl hle (aI.bM hT ow hm 60 gY VB ah ?_)
   have hc:(bif true then decide (f (((k:Nat):Int).toNat+0)=a)else false)=decide (f k=a):=rfl
   simp only[hc]
   have e47:(2:Nat)^47=140737488355328:=by decide
   have e24:(1:Nat)*3<=2^24:=by decide
   have t0:((k:Nat):Int).toNat=k:=rfl
   have tL:((L.length:Nat):Int).toNat=L.length:=rfl
   have hit:k<L.length->f k=a->∀s'',bp gY s''=some ([.az 1 n fun i=>.int .i64 (z i),.int .i64 w,.bool false,aP (cq z (i+1+1)),.own 0 3 0 L.length,.own 1 1 0 L.length,.int .i64 ((i+1:Nat):Int)],[(1,aC.mk true true 1 L.length fun j=>if(j==((k:Nat):Int).toNat+0)=true then .int .i64 (g (((k:Nat):Int).toNat+0)+1)else .int .i64 (g j)),(0,aC.mk true true 3 L.length fun i=>.rat (f i) 64)])->aA P c f10.ntmps (part k8 [1,1]) s'' (yD c n z w (i+1)):=fun h1 h2 s'' hv=>by
    obtain⟨v1,v2⟩:=u1 ⟨h1,by rw[hf]at h2;exact h2⟩
    refine aA.mP (fu.le (Al (p:=cq z (i+1+1)) (m':=(dJ z (i+1+1)).length) (f:=mH z (i+1+1)) (g:=mq z (i+1+1)) v1.symm (by decide) (fun j hj=>?_) (fun j hj=>?_)) hv hk) hnx
    ·show AV.rat (f j) 64=.rat (eU (dJ z (i+1+1)) j).1 64
     rw[v2 j,hf]
     by_cases hj2:j=k
     ·rw[if_pos hj2,hj2]
     ·rw[if_neg hj2]
    ·show(if(j==k+0)=true then AV.int .i64 (g (k+0)+1)else .int .i64 (g j))=.int .i64 (((eU (dJ z (i+1+1)) j).2:Nat):Int)
     rw[v2 j,hg]
     by_cases hj2:j=k
     ·rw[if_pos hj2,if_pos (by rw[hj2];exact beq_self_eq_true k)];rfl
     ·rw[if_neg hj2,if_neg (by simpa using hj2)]
   have miss:¬(k<L.length/\f k=a)->∀s'' {m:Nat} {F G:Nat->AV},m=L.length+1->(∀j,j<m->F j=.rat (if j<k then f j else if j=k then a else f (j-1)) 64)->(∀j,j<m->G j=.int .i64 (if j<k then g j else if j=k then 1 else g (j-1)))->bp gY s''=some ([.az 1 n fun i=>.int .i64 (z i),.int .i64 w,.bool false,aP (cq z (i+1+1)),.own 90115 3 0 m,.own 135171 1 0 m,.int .i64 ((i+1:Nat):Int)],[(135171,aC.mk true true 1 m G),(90115,aC.mk true true 3 m F)])->aA P c f10.ntmps (part k8 [1,1]) s'' (yD c n z w (i+1)):=fun h1 s'' {m F G} em hF hG2 hv=>by
    obtain⟨v1,v2⟩:=u2 fun h=>h1 ⟨h.1,by rw[hf];exact h.2⟩
    refine aA.mP (fu.le (Al (p:=cq z (i+1+1)) (m':=(dJ z (i+1+1)).length) (f:=mH z (i+1+1)) (g:=mq z (i+1+1)) (em.trans v1.symm) (by decide) (fun j hj=>?_) (fun j hj=>?_)) hv hk) hnx
    ·rw[hF j hj]
     show AV.rat _ 64=.rat (eU (dJ z (i+1+1)) j).1 64
     rw[v2 j,hf]
     split
     ·rfl
     ·split<;>rfl
    ·rw[hG2 j hj]
     show AV.int .i64 _=.int .i64 (((eU (dJ z (i+1+1)) j).2:Nat):Int)
     rw[v2 j,hg]
     split
     ·rfl
     ·split<;>rfl
   have hF:∀j,j<k-0+(1+(L.length-k))->(if j<k-0 then AV.rat (f j) 64 else if j-(k-0)+0<1 then nth [.rat a 64] (.rat 0 1) (j-(k-0)+0)else .rat (f (j-(k-0)+0-1+(0+k))) 64)=.rat (if j<k then f j else if j=k then a else f (j-1)) 64:=fun j hj=>by
    by_cases h1:j<k
    ·rw[if_pos (show j<k-0 by omega),if_pos h1]
    ·rw[if_neg (show¬j<k-0 by omega),if_neg h1]
     by_cases h2:j=k
     ·rw[if_pos (show j-(k-0)+0<1 by omega),if_pos h2,show j-(k-0)+0=0 by omega];rfl
     ·rw[if_neg (show¬j-(k-0)+0<1 by omega),if_neg h2,show j-(k-0)+0-1+(0+k)=j-1 by omega]
   have hG3:∀j,j<k-0+(1+(L.length-k))->(if j<k-0 then AV.int .i64 (g j)else if j-(k-0)+0<1 then nth [.int .i64 1] (.int .i64 0) (j-(k-0)+0)else .int .i64 (g (j-(k-0)+0-1+(0+k))))=.int .i64 (if j<k then g j else if j=k then 1 else g (j-1)):=fun j hj=>by
    by_cases h1:j<k
    ·rw[if_pos (show j<k-0 by omega),if_pos h1]
    ·rw[if_neg (show¬j<k-0 by omega),if_neg h1]
     by_cases h2:j=k
     ·rw[if_pos (show j-(k-0)+0<1 by omega),if_pos h2,show j-(k-0)+0=0 by omega];rfl
     ·rw[if_neg (show¬j-(k-0)+0<1 by omega),if_neg h2,show j-(k-0)+0-1+(0+k)=j-1 by omega]
   have hgk:0<=g k/\g k<=6:=by
    have:=htm k
    rw[hg]
    constructor
    ·exact Int.natCast_nonneg _
    ·show((eU L k).2:Int)<=6;omega
   simp only[af.all,aF,bI,bO]
   refine⟨fun h1=>⟨⟨h1,⟨aa,aa⟩,aa,aa,aa,aa⟩,fun h2=>?_,fun h2=>?_⟩,fun h1=>⟨h1,fun h=>Bool.noConfusion h,fun _=>?_⟩⟩
   ·exact⟨⟨⟨aa,aa⟩,aa,⟨by show-2^63<=g k+1;omega,by show g k+1<2^63;omega⟩,⟨aa,aa⟩,aa⟩,fun s'' hv=>hit aa h2 s'' hv⟩
   ·refine⟨⟨aa,aa,e24,aa,?_,?_⟩,⟨aa,by decide,aa,?_,?_⟩,fun s'' hv=>miss (fun h=>h2 h.2) s'' aa hF hG3 hv⟩<;>omega
   ·refine⟨⟨aa,aa,e24,aa,?_,?_⟩,⟨aa,by decide,aa,?_,?_⟩,fun s'' hv=>miss (fun h=>h1 (by have:=h.1;omega)) s'' aa hF hG3 hv⟩<;>omega
theorem JX {c:Ctx} (hk:Kept [] c) {n:Nat} {z:Nat->Int} {w:Int} (hn:n<=6):aA P c f10.ntmps qX ⟨aH Ap (xW w (cq z n) (dJ z n).length (mH z n) (mq z n)),[],0⟩ (gv c (Fin T f10 (.bool true))):=by
 have hW:=de
 obtain⟨hof,hne,hc,hev⟩:=Dt (z:=z) hn
 obtain⟨hl,hat⟩:=JF (z:=z) hn
 have h6:=NH (z:=z) hn
 have hiq:sO cj (cq z n):=Ua hof fun _=>hc
 refine aA.qS hT ow hm (x:=qX) [1,1,0,1] (i:=4) (y:=part qX [1,1,0,1,0,0]) (z:=part qX [1,1,1]) ah ah ah ah hk (f1:=[200107,200113]) (f2:=[117,200164,200177,200181,200191,200195,200198]) 60 wI 0 (fun i:Nat=>E3 w (cq z n) (dJ z n).length (mH z n) (mq z n) (dP cj (cq z n)) (lN cj (cq z n)) i) (fun _=>[]) (fun i=>i<=(dJ z n).length) (fun i=>i=(dJ z n).length) (fun i=>(dJ z n).length-i) (fun _=>False) ⟨_,aaj,?_⟩ (fun i hi=>⟨_,Xf,?_⟩) (fun i hi=>?_) (fun _ _ h=>h.elim)
 ·simp only[af.all,aF]
  refine⟨⟨eF aX,hiq⟩,?_,?_,0,Nat.zero_le _,fu.vals rfl⟩
  ·show((if(ak (cq z n)).1=0 then(3:Int)else 0)!=0)=false
   rw[if_neg hne];rfl
  ·show(!((dP cj (cq z n)).length:Int)==((dJ z n).length:Int))=false
   rw[hl];simp
 ·simp only[af.all,aF,bI,bO]
  refine⟨fun h1=>?_,fun h1=>⟨rfl,i,aa,fu.vals rfl⟩⟩
  have hi2:i<(dJ z n).length:=aa
  obtain⟨r1,r2,r3,r4,r5,r6,r7⟩:=aaC w hn hi2
  obtain⟨_,_,_,r8⟩:=hat i hi2
  have m1:0<=w%60:=Int.emod_nonneg _ aa
  have m2:w%60<60:=Int.emod_lt_of_pos _ aa
  have r9:(((lN cj (cq z n) i:Nat):Int)!=mq z n i)=false:=by
   show(((lN cj (cq z n) i:Nat):Int)!=((eU (dJ z n) i).2:Nat))=false
   rw[r8];simp
  have hb:∀{b:Bool},b=true->(bif false then true else !b)=false:=fun {b} h=>by rw[h];rfl
  have hz:∀{x:Int},x=0->(bif false then true else x !=0)=false:=fun {x} h=>by rw[h];rfl
  exact⟨⟨⟨aa,aa⟩,aa,aa,aa,aa,aa,aa,aa,eF aX,.refl _,.refl _,aa,r1,aa⟩,⟨⟨aa,aa⟩,⟨aa,aa⟩,aa,aa,⟨aa,aa⟩,by decide,by decide,by decide,eF aX,.refl _,.refl _,CN (by rw[hW];decide),r2⟩,⟨⟨aa,aa⟩,⟨aa,aa⟩,r9,⟨aa,aa⟩,⟨aa,aa⟩,.refl _,.refl _,aa,hb r3,hz r4,aa,⟨aa,aa⟩,.refl _,.refl _,aa,hb (r5 _),hz r6⟩,hz r7,aa,i+1,aa,by dsimp only;omega,fu.vals rfl⟩
 ·exact aA.oN ((aI.fin hT ow hm 60 acR ah (by simp only[af.all];exact .refl _)).mono fun _ _ h=>.inl h)
theorem YF {n:Nat} {z:Nat->Int} {w:Int} (K:Nat):aY P 10 K [.az 1 n (fun i=>.int .i64 (z i)),.int .i64 w] [] (aT (.bool true) []):=by
 refine iY hT FQ rfl br rfl (fun _ c h0=>?_) K []
 have hk:=ou h0
 by_cases hn:n<=6
 ·refine aA.MD hT ow hm [1,1,1,1,1,0,1] (i:=0) (y:=k8) ah ah FQ.dst hk (f1:=[20]) 60 gY 2 (fun i:Nat=>Ee n z w i) (fun i=>DD z i) (fun i=>i<=n) (fun i=>i=n) (fun i=>n-i) (nh f10 gY (.bool true)) ⟨_,IA,?_⟩ (fun i hi=>?_) (fun i s' hi hle=>?_) (fun v s' hv hs'=>hv.fin hs')
  ·simp only[af.all,aF,bI,bO]
   exact⟨fun h=>aa,fun _=>⟨⟨aa,aa,by decide⟩,0,Nat.zero_le _,[(0,20480)],rfl,rfl,rfl,fo trivial⟩⟩
  ·cases i with
   |zero=>exact acp hk hn
   |succ i=>exact Ys hk hi hn
  ·refine aI.weak ah hle ?_
   show aI P c _ [qX] _ _
   refine aI.one ?_
   subst hi
   cases i with
   |zero=>
    refine aA.dj (t:=5) (k:=0) rfl rfl rfl rfl ?_
    exact aA.La hk (L:=Ap) (us:=[.int .i64 w,.az 3 1 fun _=>.rat 3 2,.nil,.nil]) (os:=[]) (vs:=xW w (cq z 0) (dJ z 0).length (mH z 0) (mq z 0)) (ps:=[]) (nx:=0) [] rfl rfl ⟨aU,⟨rfl,jQ rfl (ki fun i hi=>fh rfl (by rw[de];decide))⟩,⟨rfl,jQ rfl (mC (by decide))⟩,⟨rfl,jQ rfl (mC (by decide))⟩,trivial⟩ trivial (JX hk hn)
   |succ i=>
    refine aA.dj (t:=6) (k:=0) rfl rfl rfl rfl (aA.dj (t:=7) (k:=1) rfl rfl rfl rfl ?_)
    exact aA.La hk (L:=Ap) (us:=xW w (cq z (i+1)) (dJ z (i+1)).length (mH z (i+1)) (mq z (i+1))) (os:=[]) (vs:=xW w (cq z (i+1)) (dJ z (i+1)).length (mH z (i+1)) (mq z (i+1))) (ps:=[]) (nx:=0) [] rfl rfl ⟨aU,aU,aU,aU,trivial⟩ trivial (JX hk hn)
 ·refine aA.MD hT ow hm [1,1,1,1,1,0,1] (i:=0) (y:=k8) ah ah FQ.dst hk (f1:=[20]) 60 gY 2 (fun i:Nat=>Ee n z w i) (fun i=>DD z i) (fun _=>False) (fun _=>False) (fun i=>n-i) (nh f10 gY (.bool true)) ⟨_,IA,?_⟩ (fun i hi=>hi.elim) (fun i s' hi hle=>hi.elim) (fun v s' hv hs'=>hv.fin hs')
  simp only[af.all,aF,bI,bO]
  exact⟨fun _=>⟨_,rfl,.refl _⟩,fun h=>aa⟩
end Go.Am.B
