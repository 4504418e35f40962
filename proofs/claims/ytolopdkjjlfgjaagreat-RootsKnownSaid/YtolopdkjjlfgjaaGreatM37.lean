/- brepkernellaw06.RootsKnown. -/
import Derived.Test.YtolopdkjjlfgjaaGreatM37a
set_option linter.unusedVariables false
namespace Go.Am.B
open Go Go.Am.N AV af au IntKind Proofs.Tryz
theorem ZM:bC 54 f54:=bD func54
theorem Tl:bF P Np 54:=fk fun⟨⟨x,y⟩,a,_⟩ K _=>by
 have hW:=dc
 have hle:∀u v:Rat,decide (gr u v<=0)=decide (u<=v):=fun u v=>decide_eq_decide.2 (by
  have:=vE (x:=u) (y:=v)
  unfold jk at this
  rwa [decide_eq_true_iff]at this)
 refine cB hT tu hm ZM rfl br rfl 60 adh (fun _=>?_) K []
 simp only[af.all,aF,hle,bI,bO,cond_true]
 refine⟨fun h=>⟨⟨aa,aa,aa,aa,h,aa,aa,aa,aa⟩,iV ?_⟩,fun h=>⟨⟨aa,aa,aa,aa,h⟩,iV (decide_eq_false fun hh=>h hh.1).symm⟩⟩
 show _=vq x a y
 exact decide_eq_decide.2 ⟨fun h'=>⟨h,h'⟩,fun h'=>h'.2⟩
theorem nZ:cm P mw:=jh (aM aeN (aM Xn (aM Ma (aM C9 (aM Ff (aM XO (aM (Jl cj) (aM aaF (aM Xk (aM Tl tu))))))))))
theorem Ox {a:Rat}:∀{L:List (Rat×Nat)} {k:Nat},k<=L.length->(∀j,j<k->(eV L j).1<a)->(k=L.length\/¬(eV L k).1<a)->
  (k<L.length/\(eV L k).1=a->(iu a L).length=L.length/\∀j,eV (iu a L) j=if j=k then((eV L k).1,(eV L k).2+1)else eV L j)/\
  (¬(k<L.length/\(eV L k).1=a)->(iu a L).length=L.length+1/\∀j,eV (iu a L) j=if j<k then eV L j else if j=k then(a,1)else eV L (j-1))
 |[],k,h1,_,_=>by
  have hk:k=0:=Nat.le_zero.1 h1
  subst hk
  refine⟨fun h=>absurd h.1 (Nat.not_lt_zero _),fun _=>⟨rfl,fun j=>?_⟩⟩
  cases j with
  |zero=>rfl
  |succ j=>rfl
 |p::l,0,_,_,h3=>by
  have hp:¬p.1<a:=h3.resolve_left (by simp)
  unfold iu
  rw[if_neg hp]
  refine⟨fun h=>?_,fun h=>?_⟩
  ·rw[if_pos (show p.1=a from h.2)]
   refine⟨rfl,fun j=>?_⟩
   cases j with
   |zero=>rfl
   |succ j=>rfl
  ·rw[if_neg (show¬p.1=a from fun h0=>h ⟨by simp,h0⟩)]
   refine⟨rfl,fun j=>?_⟩
   cases j with
   |zero=>rfl
   |succ j=>rfl
 |p::l,k+1,h1,h2,h3=>by
  have hp:p.1<a:=h2 0 (Nat.succ_pos _)
  unfold iu
  rw[if_pos hp]
  obtain⟨i1,i2⟩:=Ox (L:=l) (k:=k) (by rw[List.length_cons]at h1;omega) (fun j hj=>h2 (j+1) aa) (h3.imp (fun h=>by rw[List.length_cons]at h;omega) fun h=>h)
  refine⟨fun h=>?_,fun h=>?_⟩
  ·obtain⟨j1,j2⟩:=i1 ⟨by have:=h.1;rw[List.length_cons]at this;omega,h.2⟩
   refine⟨congrArg (·+1) j1,fun j=>?_⟩
   cases j with
   |zero=>rfl
   |succ j=>
    show eV (iu a l) j=_
    rw[j2]
    by_cases hj:j=k
    ·rw[if_pos hj,if_pos aa];rfl
    ·rw[if_neg hj,if_neg aa];rfl
  ·obtain⟨j1,j2⟩:=i2 fun h0=>h ⟨by rw[List.length_cons];omega,h0.2⟩
   refine⟨congrArg (·+1) j1,fun j=>?_⟩
   cases j with
   |zero=>rw[if_pos (Nat.succ_pos _)];rfl
   |succ j=>
    show eV (iu a l) j=_
    rw[j2]
    by_cases hj:j<k
    ·rw[if_pos hj,if_pos aa];rfl
    ·rw[if_neg hj,if_neg (show¬j+1<k+1 by omega)]
     by_cases hj2:j=k
     ·rw[if_pos hj2,if_pos aa]
     ·rw[if_neg hj2,if_neg aa]
      obtain⟨m,rfl⟩:∃m,j=m+1:=⟨j-1,aa⟩
      rfl
def mI (z:Nat->Int) (i j:Nat):Rat:=(eV (dK z i) j).1
def lS (z:Nat->Int) (i j:Nat):Int:=((eV (dK z i) j).2:Nat)
def FA (n:Nat) (z:Nat->Int) (w:Int):Nat->List AV
 |0=>xy n z w
 |i+1=>qG n z w (cq z (i+1)) (dK z (i+1)).length ((i+1:Nat):Int)
def CX (z:Nat->Int):Nat->aG
 |0=>yO
 |i+1=>pG (dK z (i+1)).length (mI z (i+1)) (lS z (i+1))
theorem Cp {n:Nat} {z:Nat->Int} {w:Int} {p:PP} {m m':Nat} {j:Int} {f:Nat->Rat} {g:Nat->Int} {k0 k1:Nat} {F G:Nat->AV} (hm:m=m') (hk:k0≠k1) (hf:∀i,i<m->F i=.rat (f i) 64) (hg:∀i,i<m->G i=.int .i64 (g i)):
  fm [] ([uy n z,.int .i64 w,.bool false,aO p,.own k0 3 0 m,.own k1 1 0 m,.int .i64 j],[(k1,⟨true,true,1,m,G⟩),(k0,⟨true,true,3,m,F⟩)]) (qG n z w p m' j) (pG m' f g) 2:=by
 subst hm
 have e0:look k0 [(k1,(⟨true,true,1,m,G⟩:aC)),(k0,⟨true,true,3,m,F⟩)]=some ⟨true,true,3,m,F⟩:=by simp[look,Ne.symm hk]
 have e1:look k1 [(k1,(⟨true,true,1,m,G⟩:aC)),(k0,⟨true,true,3,m,F⟩)]=some ⟨true,true,1,m,G⟩:=by simp[look]
 exact⟨[(0,k0),(1,k1)],by simp[jB,hk,Ne.symm hk],rfl,rfl,bX rfl e0 rfl (fun i hi=>cA (by rw[hf i hi];rfl) (hf i hi)) (bX rfl e1 rfl (fun i hi=>cA (by rw[hg i hi];rfl) (hg i hi)) trivial)⟩
theorem J1 {z:Nat->Int} {i:Nat} (hi:i<6):uJ ((cq z i).1-1) (2-1) (cq z i).2 (iq (dI (z i))).2:=by
 have h:=Bg (z:=z) i aa
 have h1:=h.len
 obtain⟨_,_,_,h2,h3⟩:=aa7 (q:=iq (dI (z i))) aa aa h.bd aa FP
 exact⟨h2,h3⟩
theorem GU {x y:Rat} {s:Nat} (hs:s<=ag):cX (fun i=>nth [AV.rat x 64,AV.rat y s] (.rat 0 1) (i+0)) 2 ag:=fun i hi=>by
 have hW:=dc
 rcases(show i=0\/i=1 by omega)with rfl|rfl
 ·exact fh rfl aa
 ·exact fh rfl hs
theorem Nf {z:Nat->Int} {i:Nat} (h:i<=6):(dK z i).length<=6:=by
 have h1:=KA (l:=jy z i)
 rw[JR]at h1
 show(nr (jy z i)).length<=6
 omega
theorem J6 {z:Nat->Int}:∀{i j:Nat},(eV (dK z i) j).2<=i
 |0,j=>by
  show(eV [] j).2<=0
  exact Nat.le_refl _
 |i+1,j=>by
  have hx:∀{a:Rat} {L:List (Rat×Nat)} {b:Nat},(∀j,(eV L j).2<=b)->∀j,(eV (iu a L) j).2<=b+1:=fun {a L}=>by
   induction L with
   |nil=>
    intro b _ j
    cases j with
    |zero=>exact Nat.succ_le_succ (Nat.zero_le _)
    |succ j=>exact Nat.zero_le _
   |cons p L ih=>
    intro b h j
    unfold iu
    split
    ·cases j with
     |zero=>exact Nat.le_succ_of_le (h 0)
     |succ j=>exact ih (fun j=>h (j+1)) j
    ·split
     ·cases j with
      |zero=>exact Nat.succ_le_succ (h 0)
      |succ j=>exact Nat.le_succ_of_le (h (j+1))
     ·cases j with
      |zero=>exact Nat.succ_le_succ (Nat.zero_le _)
      |succ j=>exact Nat.le_succ_of_le (h j)
  exact hx (fun j=>J6) j
abbrev yt (c:Ctx) (n:Nat) (z:Nat->Int) (w:Int) (i:Nat):au->aL->Prop:=
 ur c gY (fun i:Nat=>FA n z w i) (fun i=>CX z i) 2 (fun i=>i<=n) (fun i=>i=n) (fun i=>n-i) 0 (fun s'=>∃v,mV f10 gY (.bool true) v/\bp gY s'=some v) i
theorem Kl {c:Ctx} (hk:Kept [] c) {n:Nat} {z:Nat->Int} {w:Int} {i:Nat} (hi:i<n) (hn:n<=6):
  aA P c f10.ntmps (part k8 [1,1]) ⟨aH gY (qG n z w (cq z (i+1)) (dK z (i+1)).length (i:Nat)),pG (dK z (i+1)).length (mI z (i+1)) (lS z (i+1)),2⟩ (yt c n z w i):=by
 refine aA.bM hT nZ hm 60 gY Za ah ?_
 simp only[af.all,aF]
 refine⟨aa,fun s' hv=>⟨i+1,aa,by dsimp only;omega,?_⟩⟩
 exact fm.le (Cp (p:=cq z (i+1)) (k0:=0) (k1:=1) rfl (by decide) (fun _ _=>rfl) (fun _ _=>rfl)) hv hk
theorem V5 {c:Ctx} (hk:Kept [] c) {n:Nat} {z:Nat->Int} {w:Int} (hn:n<=6):aA P c f10.ntmps k8 ⟨aH gY (xy n z w),yO,2⟩ (yt c n z w 0):=by
 have hW:=dc
 refine aA.BP hT nZ hm (y:=k8) [1,0] (j:=1) (x1:=nJ) (zb:=part k8 [1,1]) ah ah ah ah hk (f1:=[27]) 60 gY 2 (fun _:Unit=>xy n z w) (fun _=>yO) (fun _=>0<n) ⟨_,aaw,?_⟩ (fun _ hG=>?_)
 ·simp only[af.all,bI,bO]
  refine⟨fun h2=>⟨(),aa,[(0,0)],rfl,rfl,rfl,fq trivial⟩,fun h2 s' hv=>⟨rfl,0,aa,fm.le ⟨[(0,0)],rfl,rfl,rfl,fq trivial⟩ hv hk⟩⟩
 ·have hmu:=J1 (z:=z) (i:=0) (by decide)
  refine aA.xC hT nZ hm (x:=nJ) [1,1,1,0] (i:=2) (y:=part nJ [1,1,1,0,0,0]) ah ah ah hk (f1:=[]) (f2:=[]) 60 pe 1 (fun _:Unit=>Dc n z w (cq z 1)) (fun _=>Gd (dI (z 0))) (fun _=>True) (fun _=>True) (fun _=>0) (fun _=>False) ⟨_,XK,?_⟩ (fun _ _=>⟨_,ad2,?_⟩) (fun _ s' _ hle=>?_) (fun _ _ h=>h.elim)
  ·simp only[af.all,aF]
   refine⟨⟨⟨aa,by simpa using hG⟩,aa⟩,⟨aa,aa,aa,aa,by decide,by decide,by decide,?_,?_,aa,aa,aa,hmu⟩,(),trivial,[(0,20482)],rfl,rfl,rfl,fq trivial⟩
   ·intro i _;exact fh rfl (by rw[hW];decide)
   ·exact GU (by rw[hW];decide)
  ·simp only[af.all]
   exact⟨rfl,(),trivial,[(0,0)],rfl,rfl,rfl,fq trivial⟩
  ·refine aI.weak rfl hle (aI.bM hT nZ hm 60 gY Zf ah ?_)
   simp only[af.all,aF]
   refine⟨by decide,by decide,fun s'' hv=>?_⟩
   exact aA.mE (fm.le (Cp (p:=cq z 1) (m':=(dK z 1).length) (f:=mI z 1) (g:=lS z 1) rfl (by decide) (fun i hi=>by obtain rfl:i=0:=Nat.lt_one_iff.1 hi;rfl) (fun i hi=>by obtain rfl:i=0:=Nat.lt_one_iff.1 hi;rfl)) hv hk) (Kl hk hG hn)
theorem Xq {c:Ctx} (hk:Kept [] c) {n:Nat} {z:Nat->Int} {w:Int} {i:Nat} (hi:i+1<=n) (hn:n<=6):aA P c f10.ntmps k8 ⟨aH gY (qG n z w (cq z (i+1)) (dK z (i+1)).length ((i+1:Nat):Int)),pG (dK z (i+1)).length (mI z (i+1)) (lS z (i+1)),2⟩ (yt c n z w (i+1)):=by
 have hW:=dc
 have hl:=Nf (z:=z) (i:=i+1) aa
 have hre:∀{m:Nat} {f:Nat->Rat} {g:Nat->Int},jY 2 [(0,0),(1,1)] [(1,aC.mk true true 1 m fun i=>.int .i64 (g i)),(0,aC.mk true true 3 m fun i=>.rat (f i) 64)] (pG m f g):=fun {m f g}=>bX rfl rfl rfl (fun i _=>cA rfl rfl) (bX rfl rfl rfl (fun i _=>cA rfl rfl) trivial)
 refine aA.BP hT nZ hm (y:=k8) [1,0] (j:=1) (x1:=nJ) (zb:=part k8 [1,1]) ah ah ah ah hk (f1:=[27]) 60 gY 2 (fun _:Unit=>qG n z w (cq z (i+1)) (dK z (i+1)).length ((i+1:Nat):Int)) (fun _=>pG (dK z (i+1)).length (mI z (i+1)) (lS z (i+1))) (fun _=>i+1<n) ⟨_,Yh,?_⟩ (fun _ hG=>?_)
 ·simp only[af.all,bI,bO]
  refine⟨fun h2=>⟨(),aa,[(0,0),(1,1)],rfl,rfl,rfl,hre⟩,fun h2 s' hv=>⟨rfl,i+1,aa,fm.le ⟨[(0,0),(1,1)],rfl,rfl,rfl,hre⟩ hv hk⟩⟩
 ·have hmu:=J1 (z:=z) (i:=i+1) aa
  have hkp:=(Bg (z:=z) (i+1) aa).len
  obtain⟨a,ha⟩:∃a,a=dI (z (i+1)):=⟨_,rfl⟩
  have e2:cq z (i+1+1)=oK (cq z (i+1)) (iq a):=by rw[ha];rfl
  have eL:dK z (i+1+1)=iu a (dK z (i+1)):=by rw[ha];rfl
  have hnx:=Kl hk (z:=z) (w:=w) hG hn
  have htm:=fun j=>J6 (z:=z) (i:=i+1) (j:=j)
  obtain⟨L,hL⟩:∃L,L=dK z (i+1):=⟨_,rfl⟩
  obtain⟨f,hf⟩:∃f:Nat->Rat,f=fun j=>(eV L j).1:=⟨_,rfl⟩
  obtain⟨g,hg⟩:∃g:Nat->Int,g=fun j=>(((eV L j).2:Nat):Int):=⟨_,rfl⟩
  have ef:mI z (i+1)=f:=by rw[hf,hL];rfl
  have eg:lS z (i+1)=g:=by rw[hg,hL];rfl
  rw[<-hL]at hl eL htm
  rw[ef,eg,<-hL]
  refine aA.xC hT nZ hm (x:=nJ) [1,1,1,0] (i:=2) (y:=part nJ [1,1,1,0,0,0]) ah ah ah hk (f1:=[]) (f2:=[50,58]) 60 pe 3 (fun k:Nat=>G9 n z w (cq z (i+1+1)) L.length ((i+1:Nat):Int) k) (fun _=>Cc L.length f g a) (fun k=>k<=L.length/\∀j,j<k->f j<a) (fun k=>(k<=L.length/\∀j,j<k->f j<a)/\(k=L.length\/¬f k<a)) (fun k=>L.length-k) (fun _=>False) ⟨_,ac2,?_⟩ (fun k hK=>⟨_,afj,?_⟩) (fun k s' hD hle=>?_) (fun _ _ h=>h.elim)
  ·simp only[af.all,aF]
   refine⟨⟨⟨aa,by show i+1<n;exact hG⟩,aa⟩,⟨aa,aa,aa,aa,by decide,by decide,by decide,eG aX,GU (by rw[hW];decide),aa,aa,aa,hmu⟩,0,⟨Nat.zero_le _,fun j hj=>absurd hj (Nat.not_lt_zero j)⟩,[(0,0),(1,1),(2,20482)],rfl,?_,rfl,bX rfl rfl rfl (fun i _=>cA rfl rfl) (bX rfl rfl rfl (fun i _=>cA rfl rfl) (kW rfl rfl (cA rfl (by rw[ha];rfl)) trivial))⟩
   rw[e2,ha];rfl
  ·have hre3:jY 3 [(0,0),(1,1),(2,2)] [((2:Nat),iz fun _=>.rat a 64),(1,aC.mk true true 1 L.length fun i=>.int .i64 (g i)),(0,aC.mk true true 3 L.length fun i=>.rat (f i) 64)] (Cc L.length f g a):=bX rfl rfl rfl (fun i _=>cA rfl rfl) (bX rfl rfl rfl (fun i _=>cA rfl rfl) (fq trivial))
   have hc:(bif true then decide (gr (f (((k:Nat):Int).toNat+0)) a<0)else false)=decide (f k<a):=by
    show decide (gr (f k) a<0)=decide (f k<a)
    exact decide_eq_decide.2 (by unfold gr;grind)
   simp only[hc]
   simp only[af.all,aF,bI,bO]
   refine⟨fun h1=>⟨⟨h1,⟨aa,aa⟩,aa,aa,aa,aa⟩,fun h2=>⟨aa,k+1,⟨aa,fun j hj=>?_⟩,by dsimp only;omega,[(0,0),(1,1),(2,2)],rfl,rfl,rfl,hre3⟩,fun h2=>⟨rfl,k,⟨hK,.inr h2⟩,[(0,0),(1,1),(2,2)],rfl,rfl,rfl,hre3⟩⟩,fun h1=>⟨h1,?_⟩⟩
   ·rcases Nat.lt_succ_iff_lt_or_eq.1 hj with h|h
    ·exact hK.2 j h
    ·rw[h];exact h2
   ·exact⟨fun h=>Bool.noConfusion h,fun _=>⟨rfl,k,⟨hK,.inl aa⟩,[(0,0),(1,1),(2,2)],rfl,rfl,rfl,hre3⟩⟩
  ·obtain⟨⟨hk1,hk2⟩,hk3⟩:=hD
   obtain⟨u1,u2⟩:=Ox (a:=a) (L:=L) (k:=k) hk1 (fun j hj=>by have:=hk2 j hj;rw[hf]at this;exact this) (hk3.imp id fun h=>by rw[hf]at h;exact h)
   rw[<-eL]at u1 u2
   refine aI.weak rfl hle (aI.bM hT nZ hm 60 gY Wf ah ?_)
   have hc:(bif true then decide (f (((k:Nat):Int).toNat+0)=a)else false)=decide (f k=a):=rfl
   simp only[hc]
   have e47:(2:Nat)^47=140737488355328:=by decide
   have e24:(1:Nat)*3<=2^24:=by decide
   have t0:((k:Nat):Int).toNat=k:=rfl
   have tL:((L.length:Nat):Int).toNat=L.length:=rfl
   have hit:k<L.length->f k=a->∀s'',bp gY s''=some ([.az 1 n fun i=>.int .i64 (z i),.int .i64 w,.bool false,aO (cq z (i+1+1)),.own 0 3 0 L.length,.own 1 1 0 L.length,.int .i64 ((i+1:Nat):Int)],[(1,aC.mk true true 1 L.length fun j=>if(j==((k:Nat):Int).toNat+0)=true then .int .i64 (g (((k:Nat):Int).toNat+0)+1)else .int .i64 (g j)),(0,aC.mk true true 3 L.length fun i=>.rat (f i) 64)])->aA P c f10.ntmps (part k8 [1,1]) s'' (yt c n z w (i+1)):=fun h1 h2 s'' hv=>by
    obtain⟨v1,v2⟩:=u1 ⟨h1,by rw[hf]at h2;exact h2⟩
    refine aA.mE (fm.le (Cp (p:=cq z (i+1+1)) (m':=(dK z (i+1+1)).length) (f:=mI z (i+1+1)) (g:=lS z (i+1+1)) v1.symm (by decide) (fun j hj=>?_) (fun j hj=>?_)) hv hk) hnx
    ·show AV.rat (f j) 64=.rat (eV (dK z (i+1+1)) j).1 64
     rw[v2 j,hf]
     by_cases hj2:j=k
     ·rw[if_pos hj2,hj2]
     ·rw[if_neg hj2]
    ·show(if(j==k+0)=true then AV.int .i64 (g (k+0)+1)else .int .i64 (g j))=.int .i64 (((eV (dK z (i+1+1)) j).2:Nat):Int)
     rw[v2 j,hg]
     by_cases hj2:j=k
     ·rw[if_pos hj2,if_pos (by rw[hj2];exact beq_self_eq_true k)];rfl
     ·rw[if_neg hj2,if_neg (by simpa using hj2)]
   have miss:¬(k<L.length/\f k=a)->∀s'' {m:Nat} {F G:Nat->AV},m=L.length+1->(∀j,j<m->F j=.rat (if j<k then f j else if j=k then a else f (j-1)) 64)->(∀j,j<m->G j=.int .i64 (if j<k then g j else if j=k then 1 else g (j-1)))->bp gY s''=some ([.az 1 n fun i=>.int .i64 (z i),.int .i64 w,.bool false,aO (cq z (i+1+1)),.own 90115 3 0 m,.own 135171 1 0 m,.int .i64 ((i+1:Nat):Int)],[(135171,aC.mk true true 1 m G),(90115,aC.mk true true 3 m F)])->aA P c f10.ntmps (part k8 [1,1]) s'' (yt c n z w (i+1)):=fun h1 s'' {m F G} em hF hG2 hv=>by
    obtain⟨v1,v2⟩:=u2 fun h=>h1 ⟨h.1,by rw[hf];exact h.2⟩
    refine aA.mE (fm.le (Cp (p:=cq z (i+1+1)) (m':=(dK z (i+1+1)).length) (f:=mI z (i+1+1)) (g:=lS z (i+1+1)) (em.trans v1.symm) (by decide) (fun j hj=>?_) (fun j hj=>?_)) hv hk) hnx
    ·rw[hF j hj]
     show AV.rat _ 64=.rat (eV (dK z (i+1+1)) j).1 64
     rw[v2 j,hf]
     split
     ·rfl
     ·split<;>rfl
    ·rw[hG2 j hj]
     show AV.int .i64 _=.int .i64 (((eV (dK z (i+1+1)) j).2:Nat):Int)
     rw[v2 j,hg]
     split
     ·rfl
     ·split<;>rfl
   have hF:∀j,j<k-0+(1+(L.length-k))->(if j<k-0 then AV.rat (f j) 64 else if j-(k-0)+0<1 then nth [.rat a 64] (.rat 0 1) (j-(k-0)+0)else .rat (f (j-(k-0)+0-1+(0+k))) 64)=.rat (if j<k then f j else if j=k then a else f (j-1)) 64:=fun j hj=>by
    by_cases h1:j<k
    ·rw[if_pos (show j<k-0 by omega),if_pos h1]
    ·rw[if_neg (show¬j<k-0 by omega),if_neg h1]
     by_cases h2:j=k
     ·rw[if_pos (show j-(k-0)+0<1 by omega),if_pos h2,show j-(k-0)+0=0 by omega];rfl
     ·rw[if_neg (show¬j-(k-0)+0<1 by omega),if_neg h2,show j-(k-0)+0-1+(0+k)=j-1 by omega]
   have hG3:∀j,j<k-0+(1+(L.length-k))->(if j<k-0 then AV.int .i64 (g j)else if j-(k-0)+0<1 then nth [.int .i64 1] (.int .i64 0) (j-(k-0)+0)else .int .i64 (g (j-(k-0)+0-1+(0+k))))=.int .i64 (if j<k then g j else if j=k then 1 else g (j-1)):=fun j hj=>by
    by_cases h1:j<k
    ·rw[if_pos (show j<k-0 by omega),if_pos h1]
    ·rw[if_neg (show¬j<k-0 by omega),if_neg h1]
     by_cases h2:j=k
     ·rw[if_pos (show j-(k-0)+0<1 by omega),if_pos h2,show j-(k-0)+0=0 by omega];rfl
     ·rw[if_neg (show¬j-(k-0)+0<1 by omega),if_neg h2,show j-(k-0)+0-1+(0+k)=j-1 by omega]
   have hgk:0<=g k/\g k<=6:=by
    have:=htm k
    rw[hg]
    constructor
    ·exact Int.natCast_nonneg _
    ·show((eV L k).2:Int)<=6;omega
   simp only[af.all,aF,bI,bO]
   refine⟨fun h1=>⟨⟨h1,⟨aa,aa⟩,aa,aa,aa,aa⟩,fun h2=>?_,fun h2=>?_⟩,fun h1=>⟨h1,fun h=>Bool.noConfusion h,fun _=>?_⟩⟩
   ·exact⟨⟨⟨aa,aa⟩,aa,⟨by show-2^63<=g k+1;omega,by show g k+1<2^63;omega⟩,⟨aa,aa⟩,aa⟩,fun s'' hv=>hit aa h2 s'' hv⟩
   ·refine⟨⟨aa,aa,e24,aa,?_,?_⟩,⟨aa,by decide,aa,?_,?_⟩,fun s'' hv=>miss (fun h=>h2 h.2) s'' aa hF hG3 hv⟩<;>omega
   ·refine⟨⟨aa,aa,e24,aa,?_,?_⟩,⟨aa,by decide,aa,?_,?_⟩,fun s'' hv=>miss (fun h=>h1 (by have:=h.1;omega)) s'' aa hF hG3 hv⟩<;>omega
theorem Hz {c:Ctx} (hk:Kept [] c) {n:Nat} {z:Nat->Int} {w:Int} (hn:n<=6):aA P c f10.ntmps qn ⟨aH Ci (zm w (cq z n) (dK z n).length (mI z n) (lS z n)),[],0⟩ (gv c (Fin T f10 (.bool true))):=by
 have hW:=dc
 obtain⟨hof,hne,hc,hev⟩:=E3 (z:=z) hn
 obtain⟨hl,hat⟩:=Ip (z:=z) hn
 have h6:=Nf (z:=z) hn
 have hiq:sV cj (cq z n):=P8 hof fun _=>hc
 refine aA.qp hT nZ hm (x:=qn) [1,1,0,1] (i:=4) (y:=part qn [1,1,0,1,0,0]) (z:=part qn [1,1,1]) ah ah ah ah hk (f1:=[200107,200113]) (f2:=[117,200164,200177,200181,200191,200195,200198]) 60 yu 0 (fun i:Nat=>G8 w (cq z n) (dK z n).length (mI z n) (lS z n) (dO cj (cq z n)) (lJ cj (cq z n)) i) (fun _=>[]) (fun i=>i<=(dK z n).length) (fun i=>i=(dK z n).length) (fun i=>(dK z n).length-i) (fun _=>False) ⟨_,TP,?_⟩ (fun i hi=>⟨_,XP,?_⟩) (fun i hi=>?_) (fun _ _ h=>h.elim)
 ·simp only[af.all,aF]
  refine⟨⟨eG aX,hiq⟩,?_,?_,0,Nat.zero_le _,fm.vals rfl⟩
  ·show((if(ak (cq z n)).1=0 then(3:Int)else 0)!=0)=false
   rw[if_neg hne];rfl
  ·show(!((dO cj (cq z n)).length:Int)==((dK z n).length:Int))=false
   rw[hl];simp
 ·simp only[af.all,aF,bI,bO]
  refine⟨fun h1=>?_,fun h1=>⟨rfl,i,aa,fm.vals rfl⟩⟩
  have hi2:i<(dK z n).length:=aa
  obtain⟨r1,r2,r3,r4,r5,r6,r7⟩:=adm w hn hi2
  obtain⟨_,_,_,r8⟩:=hat i hi2
  have m1:0<=w%60:=Int.emod_nonneg _ aa
  have m2:w%60<60:=Int.emod_lt_of_pos _ aa
  have r9:(((lJ cj (cq z n) i:Nat):Int)!=lS z n i)=false:=by
   show(((lJ cj (cq z n) i:Nat):Int)!=((eV (dK z n) i).2:Nat))=false
   rw[r8];simp
  have hb:∀{b:Bool},b=true->(bif false then true else !b)=false:=fun {b} h=>by rw[h];rfl
  have hz:∀{x:Int},x=0->(bif false then true else x !=0)=false:=fun {x} h=>by rw[h];rfl
  exact⟨⟨⟨aa,aa⟩,aa,aa,aa,aa,aa,aa,aa,eG aX,.refl _,.refl _,aa,r1,aa⟩,⟨⟨aa,aa⟩,⟨aa,aa⟩,aa,aa,⟨aa,aa⟩,by decide,by decide,by decide,eG aX,.refl _,.refl _,GU (by rw[hW];decide),r2⟩,⟨⟨aa,aa⟩,⟨aa,aa⟩,r9,⟨aa,aa⟩,⟨aa,aa⟩,.refl _,.refl _,aa,hb r3,hz r4,aa,⟨aa,aa⟩,.refl _,.refl _,aa,hb (r5 _),hz r6⟩,hz r7,aa,i+1,aa,by dsimp only;omega,fm.vals rfl⟩
 ·exact aA.oQ ((aI.fin hT nZ hm 60 Qj ah (by simp only[af.all];exact .refl _)).mono fun _ _ h=>.inl h)
theorem aay {n:Nat} {z:Nat->Int} {w:Int} (K:Nat):aY P 10 K [.az 1 n (fun i=>.int .i64 (z i)),.int .i64 w] [] (aT (.bool true) []):=by
 refine ja hT Ej rfl br rfl (fun _ c h0=>?_) K []
 have hk:=oD h0
 by_cases hn:n<=6
 ·refine aA.Hs hT nZ hm [1,1,1,1,1,0,1] (i:=0) (y:=k8) ah ah Ej.dst hk (f1:=[20]) 60 gY 2 (fun i:Nat=>FA n z w i) (fun i=>CX z i) (fun i=>i<=n) (fun i=>i=n) (fun i=>n-i) (mV f10 gY (.bool true)) ⟨_,IU,?_⟩ (fun i hi=>?_) (fun i s' hi hle=>?_) (fun v s' hv hs'=>hv.fin hs')
  ·simp only[af.all,aF,bI,bO]
   exact⟨fun h=>aa,fun _=>⟨⟨aa,aa,by decide⟩,0,Nat.zero_le _,[(0,20480)],rfl,rfl,rfl,fq trivial⟩⟩
  ·cases i with
   |zero=>exact V5 hk hn
   |succ i=>exact Xq hk hi hn
  ·refine aI.weak ah hle ?_
   show aI P c _ [qn] _ _
   refine aI.one ?_
   subst hi
   cases i with
   |zero=>
    refine aA.dr (t:=5) (k:=0) rfl rfl rfl rfl ?_
    exact aA.KI hk (L:=Ci) (us:=[.int .i64 w,.az 3 1 fun _=>.rat 3 2,.nil,.nil]) (os:=[]) (vs:=zm w (cq z 0) (dK z 0).length (mI z 0) (lS z 0)) (ps:=[]) (nx:=0) [] rfl rfl ⟨aU,⟨rfl,jN rfl (ko fun i hi=>fh rfl (by rw[dc];decide))⟩,⟨rfl,jN rfl (mC (by decide))⟩,⟨rfl,jN rfl (mC (by decide))⟩,trivial⟩ trivial (Hz hk hn)
   |succ i=>
    refine aA.dr (t:=6) (k:=0) rfl rfl rfl rfl (aA.dr (t:=7) (k:=1) rfl rfl rfl rfl ?_)
    exact aA.KI hk (L:=Ci) (us:=zm w (cq z (i+1)) (dK z (i+1)).length (mI z (i+1)) (lS z (i+1))) (os:=[]) (vs:=zm w (cq z (i+1)) (dK z (i+1)).length (mI z (i+1)) (lS z (i+1))) (ps:=[]) (nx:=0) [] rfl rfl ⟨aU,aU,aU,aU,trivial⟩ trivial (Hz hk hn)
 ·refine aA.Hs hT nZ hm [1,1,1,1,1,0,1] (i:=0) (y:=k8) ah ah Ej.dst hk (f1:=[20]) 60 gY 2 (fun i:Nat=>FA n z w i) (fun i=>CX z i) (fun _=>False) (fun _=>False) (fun i=>n-i) (mV f10 gY (.bool true)) ⟨_,IU,?_⟩ (fun i hi=>hi.elim) (fun i s' hi hle=>hi.elim) (fun v s' hv hs'=>hv.fin hs')
  simp only[af.all,aF,bI,bO]
  exact⟨fun _=>⟨_,rfl,.refl _⟩,fun h=>aa⟩
end Go.Am.B
