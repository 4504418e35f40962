/- slices.CompactFunc of numbers; gm.Distinct. -/
import Derived.Test.YtgfjdngnneoeoaaGreatY41
import Derived.Test.YtgfjdngnneoeoaaGreatB33
import Derived.Test.YtgfjdngnneoeoaaGreatZ2
set_option linter.unusedVariables false
noncomputable section
namespace Go.Am.B
open Go Go.Am.N AV ag aq IntKind Proofs.Tryz
theorem IQ:aX 151 f151:=aM func151
theorem afH:aX 112 f112:=aM func112
abbrev uz:Func:=f151
abbrev vE:Code:=aF uz
abbrev tF:Code:=part vE [1,1,0,1,0,0]
abbrev sO:Code:=part tF [1,0,0]
abbrev o6:Code:=part sO [1,0]
abbrev kg:List Nat:=[4,0,1,5]
abbrev w8 (n i:Nat):List AV:=[.nil,.own 0 3 0 n,.func 35 [],.int .i64 i]
abbrev AD:List Nat:=[4,0,1,5,28]
abbrev Dd (n i:Nat) (b:Bool):List AV:=[.nil,.own 0 3 0 n,.func 35 [],.int .i64 i,.bool b]
abbrev u5:List Nat:=[4,0,1,5,6,7]
abbrev uy (n m b j:Nat):List AV:=[.nil,.own 0 3 0 n,.func 35 [],.int .i64 m,.own 0 3 b (n-b),.int .i64 j]
theorem Yj {n:Nat} {k:Nat->Rat}:aL T ig [10] 60 kg (before vE [1,1,0,1]) ⟨aS 0 [.own 0 3 0 n,.func 35 []],[(0,gM n k)],1⟩=
  let c2:Nat×az:=(0,az.mk true true 3 n fun i=>rat (k i) 4096);let c1:AV:=own 0 3 0 n;some (fork (decide ((↑n:Int)<2)) (leaf ret ([c1,c1,func 35 [],tuple []],[c2])) (leaf normal ([nil,c1,func 35 [],int i64 1],[c2]))):=ah
theorem ahg {n i:Nat} {k:Nat->Rat}:aL T ig [15] 60 kg (before tF [1,0]) ⟨aG kg (w8 n i),[(0,gM n k)],1⟩=
  let c1:List AV×aD:=([nil,own 0 3 0 n,func 35 [],int i64 (↑i:Int)],[(0,az.mk true true 3 n fun i=>rat (k i) 4096)]);some (fork (decide ((↑i:Int)<(↑n:Int))) (leaf normal c1) (leaf (exit 0) c1)):=ah
theorem agT {n i:Nat} {k:Nat->Rat}:aL T ig [] 60 AD (before sO [1]) ⟨aG kg (w8 n i),[(0,gM n k)],1⟩=
  let c4:Int:=(↑i:Int);let c2:Nat:=c4.toNat+0;let c1:Int:=c4-1;let c3:Nat:=c1.toNat+0;some (aj [(0:Int)<=c4/\c4.toNat<n,c2<n,-(2:Int)^63<=c1/\c1<2^63,(0:Int)<=c1/\c1.toNat<n,c3<n] (leaf normal ([nil,own 0 3 0 n,func 35 [],int i64 c4,AV.bool (decide (k c2=k c3))],[(0,az.mk true true 3 n fun i=>rat (k i) 4096)]))):=ah
theorem Rf {n i:Nat} {b:Bool} {k:Nat->Rat}:aL T ig [] 60 u5 (before o6 [1,0,1]) ⟨aG AD (Dd n i b),[(0,gM n k)],1⟩=
  let c2:Int:=(↑i:Int);let c1:Int:=(↑n:Int);some (aj [(0:Int)<=c2/\c2<=c1/\c1<=c1/\c1<=c1] (leaf normal ([nil,own 0 3 0 n,func 35 [],int i64 c2,own 0 3 ((0:Nat)+c2.toNat) (c1.toNat-c2.toNat),int i64 1],[(0,az.mk true true 3 n fun i=>rat (k i) 4096)]))):=ah
theorem Sd {n m b j:Nat} {k:Nat->Rat}:aL T ig [35,49] 60 u5 [part o6 [1,0,1,0,0]] ⟨aG u5 (uy n m b j),[(0,gM n k)],1⟩=
  let c11:AV:=func 35 [];let c7:AV:=own 0 3 b (n-b);let c6:Nat×az:=(0,az.mk true true 3 n fun i=>rat (k i) 4096);let c5:Int:=(↑m:Int);let c4:AV:=own 0 3 0 n;let c2:Int:=(2:Int)^63;let c1:Int:=(↑j:Int);let c13:Int:=c5+1;let c12:Prop:=(0:Int)<=c1/\c1.toNat<n-b;let c10:Nat:=c5.toNat+0;let c9:Nat:=c1.toNat+b;let c8:Int:=c1+1;let c3:Int:=c1-1;some (fork (decide (c1<(↑(n-b):Int))) (aj [c12,c9<n,-c2<=c3/\c3<c2,(0:Int)<=c3/\c3.toNat<n-b,c3.toNat+b<n] (fork (!decide (k c9=k (c3.toNat+b))) (aj [c12,c9<n,(0:Int)<=c5/\c5.toNat<n,c10<n] (aj [-c2<=c13/\c13<c2] (aj [-c2<=c8/\c8<c2] (leaf normal ([nil,c4,c11,int i64 c13,c7,int i64 c8],[(0,az.mk true true 3 n fun j=>rat (bif j==c10 then k c9 else k j) (bif j==c10 then sK else sK))]))))) (aj [-c2<=c8/\c8<c2] (leaf normal ([nil,c4,c11,int i64 c5,c7,int i64 c8],[c6]))))) (leaf (exit 2) ([nil,c4,c11,int i64 c5,c7,int i64 c1],[c6]))):=ah
theorem aaa {n m b j:Nat} {k:Nat->Rat}:aL T ig [] 60 kg [part o6 [1,1]] ⟨aG u5 (uy n m b j),[(0,gM n k)],1⟩=
  let c4:Int:=(↑n:Int);let c2:Int:=(↑m:Int);let c3:Nat:=0+c2.toNat;let c1:Nat:=c3+(c4.toNat-c2.toNat);some (aj [(0:Int)<=c2/\c2<=c4/\c4<=c4/\c4<=c4] (aj [(0:Int)<=0/\(0:Int)<=c2/\c2<=c2/\c2<=c4] (leaf ret ([own 0 3 0 (c2.toNat-Int.toNat (0:Int)),own 0 3 0 n,func 35 [],int i64 c2],[(0,az.mk true true 3 n fun i=>if c3<=i/\i<c1 then rat 0 1 else rat (k i) sK)])))):=ah
theorem Y6 {n i:Nat} {b:Bool} {k:Nat->Rat}:aL T ig [] 60 kg [part sO [1,1],part tF [1,1]] ⟨aG AD (Dd n i b),[(0,gM n k)],1⟩=
  let c1:Int:=(↑i:Int)+1;some (aj [-(2:Int)^63<=c1/\c1<2^63] (leaf normal ([nil,own 0 3 0 n,func 35 [],int i64 c1],[(0,az.mk true true 3 n fun i=>rat (k i) 4096)]))):=ah
theorem afZ {n i:Nat} {k:Nat->Rat}:aL T ig [] 60 kg [part vE [1,1,1]] ⟨aG kg (w8 n i),[(0,gM n k)],1⟩=
  let c1:AV:=own 0 3 0 n;some (leaf ret ([c1,c1,func 35 [],int i64 (↑i:Int)],[(0,az.mk true true 3 n fun i=>rat (k i) 4096)])):=ah
def mc (k:Nat->Rat) (n i:Nat):Rat:=if i<bO k n then cy k n i else 0
theorem OQ {k:Nat->Rat} {n:Nat} (h:∀j,j<n->gv k j) {i:Nat} (hi:i<n):bO k n=n/\mc k n i=k i:=by
 obtain⟨h1,h2⟩:=H7 h
 unfold mc
 rw[h1,if_pos hi]
 exact⟨rfl,h2 i hi⟩
theorem ab0 {kk n:Nat} {k:Nat->Rat} (hn:n<2^40) (c:Ctx) (hk:Kept [0] c):ay P c uz.ntmps vE ⟨aS 0 [.own 0 3 0 n,.func 35 []],[(0,gM n k)],1⟩ (E0 uz kk [.own kk 3 0 (bO k n)] (gM n (mc k n))):=by
 have hall:∀{L:List Nat} {us:List AV},(∀j,j<n->gv k j)->lR (aG L us) uz.results.toList=some [.own 0 3 0 n]->AT uz kk [.own kk 3 0 (bO k n)] (gM n (mc k n)) L (us,[(0,gM n k)]):=fun h1 h2=>
  ⟨_,_,h2,⟨⟨rfl,dx (by simp[bA,look]) rfl (H7 h1).1.symm⟩,trivial⟩,Dt,rfl,rfl,rfl,rfl,fun i hi=>by
   show gV _ (.rat (k i) sK) (.rat (mc k n i) sK)
   rw[(OQ h1 hi).2];exact gu rfl⟩
 refine ay.C7 hT l6 hm [1,1,0,1] (i:=0) (y:=tF) (z:=part vE [1,1,1]) ah ah ah IQ.dst hk (f1:=[10]) 60 kg 1 (fun i:Nat=>w8 n i) (fun _=>[(0,gM n k)]) (fun i=>1<=i/\i<=n/\∀j,j<i->gv k j) (fun i=>i=n/\∀j,j<n->gv k j) (fun i=>n-i)
  (AT uz kk [.own kk 3 0 (bO k n)] (gM n (mc k n)) kg) ⟨_,Yj,?_⟩ (fun i ⟨h1,h2,h3⟩=>?_) (fun i ⟨h1,h2⟩=>?_) (fun v s' hv hs'=>hv.fin hs')
 ·simp only[ag.all,au,bz,bG]
  exact⟨fun h=>hall (fun j hj=>.inl aa) ah,fun h=>⟨1,⟨aa,aa,fun j hj=>.inl aa⟩,[(0,0)],rfl,rfl,rfl,cJ rfl rfl rfl (fun x hx=>eJ rfl rfl) trivial⟩⟩
 ·refine ay.uZ hT l6 hm (y:=tF) (x1:=sO) (zb:=part tF [1,1]) [1,0] (j:=1) ah ah ah ah hk (f1:=[15]) 60 kg 1 (fun _:Unit=>w8 n i) (fun _=>[(0,gM n k)]) (fun _=>i<n) ⟨_,ahg,?_⟩ (fun _ hlt=>?_)
  ·simp only[ag.all,au,bz,bG]
   exact⟨fun h=>⟨(),aa,[(0,0)],rfl,rfl,rfl,cJ rfl rfl rfl (fun x hx=>eJ rfl rfl) trivial⟩,fun h s' hs'=>⟨rfl,i,⟨aa,fun j hj=>h3 j aa⟩,fz.le ⟨[(0,0)],rfl,rfl,rfl,cJ rfl rfl rfl (fun x hx=>eJ rfl rfl) trivial⟩ hs' hk⟩⟩
  refine ay.branch hT l6 hm (x:=sO) (u:=o6) (v:=part sO [1,1]) (b:=.tmp 28) [1] ah ah ah ah hk (f1:=[]) 60 AD 1 (fun _:Unit=>Dd n i (decide (k i=k (i-1)))) (fun _=>[(0,gM n k)]) (fun _=>True) ⟨_,agT,?_⟩ (fun _ _=>⟨decide (k i=k (i-1)),rfl,fun hb=>?_,fun hb=>?_⟩)
  ·simp only[ag.all,au]
   simp only[br,Nat.add_zero,show((i:Int)-1).toNat=i-1 by omega]
   exact⟨⟨⟨aa,aa⟩,aa,aa,⟨aa,aa⟩,aa⟩,(),trivial,[(0,0)],rfl,rfl,rfl,cJ rfl rfl rfl (fun x hx=>eJ rfl rfl) trivial⟩
  ·have hold:¬gv k i:=fun h=>by
    rcases h with h|h
    ·omega
    ·exact h (of_decide_eq_true hb)
   obtain⟨s1,s2⟩:=ain h3 hold
   refine ay.vL hT l6 hm (x:=o6) [1,0,1] (i:=2) (y:=part o6 [1,0,1,0,0]) ah ah ah hk (f1:=[]) (f2:=[35,49]) 60 u5 1 (fun j:Nat=>uy n (bO k (i+j)) i j) (fun j=>[(0,gM n (jo k (i+j)))]) (fun j=>1<=j/\i+j<=n) (fun j=>i+j=n) (fun j=>n-j) (fun _=>False) ⟨_,Rf,?_⟩ (fun j ⟨j1,j2⟩=>⟨_,Sd,?_⟩) (fun j s' hj hle=>?_) (fun _ _ h=>h.elim)
   ·simp only[ag.all,au]
    simp only[br,Nat.zero_add]
    refine⟨aa,1,⟨aa,aa⟩,[(0,0)],rfl,?_,rfl,cJ rfl rfl rfl (fun x hx=>eJ rfl ?_) trivial⟩
    ·show _=(uy n (bO k (i+1)) i 1).map _
     rw[s1];rfl
    ·rw[s2]
   ·simp only[ag.all,au,bz,bG]
    have hd:=IX hold (l:=i+j) aa
    have e1:jo k (i+j) (j+i)=k (i+j):=by rw[Nat.add_comm j i];exact FB aa
    have e2:jo k (i+j) (((j:Int)-1).toNat+i)=k (i+j-1):=by rw[show((j:Int)-1).toNat+i=i+j-1 by omega];exact FB aa
    simp only[br,Nat.add_zero,e1,e2,Bool.not_eq_true',Bool.not_eq_false',bz,bG]
    refine⟨fun h=>⟨aa,fun hne=>⟨aa,aa,aa,j+1,aa,by dsimp only;omega,[(0,0)],rfl,?_,rfl,cJ rfl rfl rfl (fun x hx=>?_) trivial⟩,fun heq=>⟨aa,j+1,aa,by dsimp only;omega,[(0,0)],rfl,?_,rfl,cJ rfl rfl rfl (fun x hx=>?_) trivial⟩⟩,fun h=>⟨rfl,j,aa,[(0,0)],rfl,rfl,rfl,cJ rfl rfl rfl (fun x hx=>eJ rfl rfl) trivial⟩⟩
    ·show _=(uy n (bO k (i+j+1)) i (j+1)).map _
     rw[abJ (l:=i+j) (.inr hne)];rfl
    ·refine .inr ⟨rfl,bC ?_ (by cases (x==bO k (i+j))<;>exact Nat.le_refl _)⟩
     show _=jo k (i+j+1) x
     rw[aiw (.inr hne) aa]
     by_cases hx2:x=bO k (i+j)
     ·subst hx2;simp
     ·have:(x==bO k (i+j))=false:=by simpa using hx2
      rw[this,if_neg hx2];rfl
    ·have hold2:¬gv k (i+j):=fun h=>by
      rcases h with h|h
      ·omega
      ·exact h heq
     show _=(uy n (bO k (i+j+1)) i (j+1)).map _
     rw[MG hold2];rfl
    ·have hold2:¬gv k (i+j):=fun h=>by
      rcases h with h|h
      ·omega
      ·exact h heq
     exact eJ rfl (by show _=AV.rat (jo k (i+j+1) x) sK;rw[(Zy hold2).2])
   ·rw[show behind o6 [1,0,1]=[part o6 [1,1]]from by kernel_rfl]
    refine aI.weak rfl hle (aI.bH hT l6 hm 60 kg aaa ah ?_)
    simp only[ag.all,au]
    rw[hj]
    have hd:=rO (k:=k) (n:=n)
    simp only[br,Nat.zero_add]
    refine⟨aa,aa,fun s' hs'=>⟨_,⟨[.own 0 3 0 (bO k n)],⟨true,true,3,n,fun i=>if bO k n<=i/\i<bO k n+(n-bO k n)then .rat 0 1 else .rat (jo k n i) sK⟩,ah,⟨⟨rfl,dx (by simp[bA,look]) rfl rfl⟩,trivial⟩,rfl,⟨rfl,rfl,rfl,rfl,fun x hx=>?_⟩⟩,hs'⟩⟩
    have hx:x<n:=hx
    refine lg (Ef rfl rfl) ?_
    show bp (if _ then _ else _) (.rat (mc k n x) sK)
    unfold mc
    by_cases h:x<bO k n
    ·rw[if_neg aa,if_pos h]
     exact dX (by unfold jo;rw[if_pos h])
    ·rw[if_pos aa,if_neg h]
     exact eE (by decide)
  ·have hnew:gv k i:=.inr (of_decide_eq_false hb)
   refine ay.tail (fun s' hh=>by have:=hh.1;omega) (aI.bH hT l6 hm 60 kg Y6 ah ?_)
   simp only[ag.all,au]
   refine⟨aa,fun s' hs'=>⟨i+1,⟨aa,aa,fun j hj=>?_⟩,by dsimp only;omega,fz.le ⟨[(0,0)],rfl,rfl,rfl,cJ rfl rfl rfl (fun x hx=>eJ rfl rfl) trivial⟩ hs' hk⟩⟩
   by_cases he:j=i
   ·subst he;exact hnew
   ·exact h3 j aa
 ·subst h1
  refine ay.bH hT l6 hm 60 kg afZ ah ?_
  simp only[ag.all,au]
  exact fun s' hs'=>(hall h2 ah).fin hs'
def BX (f:Nat->AV) (n s:Nat):Prop:=∀i,i<n->keys (f i)=[]/\bp (f i) (.rat (aC (f i)) s)
theorem SV {k:Nat->Rat} {n s s':Nat} (h:s<=s'):BX (fun i=>.rat (k i) s) n s':=fun _ _=>⟨rfl,eE h⟩
def EJ:Spec:=fun _ args pre=>match args,pre with
 |[.own k 3 0 n,.func g []],[(k',⟨true,true,3,m,f⟩)]=>match Nat.beq g 35&&k'==k with
  |true=>some ⟨jx [.own k 3 0 (bO (fun i=>aC (f i)) n)],[(k,gM n (mc (fun i=>aC (f i)) n))],[m=n,BX f n sK,n<2^40]⟩
  |false=>none
 |_,_=>none
theorem R5:bf P EJ 151:=by
 intro K args pre r h
 unfold EJ at h
 split at h
 ·rename_i k n g k' m f
  split at h
  ·rename_i hc
   simp only[Bool.and_eq_true,beq_iff_eq]at hc
   obtain⟨h1,h2⟩:=hc
   have h1:=Nat.eq_of_beq_eq_true h1
   subst h1 h2
   simp only[ax]at h
   subst h
   intro need
   have h0:=need
   obtain⟨rfl,n1,n2⟩:=need
   exact WZ hT IQ (rest:=[.func 35 []]) (o2:=⟨true,true,3,m,f⟩) (o:=gM m fun i=>aC (f i)) rfl rfl aW (fun ρ=>⟨rfl,rfl,rfl,rfl,fun i hi=>lg (n1 i hi).1 (n1 i hi).2⟩) (fun _ c hk=>ab0 n2 c hk) K h0
  ·simp at h
 ·simp at h
theorem abS:aX 200 f200:=aM func200
abbrev ve:Code:=aF f200
abbrev uV:List Nat:=[4,0,1,5]
abbrev BM (n:Nat) (k:Nat->Rat) (i:Nat):List AV:=[.bool false,ls k n,.func 79 [],.int .i64 ((i:Int)-1)]
def FL:aV:=[(152,Hj),(151,EJ)]
theorem agi {n:Nat} {k:Nat->Rat}:aL T ig [] 60 uV (before ve [1,0,1]) ⟨aS 0 [ls k n,.func 79 []],[],0⟩=
  let c1:Int:=(↑n:Int)-1;some (aj [-(2:Int)^63<=c1/\c1<2^63] (leaf normal ([AV.bool false,ak 3 n fun i=>rat (k i) 4096,func 79 [],int i64 c1],[]))):=ah
theorem SW {n i:Nat} {k:Nat->Rat}:aL T ig [10,24] 60 uV [part ve [1,0,1,0,0]] ⟨aG uV (BM n k i),[],1⟩=
  let c5:AV:=ak 3 n fun i=>rat (k i) 4096;let c4:Int:=(2:Int)^63;let c1:Int:=(↑i:Int)-1;let c3:List AV:=[AV.bool false,c5,func 79 [],int i64 c1];let c2:Int:=c1-1;let c6:Int:=dn (k c1.toNat) (k c2.toNat);some (fork (decide (c1>0)) (aj [(0:Int)<=c1/\c1.toNat<n,-c4<=c2/\c2<c4,(0:Int)<=c2/\c2.toNat<n] (fork (decide (c6<0)) (leaf ret (c3,[])) (aj [-c4<=c2/\c2<c4] (leaf normal ([AV.bool false,c5,func 79 [],int i64 c2],[]))))) (leaf (exit 0) (c3,[]))):=ah
theorem US {n i:Nat} {k:Nat->Rat}:cP T ig [] 60 f200 [part ve [1,1]] ⟨aG uV (BM n k i),[],1⟩=
  some (leaf ret [AV.bool true]):=ah
theorem aeI {n:Nat} {k:Nat->Rat}:bF T FL [] 60 f112 (aF f112) ⟨aS 0 [bq k n sJ],[],0⟩=
  let c1:Prop:=n<2^40;some (aj [bQ (fun i=>rat (k i) sJ) n sJ,c1,n=n,BX (fun i=>rat (aC (rat (k i) sJ)) sK) n sK,c1] (leaf ret [ak 3 (bO (fun i=>aC (rat (aC (rat (k i) sJ)) sK)) n) fun i=>rat (mc (fun i=>aC (rat (aC (rat (k i) sJ)) sK)) n (i+0)) 4096])):=ah
def kF (g:FuncId):Kind Unit:=⟨fun v=>match v with
 |.func f []=>match Nat.beq f g with
  |true=>some ((),[])
  |false=>none
 |_=>none,fun _=>.func g [],fun {v a q} h _=>by
  split at h
  ·split at h
   ·rename_i hb
    rw[Nat.eq_of_beq_eq_true hb];exact .refl _
   ·simp at h
  ·simp at h⟩
def oW (p:Prop):Bool:=@decide p (Classical.propDecidable p)
theorem Wj {p:Prop} (h:p):oW p=true:=@decide_eq_true p (Classical.propDecidable p) h
theorem Ra {p:Prop} (h:¬p):oW p=false:=@decide_eq_false p (Classical.propDecidable p) h
theorem UN {p:Prop} (h:oW p=true):p:=@of_decide_eq_true p (Classical.propDecidable p) h
theorem We {p:Prop} (h:oW p=false):¬p:=@of_decide_eq_false p (Classical.propDecidable p) h
theorem aaO {n:Nat} {k:Nat->Rat} (hn:n<2^40) (K:Nat):aN P 200 K [ls k n,.func 79 []] [] (aH (.bool (oW (ql n k))) []):=by
 refine iu (r:=aH (.bool (oW (ql n k))) []) hT l6 hm abS rfl aW rfl [1,0,1] (i:=0) (y:=part ve [1,0,1,0,0]) (z:=part ve [1,1]) ah ah ah (f1:=[]) (f2:=[10,24]) (f3:=[]) 60 uV 1
  (fun i:Nat=>BM n k i) (fun _=>[]) (fun i=>i<=n/\∀j,i<=j+1->j+1<n->k j<=k (j+1)) (fun _=>ql n k) (fun i=>i) (fun _=>⟨⟨_,agi,?_⟩,fun i ⟨h1,h2⟩=>⟨_,SW,?_⟩,fun i hi=>⟨_,US,?_⟩⟩) K []
 ·simp only[ag.all,au]
  exact⟨aa,n,⟨aR,fun j h1 h2=>aa⟩,fz.vals rfl⟩
 ·simp only[ag.all,au,bz,bG,oD]
  refine⟨fun h=>⟨aa,fun hlt=>⟨[.bool false],ah,gZ ?_⟩,fun hle=>⟨aa,i-1,⟨aa,fun j g1 g2=>?_⟩,by dsimp only;omega,[],rfl,?_,rfl,trivial⟩⟩,fun h=>⟨rfl,i,fun j hj=>h2 j aa hj,[],rfl,rfl,rfl,trivial⟩⟩
  ·refine(Ra fun hs=>?_).symm
   have:=hs (i-2) aa
   rw[show((i:Int)-1).toNat=i-2+1 by omega,show((i:Int)-1-1).toNat=i-2 by omega]at hlt
   grind
  ·by_cases he:j+2=i
   ·rw[show((i:Int)-1).toNat=j+1 by omega,show((i:Int)-1-1).toNat=j by omega]at hle
    grind
   ·exact h2 j aa g2
  ·show _=[_,_,_,AV.int .i64 (((i-1:Nat):Int)-1)]
   rw[show((i-1:Nat):Int)-1=(i:Int)-1-1 by omega];rfl
 ·simp only[ag.all,au]
  exact gZ (Wj hi).symm
def L6:Spec:=cF (kC (kL sK) (kC (kF 79) kN)) (fun a=>.bool (oW (ql a.1.1 a.1.2))) fun a=>[a.1.1<2^40]
theorem aam:bf P L6 200:=cC fun⟨⟨n,k⟩,_,_⟩ K hn=>aaO hn K
def Nd:Spec:=cF (kC (kL sJ) kN) (fun a=>ls (cy a.1.2 a.1.1) (bO a.1.2 a.1.1)) fun a=>[a.1.1<2^40]
theorem aeT:bg P FL:=aE U6 (aE R5 bD)
theorem ED:bf P Nd 112:=cC fun⟨⟨n,k⟩,_⟩ K hn=>by
 have hn:n<2^40:=hn
 refine bM (r:=aH (ls (cy k n) (bO k n)) []) hT aeT hm afH rfl aW rfl 60 aeI (fun _=>?_) K []
 simp only[ag.all,au]
 exact⟨⟨cV aR,hn,trivial,SV aR,hn⟩,tO rfl fun i hi=>by
  show AV.rat (mc k n (i+0)) sK=_
  have hi:i<bO k n:=hi
  rw[Nat.add_zero];unfold mc;rw[if_pos hi]⟩
theorem YG:aX 185 f185:=aM func185
def AS:aV:=(200,L6)::(112,Nd)::(113,xQ)::gy
abbrev uE:Code:=aF f185
abbrev rH:List Nat:=[0,1,4,48,49,50]
abbrev DS (n:Nat) (k:Nat->Rat) (p:Int) (d:Nat) (f:Nat->Rat) (i:Nat):List AV:=[bq k n sJ,.int .i64 p,.int .i64 0,bq f d sK,.int .i64 d,.int .i64 i]
theorem Zq {n:Nat} {k:Nat->Rat} {p:Int}:aL T AS [18,15,22,29,35,46] 60 rH (before uE [1,1,1,0,1]) ⟨aS 0 [bq k n sJ,.int .i64 p],[],0⟩=
  let c16:Int:=(↑n:Int);let c15:Prop:=bQ (fun i=>rat (k i) sJ) n sK;let c14:Nat:=Int.toNat (0:Int);let c13:Nat:=bO (fun i=>aC (rat (k i) sJ)) n;let c11:Bool:=decide (p<1);let c10:Int:=i64.wrap (i64.wrap ((2:Int)*p)+2);let c9:Prop:=n<2^40;let c7:List AV:=[tuple [],tuple [],tuple []];let c6:Bool:=!oW (ql n fun i=>aC (rat (k i) sJ));let c3:AV:=ak 3 n fun i=>rat (k i) 4000;let c12:List AV:=c3::int i64 p::int i64 1::c7;let c8:Int:=i64.wrap (i64.wrap (c16-p)-1);let c5:Int:=i64.wrap (c16-1);let c4:ag (List AV×aD):=leaf ret (c3::int i64 p::int i64 5::c7,[]);let c2:ag (List AV×aD):=aj [bQ (fun i=>rat (k i) sJ) n sJ,c9] (leaf normal ([c3,int i64 p,int i64 0,ak 3 c13 fun i=>rat (cy (fun i=>aC (rat (k i) sJ)) n i) 4096,int i64 (↑c13:Int),int i64 0],[]));let c1:ag (List AV×aD):=fork (decide (c16<c10)) c4 (fork (decide (c8>40)) (leaf ret (c3::int i64 p::int i64 2::c7,[])) (fork c6 (aj [c15,c9,c6=true] (fork true c4 c2)) (aj [c15,c9,c6=false,(0:Int)<=0/\c14<n,(0:Int)<=c5/\c5.toNat<n] (fork (bif false then true else decide (k c14=k c5.toNat)) c4 c2))));some (fork c11 (aj [c11=true] (fork true (leaf ret (c12,[])) c1)) (aj [c11=false] (fork (bif false then true else decide (p>6)) (leaf ret (c12,[])) c1))):=ah
theorem aas {n d i:Nat} {k f:Nat->Rat} {p:Int}:aL T AS [51,62,73,79,82,87] 60 rH [part uE [1,1,1,0,1,0,0]] ⟨aG rH (DS n k p d f i),[],1⟩=
  let c18:Int:=(↑d:Int);let c16:Prop:=false=false;let c13:Int:=(↑i:Int);let c12:Prop:=0<1;let c11:AV:=ak 3 d fun i=>rat (f i) 4096;let c10:AV:=ak 3 n fun i=>rat (k i) 4000;let c9:Int:=i64.wrap ((↑n:Int)-1);let c8:Nat:=Int.toNat (0:Int);let c17:Prop:=(0:Int)<=0/\c8<n;let c14:List AV:=[c11,int i64 c18,int i64 c13];let c7:Rat:=f c13.toNat;let c1:ag (List AV×aD):=leaf normal ([c10,int i64 p,int i64 0,c11,int i64 c18,int i64 (i64.wrap (c13+1))],[]);let c15:Bool:=decide (c7=k c8);let c4:Int:=(↑(bU (fun i=>aC (rat (k i) sJ)) c7 n):Int);let c3:Bool:=bif false then true else decide (c7=k c9.toNat);let c2:ag (List AV×aD):=leaf ret (c10::int i64 p::int i64 5::c14,[]);let c6:ag (List AV×aD):=fork (bif false then true else bif true then decide (c4>p)else false) c2 c1;let c5:Bool:=bif true then c4 !=i64.wrap (p+1)else false;some (fork (decide (c13<c18)) (aj [(0:Int)<=c13/\c13.toNat<d,c12] (aj [c12,bQ (fun i=>rat (k i) sJ) n sK,sK<=sK,n<2^40] (fork c15 (aj [c12,c17,c15=true] (fork true (fork c5 (aj [true=true,c5=true] (fork true c2 c1)) (fork false (aj [true=true,c5=false,(!true)=true] c6) (aj [true=true,c5=false,(!true)=false] (fork false c2 c1)))) (fork false (aj [true=false,false=true] (fork true c2 c1)) (fork false (aj [true=false,c16,(!true)=true] c6) (aj [true=false,c16,(!true)=false] (fork false c2 c1)))))) (aj [c12,c17,c15=false,c12,(0:Int)<=c9/\c9.toNat<n] (fork c3 (fork c5 (aj [c3=true,c5=true] (fork true c2 c1)) (fork (!c3) (aj [c3=true,c5=false,(!c3)=true] c6) (aj [c3=true,c5=false,(!c3)=false] (fork false c2 c1)))) (fork false (aj [c3=false,false=true] (fork true c2 c1)) (fork (!c3) (aj [c3=false,c16,(!c3)=true] c6) (aj [c3=false,c16,(!c3)=false] (fork false c2 c1))))))))) (leaf (exit 1) (c10::int i64 p::int i64 0::c14,[]))):=ah
theorem O4 {n d i:Nat} {k f:Nat->Rat} {p:Int}:cP T AS [] 60 f185 [part uE [1,1,1,1]] ⟨aG rH (DS n k p d f i),[],1⟩=
  some (leaf ret [int i64 0]):=ah
theorem Sm:bg P AS:=aE aam (aE ED (aE Dj gH))
def rS (n:Nat) (p:Int):Prop:=1<=p/\p<=6/\2*p+2<=(n:Int)/\(n:Int)-p-1<=40
theorem Sc {n:Nat} {k:Nat->Rat} {p:Int} (hn:n<2^40) (K:Nat):aN P 185 K [bq k n sJ,.int .i64 p] [] (aH (.int .i64 (iN n k p)) []):=by
 refine iu (r:=aH (.int .i64 (iN n k p)) []) hT Sm hm YG rfl aW rfl [1,1,1,0,1] (i:=1) (y:=part uE [1,1,1,0,1,0,0]) (z:=part uE [1,1,1,1]) ah ah ah (f1:=[18,15,22,29,35,46]) (f2:=[51,62,73,79,82,87]) (f3:=[]) 60 rH 1
  (fun i:Nat=>DS n k p (bO k n) (cy k n) i) (fun _=>[]) (fun i=>i<=bO k n/\rS n p/\ql n k/\k 0≠k (n-1)/\∀j,j<i->¬kU n k p.toNat (cy k n j)) (fun _=>rS n p/\rI n k p.toNat) (fun i=>bO k n-i) (fun _=>⟨⟨_,Zq,?_⟩,fun i ⟨h1,h2,h3,h4,h5⟩=>⟨_,aas,?_⟩,fun i ⟨h1,h2⟩=>⟨_,O4,?_⟩⟩) K []
 ·have r:∀{e:Int} {u:AV},iN n k p=e->qC f185 rH (.int .i64 (iN n k p)) ([u,.int .i64 p,.int .i64 e,.tuple [],.tuple [],.tuple []],[]):=fun h=>⟨[.int .i64 _],ah,bW h.symm⟩
  by_cases hp:1<=p/\p<=6
  ·have e1:i64.wrap (i64.wrap (2*p)+2)=2*p+2:=by rw[wrap_i64 (show-2^63<=2*p by omega) aa];exact wrap_i64 aa aa
   have e2:i64.wrap (i64.wrap ((n:Int)-p)-1)=(n:Int)-p-1:=by rw[wrap_i64 (show-2^63<=(n:Int)-p by omega) aa];exact wrap_i64 aa aa
   have e3:i64.wrap ((n:Int)-1)=(n:Int)-1:=wrap_i64 aa aa
   have e5:((n:Int)-1).toNat=n-1:=aa
   simp only[ag.all,au,decide_eq_true_eq,decide_eq_false_iff_not,Bool.not_eq_true',Bool.not_eq_false',cond_true,cond_false,Int.toNat_natCast,Int.toNat_zero,k8,e1,e2,e3,e5]
   (repeat' with_reducible first|refine And.intro ?_ ?_|intro _)
   all_goals first|exact absurd ‹true=false› (by decide)|exact absurd ‹false=true› (by decide)|omega|(exfalso;omega)|exact cV (by decide)|assumption|exact r (afp aa aa)|exact r (S8 aa aa aa)|exact r (Ex aa aa aa fun h=>We ‹_› h.1)|exact r (Ex aa aa aa fun h=>h.2.1 ‹_›)|exact⟨0,⟨Nat.zero_le _,⟨aa,aa,aa,aa⟩,UN ‹_›,‹_›,fun j hj=>absurd hj (Nat.not_lt_zero j)⟩,fz.vals rfl⟩|skip
   skip
  ·simp only[ag.all,au,decide_eq_true_eq,decide_eq_false_iff_not,Bool.not_eq_true',Bool.not_eq_false',cond_true,cond_false,Int.toNat_natCast]
   (repeat' with_reducible first|refine And.intro ?_ ?_|intro _)
   all_goals first|exact absurd ‹true=false› (by decide)|exact absurd ‹false=true› (by decide)|omega|(exfalso;omega)|exact r (Rz aa)|skip
   skip
 ·obtain⟨q,rfl⟩:∃q:Nat,p=(q:Int):=⟨p.toNat,by have:=h2.1;omega⟩
  have hq:=h2
  unfold rS at hq
  have e1:i64.wrap ((q:Int)+1)=((q+1:Nat):Int):=by rw[wrap_i64 aa aa];rfl
  have e2:i64.wrap ((i:Int)+1)=((i+1:Nat):Int):=by rw[wrap_i64 aa (by have:=rO (k:=k) (n:=n);omega)];rfl
  have e3:i64.wrap ((n:Int)-1)=(n:Int)-1:=wrap_i64 aa aa
  have e5:((n:Int)-1).toNat=n-1:=aa
  simp only[Int.toNat_natCast]at h5
  have hd:=rO (k:=k) (n:=n)
  have r:∀{u v w x y:AV},kU n k q (cy k n i)->i<bO k n->qC f185 rH (.int .i64 (iN n k q)) ([u,v,.int .i64 5,w,x,y],[]):=fun h hi=>⟨[.int .i64 5],ah,bW (Ex aa aa aa fun hk=>hk.2.2 i hi (by rw[Int.toNat_natCast];exact h)).symm⟩
  have nx:¬kU n k q (cy k n i)->i<bO k n->∀j,j<i+1->¬kU n k q (cy k n j):=fun h hi j hj=>by
   by_cases he:j=i
   ·subst he;exact h
   ·exact h5 j aa
  simp only[ag.all,au,decide_eq_true_eq,decide_eq_false_iff_not,Bool.not_eq_true',Bool.not_eq_false',cond_true,cond_false,Int.toNat_natCast,Int.toNat_zero,k8,e1,e2,e3,e5,bne_iff_ne,bne_eq_false_iff_eq,ne_eq]
  obtain⟨c,hc⟩:∃c,bU k (cy k n i) n=c:=⟨_,rfl⟩
  have hc':bU (fun i=>k i) (cy k n i) n=c:=hc
  simp only[hc']
  have b1:cy k n i=k 0->c≠q+1->kU n k q (cy k n i):=fun h1 h2=>.inl ⟨.inl h1,by rw[hc];exact h2⟩
  have b2:cy k n i=k (n-1)->c≠q+1->kU n k q (cy k n i):=fun h1 h2=>.inl ⟨.inr h1,by rw[hc];exact h2⟩
  have b3:¬cy k n i=k 0->¬cy k n i=k (n-1)->q<c->kU n k q (cy k n i):=fun h1 h2 h3=>.inr ⟨fun h=>h.elim h1 h2,by rw[hc];exact h3⟩
  have g1:cy k n i=k 0->c=q+1->¬kU n k q (cy k n i):=by
   rintro h1 h2 (⟨_,h3⟩|⟨h3,_⟩)
   ·exact h3 (by rw[hc];exact h2)
   ·exact h3 (.inl h1)
  have g2:cy k n i=k (n-1)->c=q+1->¬kU n k q (cy k n i):=by
   rintro h1 h2 (⟨_,h3⟩|⟨h3,_⟩)
   ·exact h3 (by rw[hc];exact h2)
   ·exact h3 (.inr h1)
  have g3:¬cy k n i=k 0->¬cy k n i=k (n-1)->c<=q->¬kU n k q (cy k n i):=by
   rintro h1 h2 h3 (⟨h4,_⟩|⟨_,h4⟩)
   ·exact h4.elim h1 h2
   ·rw[hc]at h4;omega
  clear hc hc'
  (repeat' with_reducible first|refine And.intro ?_ ?_|intro _)
  all_goals first|exact absurd ‹true=false› (by decide)|exact absurd ‹false=true› (by decide)|omega|(exfalso;omega)|exact cV (by decide)|assumption|skip
  all_goals first
   |exact absurd ‹cy k n i=k (n-1)› ‹_›
   |exact⟨rfl,i,⟨h2,h3,h4,fun j hj=>h5 j aa⟩,fz.vals rfl⟩
   |exact r (b1 ‹_› aa) aa
   |exact r (b2 ‹_› aa) aa
   |exact r (b3 ‹¬_=k 0› ‹_› (by have:=of_decide_eq_true ‹decide _=true›;omega)) aa
   |exact⟨i+1,⟨aa,h2,h3,h4,nx (g1 ‹_› aa) aa⟩,by dsimp only;omega,fz.vals rfl⟩
   |exact⟨i+1,⟨aa,h2,h3,h4,nx (g2 ‹_› aa) aa⟩,by dsimp only;omega,fz.vals rfl⟩
   |exact⟨i+1,⟨aa,h2,h3,h4,nx (g3 ‹¬_=k 0› ‹_› (by have:=of_decide_eq_false ‹decide _=false›;omega)) aa⟩,by dsimp only;omega,fz.vals rfl⟩
 ·simp only[ag.all,au]
  exact bW (X5 (by have:=h1;unfold rS at this;omega) (by have:=h1;unfold rS at this;omega) (by have:=h1;unfold rS at this;omega) h2).symm
def Ki:Spec:=cF (kC (kL sJ) (kC kI kN)) (fun a=>.int .i64 (iN a.1.1 a.1.2 a.2.1)) fun a=>[a.1.1<2^40]
theorem agH:bf P Ki 185:=cC fun⟨⟨n,k⟩,p,_⟩ K hn=>Sc hn K
theorem Vo:aX 175 f175:=aM func175
theorem K6:aX 145 f145:=aM func145
theorem agA:aX 101 f101:=aM func101
def J3:aV:=(144,fL kR kR rq oG)::ja
abbrev rM:Nat:=8193
def FU:Spec:=cF (kC (dQ rM) (kC (dQ rM) kN)) (fun a=>.rat (a.1/a.2.1) sF) fun _=>[]
theorem adB {a b:Rat} {n:Nat}:bF T J3 [] 60 f175 (aF f175) ⟨aS 0 [.rat a n,.rat b n],[],0⟩=
  let c2:Prop:=n<2^41;let c1:Prop:=0<1;some (aj [c1,c1,c2,c2,c1] (aj [c1,c1] (aj [c1] (leaf ret [rat (a/b) (n+n)])))):=ah
theorem ahx:bg P J3:=aE (fQ fun _ _ K hn=>Fm hn.1 hn.2 K) jw
theorem acv:bf P FU 175:=cC fun⟨a,b,_⟩ K _=>by
 refine bM (r:=aH (.rat (a/b) sF) []) hT ahx hm Vo rfl aW rfl 60 adB (fun _=>?_) K []
 simp only[ag.all,au]
 have h1:rM=8193:=rfl
 (repeat' with_reducible refine And.intro ?_ ?_)
 all_goals first|omega|exact(bC rfl (show rM+rM<=sF by decide))
def J5 (d:Nat):Spec:=cF (kC (kL sK) (kC kI (kC kI (kC kI (kC (dQ sK) kN))))) (fun a=>.rat (nC a.1.2 a.2.2.2.1.toNat a.2.2.2.2.1 d a.2.1.toNat) (SB d)) fun a=>[a.2.2.1=d,0<=a.2.1,0<=a.2.2.2.1,a.2.1+d+1<a.1.1,a.1.1<2^40,a.2.2.2.1<2^40,d<=6]
def OB (d:Nat):aV:=nG::(145,J5 d)::(175,FU)::(20,tC)::ja
abbrev xH (n:Nat) (k:Nat->Rat) (i d a:Nat) (t:Rat):List AV:=[ls k n,.int .i64 i,.int .i64 d,.int .i64 a,.rat t sK]
theorem Re {n i a:Nat} {k:Nat->Rat} {t:Rat}:bF T (nG::(20,tC)::ja) [17] 60 f145 (aF f145) ⟨aS 0 (xH n k i 0 a t),[],0⟩=
  let c1:List Prop:=[(0:Nat)<1];some (fork ((↑i:Int)==(↑a:Int)) (aj c1 (aj c1 (leaf ret [rat (↑(1:Int):Rat) 1]))) (aj c1 (aj c1 (leaf ret [agg [AV.bool false,mag 0,mag 0]])))):=ah
theorem acP {n i d a:Nat} {k:Nat->Rat} {t:Rat}:bF T (OB d) [200014,23,29] 60 f145 (aF f145) ⟨aS 0 (xH n k i (d+1) a t),[],0⟩=
  let c22:Prop:=sK+sK+1<=rM;let c21:Int:=(↑d:Int);let bK:Prop:=n<2^40;let c15:Prop:=bQ (fun i=>rat (k i) sK) n sK;let c14:Int:=(↑(d+1):Int);let c10:Int:=(↑a:Int);let c6:Int:=(↑i:Int);let c5:Prop:=0<1;let c4:Nat:=2^41;let c3:Int:=(2:Int)^63;let c19:Prop:=c10<2^40;let c17:Prop:=(0:Int)<=c6/\c6.toNat<n;let c16:Bool:=decide (c10<c6);let c12:List Prop:=[sK<c4,sK<c4,c22,c22,c5];let c11:ag (List AV):=aj [c5] (aj [c5] (leaf ret [agg [AV.bool false,mag 0,mag 0]]));let c9:Int:=c6+1;let c7:Int:=c14-1;let c2:Int:=c6+c14;let c13:Prop:=-c3<=c2/\c2<c3;let c8:Int:=c2+1;let c18:Prop:=(0:Int)<=c8/\c8.toNat<n;let c1:ag (List AV):=aj (c5::c17::(sK<c4)::(sK<c4)::c13::((0:Int)<=c2/\c2.toNat<n)::c17::c12) (aj (c13::(-c3<=c8/\c8<c3)::c18::c5::(sK<c4)::(sK<c4)::c13::(-c3<=c8/\c8<c3)::c18::(-c3<=c9/\c9<c3)::((0:Int)<=c9/\c9.toNat<n)::c12) (aj [c5,-c3<=c7/\c7<c3,c5,c15,sK<=sK,c7=c21,(0:Int)<=c6,(0:Int)<=c10,c6+c21+1<(↑n:Int),bK,c19,d<=6,sF<c4,SB d<c4,c5,-c3<=c9/\c9<c3,-c3<=c7/\c7<c3,c5,c15,sK<=sK,c7=c21,(0:Int)<=c9,(0:Int)<=c10,c9+c21+1<(↑n:Int),bK,c19,d<=6,sF<c4,SB d<c4,sF+SB d<c4,sF+SB d<c4,c5] (aj [c5] (leaf ret [rat ((t-k c6.toNat)/(k c2.toNat-k c6.toNat)*nC (fun i=>aC (rat (k i) sK)) c10.toNat t d c6.toNat+(k c8.toNat-t)/(k c8.toNat-k c9.toNat)*nC (fun i=>aC (rat (k i) sK)) c10.toNat t d c9.toNat) (sF+SB d+(sF+SB d)+1)]))));some (aj [(c14==0)=false] (fork c16 (aj [c16=true] (fork true c11 c1)) (aj [c16=false,c13] (fork (bif false then true else decide (c10>c2)) c11 c1)))):=ah
def vI (p:Nat):aV:=nG::(48,u7)::(145,J5 p)::ja
abbrev qL:List Nat:=[0,1,5,9,11,12,6,7,8]
abbrev AO (n:Nat) (k:Nat->Rat) (p a:Nat) (v:AV) (i:Int):List AV:=[ls k n,.int .i64 p,.ptr 0 0 3 0 [],.int .i64 a,v,.int .i64 i,.int .i64 0,.nil,.int .i64 0]
abbrev xS:Code:=aF f101
abbrev EI:Code:=part xS [1,1,1,1,0,1,0,0]
theorem U3 {n p:Nat} {k:Nat->Rat} {t:Rat}:aL T (vI p) [21] 60 qL (before xS [1,1,1,1,0,1]) ⟨aS 0 [ls k n,.int .i64 p,.rat t sK],[],0⟩=
  let c7:AV:=int i64 0;let c6:Int:=g9 n (fun i=>aC (rat (k i) sK)) t;let c5:Int:=(↑p:Int);let c4:AV:=ak 3 n fun i=>rat (k i) 4096;let c3:AV:=ptr 0 0 (bE (rat t sK)).size 0 [];let c2:Nat×az:=(0,az.mk false true (bE (rat t sK)).size 1 fun x=>rat t 4096);let c1:Int:=(↑(jK n (fun i=>aC (rat (k i) sK)) t):Int);some (aj [(0:Nat)<1,bQ (fun i=>rat (k i) sK) n sK,sK<=sK,Kn n c5.toNat fun i=>aC (rat (k i) sK),(0:Int)<=c5,n<2^40] (fork (c6 !=(0:Int)) (leaf ret ([c4,int i64 c5,c3,int i64 c1,tuple [],tuple [],c7,nil,int i64 c6],[c2])) (aj [-(2:Int)^63<=c1-c5/\c1-c5<2^63] (leaf normal ([c4,int i64 c5,c3,int i64 c1,nil,int i64 (c1-c5),c7,nil,c7],[c2]))))):=ah
theorem Vy {n p a:Nat} {k:Nat->Rat} {t:Rat} {i:Int}:aL T (vI p) [28] 60 qL [EI] ⟨aG qL (AO n k p a .nil i),[(0,tP t sK)],2⟩=
  let c6:Int:=(↑p:Int);let c5:Int:=(↑a:Int);let c4:AV:=int i64 0;let c3:AV:=ptr 0 0 3 0 [];let c2:AV:=ak 3 n fun i=>rat (k i) 4096;let c1:Nat×az:=((0:Nat),bL fun x=>rat t 4096);some (fork (decide (i<=c5)) (aj [(0:Nat)<1,bQ (fun i=>rat (k i) sK) n sK,sK<=sK,c6=c6,(0:Int)<=i,(0:Int)<=c5,i+c6+1<(↑n:Int),n<2^40,c5<2^40,p<=6,(1:Nat)*3<=2^24,(0:Nat)<1/\1*((56:Nat)+1)*2<=2^47] (aj [-(2:Int)^63<=i+1/\i+1<(2:Int)^63] (leaf normal ([c2,int i64 c6,c3,int i64 c5,own 45058 3 0 1,int i64 (i+1),c4,nil,c4],[(45058,az.mk true true 3 1 fun i_1=>nth [rat (nC (fun i=>aC (rat (k i) sK)) c5.toNat t p i.toNat) (SB p)] (rat 0 1) (i_1+0)),c1])))) (leaf (exit 0) ([c2,int i64 c6,c3,int i64 c5,nil,int i64 i,c4,nil,c4],[c1]))):=ah
theorem aio {n p a j:Nat} {k x:Nat->Rat} {t:Rat} {i:Int}:aL T (vI p) [28] 60 qL [EI] ⟨aG qL (AO n k p a (.own 1 3 0 (j+1)) i),[(1,Ad (j+1) x fun _=>SB p),(0,tP t sK)],2⟩=
  let c7:Int:=(↑p:Int);let c6:Int:=(↑a:Int);let c5:AV:=int i64 0;let c4:AV:=ptr 0 0 3 0 [];let c3:AV:=ak 3 n fun i=>rat (k i) 4096;let c2:Nat:=j+1;let c1:Nat×az:=((0:Nat),bL fun x=>rat t 4096);let c8:Nat:=c2+1;some (fork (decide (i<=c6)) (aj [(0:Nat)<1,bQ (fun i=>rat (k i) sK) n sK,sK<=sK,c7=c7,(0:Int)<=i,(0:Int)<=c6,i+c7+1<(↑n:Int),n<2^40,c6<2^40,p<=6,(1:Nat)*3<=2^24,c8*((56:Nat)+1)*2<=2^47] (aj [-(2:Int)^63<=i+1/\i+1<(2:Int)^63] (leaf normal ([c3,int i64 c7,c4,int i64 c6,own 45058 3 0 c8,int i64 (i+1),c5,nil,c5],[(45058,az.mk true true 3 c8 fun i_1=>if i_1<c2 then rat (x i_1) (SB p)else nth [rat (nC (fun i=>aC (rat (k i) sK)) c6.toNat t p i.toNat) (SB p)] (rat 0 1) (i_1-c2+0)),c1])))) (leaf (exit 0) ([c3,int i64 c7,c4,int i64 c6,own 1 3 0 c2,int i64 i,c5,nil,c5],[(1,az.mk true true 3 c2 fun i=>rat (x i) (SB p)),c1]))):=ah
theorem aha {n p a j:Nat} {k x:Nat->Rat} {t:Rat} {i:Int}:cP T (vI p) [] 60 f101 [part xS [1,1,1,1,1]] ⟨aG qL (AO n k p a (.own 1 3 0 (j+1)) i),[(1,Ad (j+1) x fun _=>SB p),(0,tP t sK)],2⟩=
  let c1:Int:=(↑a:Int)-(↑p:Int);some (aj [-(2:Int)^63<=c1/\c1<2^63] (leaf ret [int i64 c1,ak 3 (j+1) fun i=>rat (x (i+0)) (SB p),int i64 0])):=ah
theorem S0:bg P (nG::(20,tC)::ja):=eP (aE (y8 Ay) jw)
theorem MK {n:Nat} {k:Nat->Rat} {t:Rat} (hn:n<2^40):∀d i a,i+d+1<n->a<2^40->d<=6->∀K,aN P 145 K (xH n k i d a t) [] (aH (.rat (nC k a t d i) (SB d)) [])
 |0,i,a,hi,ha,hd,K=>by
  refine bM (r:=aH (.rat (nC k a t 0 i) (SB 0)) []) hT S0 hm K6 rfl aW rfl 60 Re (fun _=>?_) K []
  simp only[ag.all,au,beq_iff_eq,beq_eq_false_iff_ne,ne_eq]
  refine⟨fun h=>⟨aa,aa,?_⟩,fun h=>⟨aa,aa,?_⟩⟩
  ·unfold nC;rw[if_pos aa];exact bC rfl (by decide)
  ·unfold nC;rw[if_neg aa];exact k9 (k:=65535)
 |d+1,i,a,hi,ha,hd,K=>by
  have hΓ:bg P (OB d):=eP (aE (cC fun⟨⟨n',k'⟩,i',d',a',t',_⟩ K hn'=>by
   obtain⟨h1,h2,h3,h4,h5,h6,h7⟩:=hn'
   simp only at h1 h2 h3 h4 h5 h6
   have:=MK (n:=n') (k:=k') (t:=t') h5 d i'.toNat a'.toNat aa aa h7 K
   unfold xH at this
   rw[Int.toNat_of_nonneg h2,Int.toNat_of_nonneg h3]at this
   rw[h1]
   exact this) (aE acv (aE (y8 Ay) jw)))
  refine bM (r:=aH (.rat (nC k a t (d+1) i) (SB (d+1))) []) hT hΓ hm K6 rfl aW rfl 60 acP (fun _=>?_) K []
  have h1:=B4 (d:=d)
  have h2:=BT (d:=d)
  have h3:=xZ (d:=d) aa
  have h4:sV=268435456:=rfl
  have h5:=Ip
  have h6:sK=4096:=rfl
  have h7:rM=8193:=rfl
  simp only[ag.all,au,k8,beq_eq_false_iff_ne,ne_eq,bz,bG,cond_false,br,show((i:Int)+((d+1:Nat):Int)).toNat=i+(d+1) by omega,show((i:Int)+((d+1:Nat):Int)+1).toNat=i+(d+2) by omega,show((i:Int)+1).toNat=i+1 by omega]
  rw[nC]
  (repeat' with_reducible first|refine And.intro ?_ ?_|intro _)
  all_goals first|omega|exact cV aR|exact absurd ‹true=false› (by decide)|(rw[if_pos aa];exact k9 (k:=SB (d+1)-1))|skip
  all_goals first|(rw[if_pos aa,show SB (d+1)=SB (d+1)-1+1 by omega];exact k9)|skip
  rw[if_neg aa]
  exact bC rfl aa
theorem ag3 {p:Nat}:bg P (vI p):=eP (aE Nb (aE (cC fun⟨⟨n',k'⟩,i',d',a',t',_⟩ K hn'=>by
 obtain⟨h1,h2,h3,h4,h5,h6,h7⟩:=hn'
 simp only at h1 h2 h3 h4 h5 h6
 have:=MK (n:=n') (k:=k') (t:=t') h5 p i'.toNat a'.toNat aa aa h7 K
 unfold xH at this
 rw[Int.toNat_of_nonneg h2,Int.toNat_of_nonneg h3]at this
 rw[h1]
 exact this) jw))
theorem afU {n p:Nat} {k:Nat->Rat} {t:Rat} (h:Kn n p k) (hp6:p<=6) (hn:n<2^40) (K:Nat):aN P 101 K [ls k n,.int .i64 p,.rat t sK] [] (aH (Dh n k p t) []):=by
 refine iu (r:=aH (Dh n k p t) []) hT ag3 hm agA rfl aW rfl [1,1,1,1,0,1] (i:=0) (y:=EI) (z:=part xS [1,1,1,1,1]) ah ah ah (f1:=[21]) (f2:=[28]) (f3:=[]) 60 qL 2
  (fun j:Nat=>AO n k p (bY n k t) (match j with
   |0=>.nil
   |_+1=>.own 1 3 0 j) ((bY n k t:Int)-p+j)) (fun j=>match j with
   |0=>[(0,tP t sK)]
   |_+1=>[(1,Ad j (fun j=>nC k (bY n k t) t p (bY n k t-p+j)) fun _=>SB p),(0,tP t sK)])
  (fun j=>j<=p+1/\¬fk n k t) (fun j=>j=p+1/\¬fk n k t) (fun j=>p+1-j) (fun _=>⟨⟨_,U3,?_⟩,fun j ⟨hj,hin⟩=>?_,fun j ⟨hj,hin⟩=>?_⟩) K []
 ·simp only[ag.all,au,k8,bne_iff_ne,ne_eq,bne_eq_false_iff_eq,br]
  refine⟨⟨aa,cV aR,aR,h,aa,hn⟩,fun hout=>?_,fun hin=>?_⟩
  ·have h1:=abO hout
   exact⟨[.int .i64 0,.nil,.int .i64 (g9 n k t)],ah,by rw[show g9 n k t=7 by unfold g9;rw[if_pos h1]];exact Ql h1⟩
  ·have hin:=HO hin
   have hv:=h.vW hin
   have hii:jK n k t=bY n k t:=by unfold jK;rw[if_neg hin]
   simp only[hii]
   exact⟨aa,0,⟨aa,hin⟩,[(0,0)],rfl,by simp only[Int.natCast_zero,Int.add_zero];rfl,rfl,aY trivial⟩
 ·have hv:=h.vW hin
  cases j with
  |zero=>
   refine⟨_,Vy,?_⟩
   simp only[ag.all,au,k8,bz,bG,br,Int.natCast_zero,Int.add_zero]
   refine⟨fun h1=>⟨⟨aa,cV aR,aR,trivial,aa,aa,aa,hn,aa,aa,aa,aa⟩,aa,1,⟨aa,hin⟩,by dsimp only;omega,[(0,0),(1,45058)],rfl,rfl,rfl,cJ rfl rfl rfl (fun i hi=>WQ (y:=fun j=>nC k (bY n k t) t p (bY n k t-p+j)) (by rw[show((bY n k t:Int)-p).toNat=bY n k t-p by omega];rfl) aR hi) (aY trivial)⟩,fun h1=>aa⟩
  |succ j=>
   refine⟨_,aio,?_⟩
   simp only[ag.all,au,k8,bz,bG,br]
   refine⟨fun h1=>⟨⟨aa,cV aR,aR,trivial,aa,aa,aa,hn,aa,aa,aa,aa⟩,aa,j+2,⟨aa,hin⟩,by dsimp only;omega,[(0,0),(1,45058)],rfl,by rw[show(bY n k t:Int)-p+((j+1:Nat):Int)+1=(bY n k t:Int)-p+((j+2:Nat):Int) by omega];rfl,rfl,
    cJ rfl rfl rfl (fun i hi=>m8 (y:=fun j=>nC k (bY n k t) t p (bY n k t-p+j)) (fun _ _=>rfl) (by rw[show((bY n k t:Int)-p+((j+1:Nat):Int)).toNat=bY n k t-p+(j+1) by omega]) aR aR hi) (aY trivial)⟩,
    fun h1=>⟨rfl,j+1,⟨aa,hin⟩,[(0,0),(1,1)],rfl,rfl,rfl,cJ rfl rfl rfl (fun i hi=>eJ rfl rfl) (aY trivial)⟩⟩
 ·subst hj
  have hv:=h.vW hin
  refine⟨_,aha,?_⟩
  simp only[ag.all,au]
  refine⟨aa,ab9 hin fun j hj=>bC ?_ (xZ hp6)⟩
  have h1:¬t<k 0:=fun h=>hin (.inl h)
  have h2:¬k (n-1)<t:=fun h=>hin (.inr h)
  have hat:At n k (bY n k t):=(h.xX (by grind) (by grind)).1.at_
  exact(Ni hat hv.1 aa j aa).symm
theorem ac6:bf P Jb 101:=cC fun⟨⟨n,k⟩,p,t,_⟩ K hn=>by
 obtain⟨h1,h2,h3,h4⟩:=hn
 have h3:p<=6:=h3
 have:=afU h1 (by simp only;omega) h4 K (t:=t)
 rw[Int.toNat_of_nonneg h2]at this
 exact this
theorem K3:aX 19 f19:=aM func19
theorem acC:aX 102 f102:=aM func102
theorem Tm:aX 49 f49:=aM func49
theorem JE:aX 50 f50:=aM func50
theorem afz:aX 12 f12:=aM func12
def FH:aV:=(97,fL kR kR Dc oG)::(19,cQ T ja [] 60 f19)::ja
abbrev sH:Nat:=2147483648
abbrev sE:Nat:=4294967298
def tR (h:Pl):V3:=⟨((1:Int):Rat)/h.d*h.n.x,((1:Int):Rat)/h.d*h.n.y,((1:Int):Rat)/h.d*h.n.z⟩
def Nw:Spec:=cF (kC (Mx sH) kN) (fun a=>.agg [vA (tR a.1) sE,.rat a.1.d sH]) fun _=>[]
def UB:aV:=(19,cQ T ja [] 60 f19)::ja
def AN:aV:=nG::(101,Jb)::(102,cQ T UB [] 60 f102)::ja
abbrev wM:List Nat:=[2,4,5,6,8,9]
abbrev yB (p i:Nat) (x:Nat->Rat) (j:Nat):List AV:=[.ptr 0 0 3 0 [],.ptr 1 0 12 0 [],.int .i64 ((i:Int)-p),.ak 3 (p+1) (fun j=>.rat (x j) sV),.ptr 2 0 12 0 [],.int .i64 j]
abbrev mD (h:Pl) (s:Nat):az:=⟨false,true,12,1,fun _=>b7 h s⟩
abbrev Cz (c:Cu) (r:Nat):az:=⟨false,true,3,1,fun _=>bk c sK r⟩
abbrev sk:Code:=aF f50
theorem XT {h:Pl} {s:Nat}:bF T FH [] 60 f49 (aF f49) ⟨aS 0 [b7 h s],[],0⟩=
  let c9:Prop:=(0:Int)<=0;let c8:Rat:=(↑(1:Int):Rat)/h.d;let c7:Int:=(↑(4:Nat):Int);let c6:Int:=(↑(3:Nat):Int);let c4:Nat:=2^41;let c3:Int:=i64.wrap ((0:Int)+1);let c2:Nat:=Max.max 1 (bN (Int.natAbs (1:Int)));let c1:Prop:=0<1;let c11:Int:=i64.wrap (c3+1);let c10:Prop:=(0:Int)<=3/\(3:Int)<c7;let c5:Prop:=(0:Int)<=c11/\c11<c6;some (aj [-(2:Int)^63<=(1:Int),(1:Int)<2^63,c10,c1,c2<c4,s<c4,c9/\(0:Int)<c7,c1,(0:Int)<=1/\(1:Int)<c7,c1,(0:Int)<=2/\(2:Int)<c7,c1,c1,c9/\(0:Int)<c6,c1,c2+s<c4,s<c4,c9/\(0:Int)<c6,c1,c1,(0:Int)<=c3/\c3<c6,c1,c2+s<c4,s<c4,(0:Int)<=c3/\c3<c6,c1,c1,c5,c1,c2+s<c4,s<c4,c5,c1,c1,c1,c1,c10,c1,c1] (aj [c1] (leaf ret [agg [agg [rat (c8*h.n.x) (c2+s+s),rat (c8*h.n.y) (c2+s+s),rat (c8*h.n.z) (c2+s+s)],rat h.d s]]))):=ah
theorem OZ {c:Cu} {t:Rat} {r:Nat}:aL T AN [] 60 wM (before sk [1,1,1,0,1]) ⟨aS 0 [bk c sK r,.rat t sK],[],0⟩=
  let c5:Prop:=0<1;let c4:Nat:=bY c.n (fun i=>aC (rat (c.k i) sK)) t;let c3:Prop:=fk c.n (fun i=>aC (rat (c.k i) sK)) t;let c2:AV:=rat 0 1;let c1:az:=az.mk false true 12 1 fun x=>agg [c2,c2,c2,c2];some (aj [c5,c5,c5,bQ (fun i=>rat (c.k i) sK) c.n sK,sK<=sK,Kn c.n c.p.toNat fun i=>aC (rat (c.k i) sK),(0:Int)<=c.p,c.p<=6,c.n<2^40] (leaf normal ([ptr 0 0 (bE (bk c sK r)).size 0 [],ptr 8192 0 12 0 [],int i64 (if c3 then(0:Int)else(↑c4:Int)-(↑c.p.toNat:Int)),ak 3 (if c3 then 0 else c.p.toNat+1) fun j=>rat (vB (fun i=>aC (rat (c.k i) sK)) c4 t c.p.toNat j) 268435456,ptr 65536 0 12 0 [],int i64 0],[((65536:Nat),c1),((8192:Nat),c1),(0,az.mk false true (bE (bk c sK r)).size 1 fun x=>agg [int i64 c.p,ak 3 c.n fun i=>rat (c.k i) 4096,ak 12 c.m fun i=>agg [agg [rat (c.f i).n.x r,rat (c.f i).n.y r,rat (c.f i).n.z r],rat (c.f i).d r]])]))):=ah
theorem aaT {c:Cu} {h:Pl} {p i j s r:Nat} {x:Nat->Rat}:aL T AN [25] 60 wM [part sk [1,1,1,0,1,0,0]] ⟨aG wM (yB p i x j),[(2,mD h s),(1,mD ⟨⟨0,0,0⟩,0⟩ 1),(0,Cz c r)],3⟩=
  let c35:Nat:=p+1;let c30:Int:=(↑i:Int)-(↑p:Int);let c27:AV:=ptr 0 0 3 0 [];let c26:Nat:=sV+(r+r);let c25:AV:=ptr 2 0 12 0 [];let c24:AV:=ptr 1 0 12 0 [];let c21:AV:=rat 0 1;let c19:Int:=(↑j:Int);let c18:Prop:=(0:Int)<=0;let c15:Int:=(↑(3:Nat):Int);let c14:Bool:=0==0;let c11:Int:=(↑(4:Nat):Int);let c9:Int:=(2:Int)^63;let c7:Nat:=2^41;let c4:Prop:=0<1;let c3:Int:=(0:Int)+1;let c37:Rat:=x c19.toNat;let c36:Int:=c19+1;let c33:Prop:=c18/\(0:Int)<c11;let c32:Prop:=c18/\(0:Int)<c15;let c31:Prop:=(0:Int)<=i64.wrap c3/\i64.wrap c3<c15;let c29:Prop:=(0:Int)<=c3/\c3<c11;let bK:AV:=ak 3 c35 fun j=>rat (x j) 268435456;let c17:Int:=i64.wrap (i64.wrap c3+1);let c16:Int:=c3+1;let c12:Prop:=(0:Int)<=c19/\c19.toNat<c35;let c6:List (Nat×az):=[(1,az.mk false true 12 1 fun x=>agg [c21,c21,c21,c21]),((0:Nat),bL fun x=>agg [int i64 c.p,ak 3 c.n fun i=>rat (c.k i) 4096,ak 12 c.m fun i=>agg [agg [rat (c.f i).n.x r,rat (c.f i).n.y r,rat (c.f i).n.z r],rat (c.f i).d r]])];let c5:Int:=c30+c19;let c38:Prop:=(0:Int)<=c17/\c17<c15;let c23:Prop:=(0:Int)<=c16/\c16<c11;let c22:Pl:=c.f c5.toNat;let c8:Int:=c16+1;let c28:Prop:=(0:Int)<=c8/\c8<c11;let c2:AV:=agg ((b7 h s).kids.set (Int.toNat (0:Int)) (bE (pT (h.n.x,s) (c37*(c22.d*c22.n.x),c26))));let c34:AV:=if c14=true then c2 else b7 h s;let c10:AV:=agg (c34.kids.set c3.toNat (bE (pT (h.n.y,s) (c37*(c22.d*c22.n.y),c26))));let c1:AV:=if c14=true then c10 else c34;let c13:AV:=agg (c1.kids.set c16.toNat (bE (pT (h.n.z,s) (c37*(c22.d*c22.n.z),c26))));some (fork (decide (c19<(↑c35:Int))) (aj [c4,-c9<=c5/\c5<c9,(0:Int)<=c5/\c5.toNat<c.m,c4,c4,c4,c32,c4,r<c7,r<c7,c32,c4,c4,c31,c4,r<c7,r<c7,c31,c4,c4,c38,c4,r<c7,r<c7,c38,c4,c4,c4,c4,c4,c32,c4,(0:Int)<=1/\(1:Int)<c15,c4,(0:Int)<=2/\(2:Int)<c15,c4,c4,c4,c4,c4] (aj [c33,c4,c12,c33,c4,sV<c7,r+r<c7,s<c7,c26<c7,c33,c4] (aj [-c9<=c3/\c3<c9] (aj [c29,c4,c12,c29,c4,sV<c7,r+r<c7,s<c7,c26<c7,c29,c4] (aj [-c9<=c16/\c16<c9] (aj [c23,c4,c12,c23,c4,sV<c7,r+r<c7,s<c7,c26<c7,c23,c4] (aj [-c9<=c8/\c8<c9] (aj [c28,c4,c12,c28,c4,sV<c7,r<c7,s<c7,sV+r<c7,c28,c4] (aj [-c9<=c8+1/\c8+1<c9] (aj [-c9<=c36/\c36<c9] (leaf normal ([c27,c24,int i64 c30,bK,c25,int i64 c36],(2,az.mk false true 12 1 fun j=>if(j==0)=true then agg ((if c14=true then c13 else c1).kids.set c8.toNat (bE (pT (h.d,s) (c37*c22.d,sV+r))))else if(j==0)=true then c13 else if(j==0)=true then c10 else if(j==0)=true then c2 else b7 h s)::c6)))))))))))) (leaf (exit 0) ([c27,c24,int i64 c30,bK,c25,int i64 c19],(2,az.mk false true 12 1 fun x=>agg [rat h.n.x s,rat h.n.y s,rat h.n.z s,rat h.d s])::c6))):=ah
theorem TA {c:Cu} {h:Pl} {p i j s r:Nat} {x:Nat->Rat}:cP T AN [] 60 f50 [part sk [1,1,1,1]] ⟨aG wM (yB p i x j),[(2,mD h s),(1,mD ⟨⟨0,0,0⟩,0⟩ 1),(0,Cz c r)],3⟩=
  let c1:Prop:=0<1;some (aj [c1,c1] (aj [c1] (leaf ret [agg [rat h.n.x s,rat h.n.y s,rat h.n.z s,rat h.d s]]))):=ah
def tw (c:Cu) (x:Nat->Rat) (b j:Nat):Pl:=
 ⟨⟨nh j fun j=>x j*((c.f (b+j)).d*(c.f (b+j)).n.x),nh j fun j=>x j*((c.f (b+j)).d*(c.f (b+j)).n.y),nh j fun j=>x j*((c.f (b+j)).d*(c.f (b+j)).n.z)⟩,nh j fun j=>x j*(c.f (b+j)).d⟩
def zH (r j:Nat):Nat:=1+j*(sV+(r+r)+1)
def rQ (c:Cu) (t:Rat):Pl:=tw c (vB c.k (bY c.n c.k t) t c.p.toNat) (bY c.n c.k t-c.p.toNat) (c.p.toNat+1)
theorem acg:bg P FH:=aE (fQ fun _ _ K hn=>FV hn.1 hn.2 K) (aE (cT hT jw hm K3 _ _) jw)
theorem Zo {h:Pl} {s s':Nat} (hs:s<2^40) (hs':1+s+s<=s') (K:Nat):aN P 49 K [b7 h s] [] (aH (.agg [vA (tR h) s',.rat h.d s]) []):=by
 refine bM (r:=aH (.agg [vA (tR h) s',.rat h.d s]) []) hT acg hm Tm rfl aW rfl 60 (XT (s:=s)) (fun _=>?_) K []
 have e1:i64.wrap ((0:Int)+1)=1:=rfl
 have e2:i64.wrap ((1:Int)+1)=2:=rfl
 simp only[ag.all,au,PI,e1,e2]
 refine⟨?_,aa,cj ⟨cj ⟨bC rfl aa,bC rfl aa,bC rfl aa,trivial⟩,.refl _,trivial⟩⟩
 (repeat' with_reducible refine And.intro ?_ ?_)
 all_goals omega
theorem VI:bf P Nw 49:=cC fun⟨h,_⟩ K _=>Zo (by decide) (by decide) K
theorem Kb:bg P AN:=eP (aE ac6 (aE (cT hT (aE (cT hT jw hm K3 _ _) jw) hm acC _ _) jw))
theorem ade {c:Cu} {t:Rat} {r s:Nat} (hr:1+7*(sV+(r+r)+1)<=s) (hs:s<2^40) (hk:Kn c.n c.p.toNat c.k) (h0:0<=c.p) (h6:c.p<=6) (hn:c.n<2^40) (hm2:(c.m:Int)=(c.n:Int)-c.p-1) (hin:¬fk c.n c.k t) (K:Nat):aN P 50 K [bk c sK r,.rat t sK] [] (aH (b7 (rQ c t) s) []):=by
 refine jq (r:=aH (b7 (rQ c t) s) []) hT JE rfl aW rfl (fun _ cx h00=>?_) K []
 have hkp:=tJ h00
 obtain⟨q,hq⟩:∃q,q=c.p.toNat:=⟨_,rfl⟩
 have hq2:c.p=(q:Int):=aa
 obtain⟨i,hi⟩:∃i,i=bY c.n c.k t:=⟨_,rfl⟩
 obtain⟨x,hx⟩:∃x,x=vB c.k i t q:=⟨_,rfl⟩
 have hiv:=hk.vW hin
 rw[<-hi,<-hq]at hiv
 have hV:rQ c t=tw c x (i-q) (q+1):=by unfold rQ;rw[<-hi,<-hq,<-hx]
 rw[hV]
 have h1:sK=4096:=rfl
 have h2:sV=268435456:=rfl
 have z0:zH r 0=1:=by unfold zH;rw[Nat.zero_mul]
 have zS:∀j,zH r (j+1)=zH r j+(sV+(r+r)+1):=fun j=>by unfold zH;rw[Nat.add_mul,Nat.one_mul];omega
 have zle:∀j,j<=7->zH r j<=s:=fun j hj=>by
  have:=Nat.mul_le_mul_right (sV+(r+r)+1) hj
  unfold zH;omega
 refine ay.tY hT Kb hm (x:=sk) [1,1,1,0,1] (i:=0) (y:=part sk [1,1,1,0,1,0,0]) (z:=part sk [1,1,1,1]) ah ah ah JE.dst hkp (f1:=[]) (f2:=[25]) 60 wM 3 (fun j:Nat=>yB q i x j) (fun j=>[(2,mD (tw c x (i-q) j) (zH r j)),(1,mD ⟨⟨0,0,0⟩,0⟩ 1),(0,Cz c r)]) (fun j=>j<=q+1) (fun j=>j=q+1) (fun j=>q+1-j) (fun _=>False) ⟨_,OZ,?_⟩ (fun j hj=>⟨_,aaT,?_⟩) (fun j hj=>?_) (fun _ _ h=>h.elim)
 ·simp only[ag.all,au]
  simp only[k8,show fk c.n (fun i=>c.k i) t=fk c.n c.k t from rfl,if_neg hin]
  refine⟨⟨aa,aa,aa,cV aR,aR,hk,h0,h6,hn⟩,0,Nat.zero_le _,[(0,0),(1,8192),(2,65536)],rfl,?_,rfl,fj rfl rfl (eJ rfl (by rw[z0];rfl)) (aY (aY trivial))⟩
  show _=(yB q i x 0).map _
  rw[hx,hq,hi];rfl
 ·simp only[ag.all,au,bz,bG,show((i:Int)-q+j).toNat=i-q+j by omega,br,show i64.wrap ((0:Int)+1)=1 from rfl,show i64.wrap ((1:Int)+1)=2 from rfl]
  have hz1:=zS j
  refine⟨fun h=>?_,fun h=>⟨rfl,j,aa,[(0,0),(1,1),(2,2)],rfl,rfl,rfl,aY (aY (aY trivial))⟩⟩
  have hz:=zle j aa
  have hz2:=zle (j+1) aa
  (repeat' with_reducible refine And.intro ?_ ?_)
  all_goals first|omega|skip
  exact⟨j+1,aa,by dsimp only;omega,[(0,0),(1,1),(2,2)],rfl,rfl,rfl,fj rfl rfl (.inr ⟨rfl,cj ⟨bC rfl aa,bC rfl aa,bC rfl aa,bC rfl aa,trivial⟩⟩) (aY (aY trivial))⟩
 ·subst hj
  refine ay.qQ ((aI.fin hT Kb hm 60 TA ah ?_).mono fun _ _ h=>.inl h)
  simp only[ag.all,au]
  have hz:=zle (q+1) aa
  exact⟨aa,aa,cj ⟨eE aa,eE aa,eE aa,eE aa,trivial⟩⟩
def KC:Spec:=cF (kC (gk sK sK) (kC (dQ sK) kN)) (fun a=>b7 (rQ a.1 a.2.1) sH) fun a=>[Kn a.1.n a.1.p.toNat a.1.k,0<=a.1.p,a.1.p<=6,a.1.n<2^40,(a.1.m:Int)=(a.1.n:Int)-a.1.p-1,¬fk a.1.n a.1.k a.2.1]
def FA:aV:=sG::(48,u7)::(50,KC)::(49,Nw)::[]
theorem ZF:bf P KC 50:=cC fun⟨c,t,_⟩ K hn=>ade (by decide) (by decide) hn.1 hn.2.1 hn.2.2.1 hn.2.2.2.1 hn.2.2.2.2.1 hn.2.2.2.2.2 K
theorem acJ:bg P FA:=cB (aE Nb (aE ZF (aE VI bD)))
theorem Yg {c:Cu} {t:Rat}:bF T FA [18] 60 f12 (aF f12) ⟨aS 0 [bk c sK sK,.rat t sK],[],0⟩=
  let c9:Prop:=c.n<2^40;let c7:Prop:=bQ (fun i=>rat (c.k i) sK) c.n sK;let c5:Int:=g9 c.n (fun i=>aC (rat (c.k i) sK)) t;let c4:AV:=rat 0 1;let c3:Nat:=c.p.toNat;let c1:Nat:=bY c.n (fun i=>aC (rat (c.k i) sK)) t;let c10:Nat:=c1-c3;let c8:Nat:=c3+1;let c6:Prop:=Kn c.n c3 fun i=>aC (rat (c.k i) sK);let c2:Rat:=(↑(1:Int):Rat)/nh c8 fun j=>vB (fun i=>aC (rat (c.k i) sK)) c1 t c3 j*aC (rat (c.f (c10+j)).d sK);some (aj [c7,sK<=sK,c6,(0:Int)<=c.p,c9] (fork (c5 !=(0:Int)) (aj [(0:Nat)<1] (leaf ret [agg [c4,c4,c4],int i64 c5])) (aj [c7,ej (fun i=>aJ (c.f i) sK) c.m sK,sK<=sK,c6,(0:Int)<=c.p,c.p<=6,c9,(↑c.m:Int)=(↑c.n:Int)-c.p-1,¬fk c.n (fun i=>aC (rat (c.k i) sK)) t,sH<=sH,sH<=sH,sH<=sH,sH<=sH] (aj [(0:Nat)<1] (leaf ret [agg [rat (c2*nh c8 fun j=>vB (fun i=>aC (rat (c.k i) sK)) c1 t c3 j*(aC (rat (c.f (c10+j)).d sK)*aC (rat (c.f (c10+j)).n.x sK))) 4294967298,rat (c2*nh c8 fun j=>vB (fun i=>aC (rat (c.k i) sK)) c1 t c3 j*(aC (rat (c.f (c10+j)).d sK)*aC (rat (c.f (c10+j)).n.y sK))) 4294967298,rat (c2*nh c8 fun j=>vB (fun i=>aC (rat (c.k i) sK)) c1 t c3 j*(aC (rat (c.f (c10+j)).d sK)*aC (rat (c.f (c10+j)).n.z sK))) 4294967298],int i64 0]))))):=ah
def rK (c:Cu) (t:Rat):V3:=if fk c.n c.k t then⟨0,0,0⟩else tR (rQ c t)
def OU:Spec:=cF (kC (gk sK sK) (kC (dQ sK) kN)) (fun a=>.tuple [vA (rK a.1 a.2.1) sE,.int .i64 (g9 a.1.n a.1.k a.2.1)]) fun a=>[Kn a.1.n a.1.p.toNat a.1.k,0<=a.1.p,a.1.p<=6,a.1.n<2^40,(a.1.m:Int)=(a.1.n:Int)-a.1.p-1]
theorem Xh:bf P OU 12:=cC fun⟨c,t,_⟩ K hn=>by
 obtain⟨hk,h0,h6,hn,hm2⟩:=hn
 have hk:Kn c.n c.p.toNat c.k:=hk
 have h6:c.p<=6:=h6
 have hm2:(c.m:Int)=(c.n:Int)-c.p-1:=hm2
 refine bM (r:=aH (.tuple [vA (rK c t) sE,.int .i64 (g9 c.n c.k t)]) []) hT acJ hm afz rfl aW rfl 60 Yg (fun _=>?_) K []
 simp only[ag.all,au,k8,bne_iff_ne,bne_eq_false_iff_eq,ne_eq,show fk c.n (fun i=>c.k i) t=fk c.n c.k t from rfl,show g9 c.n (fun i=>c.k i) t=g9 c.n c.k t from rfl]
 refine⟨⟨cV aR,aR,hk,h0,hn⟩,fun hout=>?_,fun hin=>?_⟩
 ·have ho:fk c.n c.k t:=by
   unfold g9 at hout
   by_cases ho:fk c.n c.k t
   ·exact ho
   ·rw[if_neg ho]at hout;exact absurd rfl hout
  refine⟨aa,?_,.refl _,trivial⟩
  unfold rK
  rw[if_pos ho]
  exact cj ⟨eE (by decide),eE (by decide),eE (by decide),trivial⟩
 ·have hi:=HO hin
  refine⟨⟨cV aR,jt aR,aR,hk,h0,h6,hn,hm2,hi,aa,aa⟩,aa,?_,bW hin.symm,trivial⟩
  unfold rK
  rw[if_neg hi]
  exact .refl _
theorem ES:aX 54 f54:=aM func54
abbrev zP (n:Nat) (z:Nat->Int):AV:=.ak 1 n (fun i=>.int .i64 (z i))
abbrev uF (n:Nat) (z:Nat->Int):az:=⟨true,true,3,n,fun i=>.rat ((z i:Int):Rat) 64⟩
abbrev nB:Code:=aF f54
abbrev oK:List Nat:=[0,3,4]
abbrev vD (n:Nat) (z:Nat->Int) (v:AV) (i:Int):List AV:=[zP n z,v,.int .i64 i]
def sS:aV:=nG::[(20,z7)]
theorem ZR {n:Nat} {z:Nat->Int}:aL T sS [] 60 oK (before nB [1,1,0,1]) ⟨aS 0 [zP n z],[],0⟩=
  some (leaf normal ([ak 1 n fun i=>int i64 (z i),nil,int i64 0],[])):=ah
theorem abp {n:Nat} {z:Nat->Int}:aL T sS [8] 60 oK [part nB [1,1,0,1,0,0]] ⟨aG oK (vD n z .nil 0),[],1⟩=
  let c3:AV:=ak 1 n fun i=>int i64 (z i);let c2:Int:=(2:Int)^63;let c1:Nat:=Int.toNat (0:Int);some (fork (decide ((0:Int)<(↑n:Int))) (aj [(0:Int)<=0/\c1<n,-c2<=z c1,z c1<c2,(1:Nat)*3<=2^24,(0:Nat)<1/\1*((56:Nat)+1)*2<=2^47] (aj [-c2<=0+(1:Int)/\(0:Int)+1<c2] (leaf normal ([c3,own 45057 3 0 1,int i64 1],[(45057,az.mk true true 3 1 fun i=>nth [rat (↑(z c1):Rat) (Max.max 1 (bN (z c1).natAbs))] (rat 0 1) (i+0))])))) (leaf (exit 0) ([c3,nil,int i64 0],[]))):=ah
theorem aeJ {n i:Nat} {z:Nat->Int}:aL T sS [8] 60 oK [part nB [1,1,0,1,0,0]] ⟨aG oK (vD n z (.own 0 3 0 (i+1)) ((i+1:Nat):Int)),[(0,uF (i+1) z)],1⟩=
  let c4:AV:=ak 1 n fun i=>int i64 (z i);let c3:Int:=(2:Int)^63;let c2:Nat:=i+1;let c5:Nat:=c2+1;let c1:Int:=(↑c2:Int);let c7:Int:=z c1.toNat;let c6:Int:=c1+1;some (fork (decide (c1<(↑n:Int))) (aj [(0:Int)<=c1/\c1.toNat<n,-c3<=c7,c7<c3,(1:Nat)*3<=2^24,c5*((56:Nat)+1)*2<=2^47] (aj [-c3<=c6/\c6<c3] (leaf normal ([c4,own 45057 3 0 c5,int i64 c6],[(45057,az.mk true true 3 c5 fun i=>if i<c2 then rat (↑(z i):Rat) 64 else nth [rat (↑c7:Rat) (Max.max 1 (bN c7.natAbs))] (rat 0 1) (i-c2+0))])))) (leaf (exit 0) ([c4,own 0 3 0 c2,int i64 c1],[(0,az.mk true true 3 c2 fun i=>rat (↑(z i):Rat) 64)]))):=ah
theorem aga {n i:Nat} {z:Nat->Int}:aL T sS [] 60 [2] [part nB [1,1,1]] ⟨aG oK (vD n z (.own 0 3 0 (i+1)) ((i+1:Nat):Int)),[(0,uF (i+1) z)],1⟩=
  some (leaf ret ([own 0 3 0 (i+1)],[(0,az.mk true true 3 (i+1) fun i=>rat (↑(z i):Rat) 64)])):=ah
theorem abR {rl:List (Nat×Nat)} {l i s s' s2:Nat} {x y:Nat->Rat} {t:Rat} (hx:∀i,i<l->x i=y i) (ht:t=y l) (h1:s<=s2) (h2:Sz (y l) s2) (hi:i<l+1):iz rl (if i<l then .rat (x i) s else nth [.rat t s'] (.rat 0 1) (i-l+0)) (.rat (y i) s2):=by
 by_cases h:i<l
 ·rw[if_pos h,hx i h];exact .inr ⟨rfl,bC rfl h1⟩
 ·have:i=l:=aa
  subst this
  rw[if_neg h,Nat.sub_self]
  exact .inr ⟨rfl,en ht h2⟩
theorem D8:bg P sS:=eP (aE CN bD)
abbrev MV (z:Nat->Int) (i:Nat):aD:=match i with
 |0=>[]
 |_+1=>[(0,uF i z)]
abbrev JR (n:Nat) (z:Nat->Int) (i:Nat):List AV:=vD n z (match i with
 |0=>.nil
 |_+1=>.own 0 3 0 i) i
theorem LH {P':aq->aK->Prop} {n:Nat} {z:Nat->Int} (hn:0<n) (hn2:n<2^20) (hz:∀i,i<n->-2^63<=z i/\z i<2^63) (c:Ctx) (hk:Kept [] c) (hD:ay Go.Am.N.P c f54.ntmps (part nB [1,1,1]) ⟨aG oK (JR n z n),MV z n,1⟩ P'):ay Go.Am.N.P c f54.ntmps nB ⟨aS 0 [zP n z],[],0⟩ P':=by
 have hs:∀i,i<n->Sz ((z i:Int):Rat) 64:=fun i hi=>It (y:=0) (hz i hi).1 (hz i hi).2
 refine ay.tY hT D8 hm (x:=nB) [1,1,0,1] (i:=0) (y:=part nB [1,1,0,1,0,0]) (z:=part nB [1,1,1]) ah ah ah ES.dst hk (f1:=[]) (f2:=[8]) 60 oK 1 (fun i:Nat=>JR n z i) (fun i=>MV z i) (fun i=>i<=n) (fun i=>i=n) (fun i=>n-i) (fun _=>False) ⟨_,ZR,?_⟩ (fun i hi=>?_) (fun i hi=>?_) (fun _ _ h=>h.elim)
 ·simp only[ag.all,au]
  exact⟨0,Nat.zero_le _,fz.vals rfl⟩
 ·cases i with
  |zero=>
   refine⟨_,abp,?_⟩
   simp only[ag.all,au,bz,bG]
   refine⟨fun h=>⟨⟨⟨aa,aa⟩,(hz 0 hn).1,(hz 0 hn).2,aa,aa,aa⟩,aa,1,aa,by dsimp only;omega,[(0,45057)],rfl,rfl,rfl,cJ rfl rfl rfl (fun j hj=>?_) trivial⟩,fun h=>aa⟩
   have hj:j=0:=aa
   subst hj
   exact .inr ⟨rfl,en rfl (hs 0 hn)⟩
  |succ i=>
   refine⟨_,aeJ,?_⟩
   simp only[ag.all,au,bz,bG]
   have e:((i+1:Nat):Int).toNat=i+1:=aa
   simp only[e]
   refine⟨fun h=>⟨⟨⟨aa,aa⟩,(hz (i+1) aa).1,(hz (i+1) aa).2,aa,aa⟩,aa,i+2,aa,by dsimp only;omega,[(0,45057)],rfl,rfl,rfl,cJ rfl rfl rfl (fun j hj=>abR (x:=fun i=>((z i:Int):Rat)) (y:=fun i=>((z i:Int):Rat)) (fun _ _=>rfl) rfl aR (hs (i+1) aa) hj) trivial⟩,fun h=>⟨rfl,i+1,aa,[(0,0)],rfl,rfl,rfl,cJ rfl rfl rfl (fun j hj=>eJ rfl rfl) trivial⟩⟩
 ·subst hi;exact hD
def x3:Nat->(Nat->AV)->Bool
 |0,_=>true
 |n+1,f=>x3 n f&&match f n with
  |.int .i64 z=>decide (-2^63<=z)&&decide (z<2^63)
  |_=>false
def Ac (n:Nat) (f:Nat->AV):Bool:=Nat.blt 0 n&&Nat.blt n 100&&x3 n f
def IY:Spec:=oF fun K l=>match l with
 |[.ak 1 n f]=>match Ac n f with
  |true=>some ⟨jx [.own K 3 0 n],[(K,uF n fun i=>intOf (f i))],[]⟩
  |false=>none
 |_=>none
theorem CW:∀{n:Nat} {f:Nat->AV},x3 n f=true->∀i,i<n->f i=.int .i64 (intOf (f i))/\-2^63<=intOf (f i)/\intOf (f i)<2^63
 |0,_,_,i,hi=>aa
 |n+1,f,h,i,hi=>by
  simp only[x3,Bool.and_eq_true]at h
  by_cases he:i=n
  ·subst he
   have h2:=h.2
   split at h2
   ·rename_i z hz
    simp only[Bool.and_eq_true,bz]at h2
    rw[hz]
    exact⟨rfl,h2⟩
   ·simp at h2
  ·exact CW h.1 i aa
theorem Oj {n:Nat} {f:Nat->AV} (h:Ac n f=true):0<n/\n<100/\(∀i,i<n->-2^63<=intOf (f i)/\intOf (f i)<2^63)/\dA [.ak 1 n f] [zP n fun i=>intOf (f i)]:=by
 simp only[Ac,Bool.and_eq_true,Nat.blt_eq]at h
 exact⟨h.1.1,h.1.2,fun i hi=>(CW h.2 i hi).2,tO rfl fun i hi=>(CW h.2 i hi).1,trivial⟩
theorem aa6:bf P IY 54:=by
 refine qd fun K args r hk hs=>?_
 split at hs
 ·rename_i n f
  split at hs
  ·rename_i h1
   obtain⟨a1,a2,a3,a4⟩:=Oj h1
   simp only[ax]at hs
   subst hs
   refine DK hT ES (fun _=>rT hk rfl a4) aW fun _ c hkp=>LH a1 aa a3 c hkp ?_
   obtain⟨m,rfl⟩:∃m,n=m+1:=⟨n-1,aa⟩
   refine ay.bH hT D8 hm 60 [2] aga ah fun s' hs'=>⟨.inr rfl,[2],_,[.own 0 3 0 (m+1)],_,0,_,hs',ah,⟨⟨rfl,dx (by simp[bA,look]) rfl rfl⟩,trivial⟩,rfl,jm rfl fun i hi=>gu rfl⟩
  ·simp at hs
 ·simp at hs
theorem HB:aX 211 f211:=aM func211
def qf:aV:=nG::(186,Ar)::(213,Gu)::eV
abbrev yx:Code:=aF f211
abbrev qn:Code:=part yx [1,1,1,1,0,1,0,0]
abbrev vM:Code:=part qn [1,1,0,0]
abbrev sB:Nat:=536870912
theorem uK:bg P qf:=eP (aE BG (aE Ut fB))
def jg (n:Nat) (k:Nat->Rat) (p m l:Nat) (i:Int):Int:=if(m:Int)≠(n:Int)-p-1\/l≠p then 1 else if i<p\/(m:Int)<=i\/k (i.toNat+1)<=k i.toNat then 7 else 0
def mS (n:Nat) (k:Nat->Rat) (p m:Nat) (c:Nat->Rat) (i:Int) (l:Nat) (a:Nat->Rat):Rat:=if jg n k p m l i=0 then bR k (i.toNat-p) p a (fun j=>c (i.toNat-p+j)) p p else 0
abbrev IC (n:Nat) (k:Nat->Rat) (p m:Nat) (c:Nat->Rat) (i:Int) (l:Nat) (a:Nat->Rat):AV:=.tuple [.rat (mS n k p m c i l a) sB,.int .i64 (jg n k p m l i)]
theorem SJ {n p m l:Nat} {k c a:Nat->Rat} {i e:Int} (h:jg n k p m l i=e) (he:e≠0):fA [.agg [.bool false,.mag 0,.mag 0],.int .i64 e] (IC n k p m c i l a):=
 ⟨by unfold mS;rw[if_neg (by rw[h];exact he)];exact k9,bW h.symm,trivial⟩
theorem Nl {n p m l:Nat} {k:Nat->Rat} {i:Int} (h:(m:Int)≠(n:Int)-p-1\/l≠p):jg n k p m l i=1:=if_pos h
theorem BA {n p m l:Nat} {k:Nat->Rat} {i:Int} (h:(m:Int)=(n:Int)-p-1) (hl:l=p) (h2:i<p\/(m:Int)<=i\/k (i.toNat+1)<=k i.toNat):jg n k p m l i=7:=by
 unfold jg;rw[if_neg aa,if_pos h2]
theorem MY {n p m l:Nat} {k:Nat->Rat} {i:Int} (h:(m:Int)=(n:Int)-p-1) (hl:l=p) (h2:¬(i<p\/(m:Int)<=i\/k (i.toNat+1)<=k i.toNat)):jg n k p m l i=0:=by
 unfold jg;rw[if_neg aa,if_neg h2]
def mJ (k:Nat->Rat) (b p r:Nat) (t:Rat) (x:Nat->Rat) (j i:Nat):Rat:=if i<=j then x i else gW k b p r t x i
def ni (r j i:Nat):Nat:=if i<=j then SB r else SB (r+1)
theorem aer {rl:List (Nat×Nat)} {k:Nat->Rat} {b p r j i s:Nat} {t:Rat} {x:Nat->Rat} (hj:r<j) (hs:s<=SB (r+1)):
  iz rl (.rat (bif i==j then mJ k b p r t x j (j-1)+fr (k (b+j)) (k (b+j+(p-r))) t*(mJ k b p r t x j j-mJ k b p r t x j (j-1))else mJ k b p r t x j i) (bif i==j then s else ni r j i)) (.rat (mJ k b p r t x (j-1) i) (ni r (j-1) i)):=by
 refine .inr ⟨rfl,?_⟩
 by_cases h:i=j
 ·subst h
  simp only[beq_self_eq_true,cond_true]
  refine bC ?_ ?_
  ·unfold mJ
   rw[if_pos aa,if_pos aa,if_neg aa]
   unfold gW
   rw[if_pos hj]
  ·unfold ni
   rw[if_neg aa];exact hs
 ·have hb:(i==j)=false:=by simpa using h
  rw[hb]
  refine bC ?_ ?_
  ·simp only[cond_false]
   unfold mJ
   by_cases h2:i<=j
   ·rw[if_pos h2,if_pos aa]
   ·rw[if_neg h2,if_neg aa]
  ·simp only[cond_false]
   unfold ni
   by_cases h2:i<=j
   ·rw[if_pos h2,if_pos aa];exact Nat.le_refl _
   ·rw[if_neg h2,if_neg aa];exact Nat.le_refl _
theorem aho {k:Nat->Rat} {b p r i:Nat} {t:Rat} {x:Nat->Rat}:mJ k b p r t x r i=gW k b p r t x i:=by
 unfold mJ
 split
 ·unfold gW;rw[if_neg aa]
 ·rfl
def qU:aV:=nG::(97,fL kR kR Dc oG)::ja
theorem Nu:bg P qU:=eP (aE (fQ fun _ _ K hn=>FV hn.1 hn.2 K) jw)
theorem Zc:aX 23 f23:=aM func23
theorem abw:aX 65 f65:=aM func65
structure uq where
 k:Nat->Rat
 t:Rat
 a:Int
def Cy (n:Nat) (f:Nat->AV) (t:Rat) (a:Int):Rat:=t+((1+dU n f a 3:Int):Rat)/((1+dU n f (b9 n a) 2:Int):Rat)
def Ng (n:Nat) (f:Nat->AV) (p j:Nat) (s:uq):uq:=
 if j=0\/0<dU n f s.a 3\/s.t=s.k (j+1)then
  ⟨oc s.k (p+1+j) (Cy n f s.t (if j=0 then s.a else b9 n s.a)),Cy n f s.t (if j=0 then s.a else b9 n s.a),b9 n (b9 n (if j=0 then s.a else b9 n s.a))⟩
 else⟨oc s.k (p+1+j) s.t,s.t,if j=0 then s.a else b9 n s.a⟩
def p6 (n:Nat) (f:Nat->AV) (p:Nat) (s0:uq):Nat->uq
 |0=>s0
 |j+1=>Ng n f p j (p6 n f p s0 j)
def xC (n:Nat) (f:Nat->AV) (a:Int):uq:=⟨fun _=>((dU n f a 4-2:Int):Rat),((dU n f a 4-2:Int):Rat),b9 n (b9 n a)⟩
def Zu (n:Nat) (f:Nat->AV) (a:Int) (m:Nat):Nat:=(dU n f (b9 n a) (m+1)).toNat
def TL (n:Nat) (f:Nat->AV) (a:Int) (p m:Nat):uq:=p6 n f p (xC n f a) (Zu n f a m)
def knA (n:Nat) (f:Nat->AV) (a:Int) (p m:Nat):Int:=(TL n f a p m).a
theorem JQ {n:Nat} {f:Nat->AV} {a:Int} {p:Nat} (hd:dK n f a) (hp:1<=p):∀j,KG p j (p6 n f p (xC n f a) j).k (p6 n f p (xC n f a) j).t/\dK n f (p6 n f p (xC n f a) j).a
 |0=>by
  have h1:=qj (n:=n) (f:=f) (a:=a) (m:=4) aa
  have h2:=qh (n:=n) (f:=f) (a:=a) (m:=4) aa
  exact⟨KG.start hp aa aa,hd.next.next⟩
 |j+1=>by
  obtain⟨h1,h2⟩:=JQ hd hp j
  unfold p6 Ng Cy
  generalize p6 n f p (xC n f a) j=s at*
  obtain⟨k,t,b⟩:=s
  simp only at h1 h2 ⊢
  have hb:dK n f (if j=0 then b else b9 n b):=by split;exact h2;exact h2.next
  generalize (if j=0 then b else b9 n b)=a1 at*
  split
  ·have x1:=qj (n:=n) (f:=f) (a:=a1) (m:=3) aa
   have x2:=qh (n:=n) (f:=f) (a:=a1) (m:=3) aa
   have y1:=qj (n:=n) (f:=f) (a:=b9 n a1) (m:=2) aa
   have y2:=qh (n:=n) (f:=f) (a:=b9 n a1) (m:=2) aa
   refine⟨h1.next (.inl ?_),hb.next.next⟩
   generalize dU n f a1 3=x at*
   generalize dU n f (b9 n a1) 2=y at*
   have key:∃z:Int,((1+x:Int):Rat)/((1+y:Int):Rat)=(z:Rat)/2/\1<=z/\z<=6:=by
    rcases(show y=0\/y=1 by omega)with h|h
    ·subst h
     refine⟨2*(1+x),?_,aa,aa⟩
     have:((2*(1+x):Int):Rat)=2*((1+x:Int):Rat):=by simp
     rw[this]
     generalize ((1+x:Int):Rat)=w
     simp;grind
    ·subst h
     exact⟨1+x,by simp,aa,aa⟩
   obtain⟨z,e,z1,z2⟩:=key
   rw[e]
   refine⟨?_,z,rfl,z2⟩
   have:(1:Rat)<=(z:Rat):=by exact_mod_cast z1
   grind
  ·rename_i hc
   have hc1:¬j=0:=fun h=>hc (.inl h)
   have hc2:¬t=k (j+1):=fun h=>hc (.inr (.inr h))
   exact⟨h1.next (.inr ⟨rfl,aa,hc2⟩),hb⟩
theorem YY {z:Int} (h1:-2^63<=z) (h2:z<2^63):Sz ((z:Rat)/2) 64:=by
 have:=Jp h1 h2 (y:=2) aa aa aa
 simpa using this
theorem KG.sz {p j:Nat} {k:Nat->Rat} {t:Rat} (h:KG p j k t) (hj:j<2^50):Sz t 64:=by
 obtain⟨z,e,h1,h2⟩:=h.half (p+j) aR
 rw[h.top]at e
 rw[e]
 exact YY aa aa
open Go Go.Am.N AV Proofs.Tryz
theorem abx:aX 28 f28:=aM func28
theorem Zr {n:Nat} {z:Nat->Int} {a:Int}:p7 T GP [] 60 f28 (aF f28) ⟨aS 0 [.ptr 0 0 2 0 []],[(0,iR n (fun i=>.int .i64 (z i)) a)],1⟩=
  some (ag.aj [dK n (fun(i:Nat)=>int .i64 (z i)) a,(0:Nat)<1] (ag.aj [(0:Nat)<1] (ag.leaf aq.ret ([rat (eC n (fun(i:Nat)=>int .i64 (z i)) a) 64],some ⟨false,true,2,1,fun(x:Nat)=>agg [ak 1 n fun(i:Nat)=>int .i64 (z i),int .i64 (ew n (fun(i:Nat)=>int .i64 (z i)) a)]⟩)))):=ah
theorem ZM:bf P (kW sD) 28:=by
 refine xw fun {k n z a l v b q o} K hg ho hd hq=>?_
 unfold sD at hg
 split at hg
 ·simp only[ax,Prod.mk.injEq]at hg
  obtain⟨rfl,rfl,rfl⟩:=hg
  refine uH hT MO hm abx rfl rfl aW ho 60 Zr (fun _=>?_) K
  simp only[ag.all,au]
  exact⟨⟨hd,aa⟩,aa,.refl _,_,rfl,rfl,qM rfl rfl⟩
 ·simp at hg
open Go Go.Am.N AV ag aq IntKind Proofs.Tryz
def uj:aV:=[sG,(122,DR)]
def Kj:Spec:=bX fun l=>match l with
 |[.mag 1]=>some (aH (.str [49]) [])
 |[.mag 2]=>some (aH (.str [50]) [])
 |[.mag 3]=>some (aH (.str [51]) [])
 |[.mag 4]=>some (aH (.str [52]) [])
 |_=>none
def x9:aV:=[sG,(65,Kj)]
theorem aar:bF T uj [] 60 f65 (aF f65) ⟨aS 0 [.mag 1],[],0⟩=
  let c1:Int:=(↑(1:Nat):Int);some (aj [nl 1<2^40,(0:Int)<1000000000,(1000000000:Int)<2^32] (aj [(10:Int)≠(0:Int),(0:Nat)<1/\1*((1:Nat)+1)*2<=2^47] (aj [(10:Int)≠(0:Int)] (aj [(0:Int)<=c1/\c1<=c1/\c1<=2^47/\c1*c1<=2^47] (leaf ret [str [UInt8.ofNat (u8.wrap (u32.wrap ((48:Int)+(↑((1:Nat)%Int.toNat (1000000000:Int)):Int).tmod (10:Int)))).toNat]]))))):=ah
theorem aa2:bF T uj [] 60 f65 (aF f65) ⟨aS 0 [.mag 2],[],0⟩=
  let c1:Int:=(↑(1:Nat):Int);some (aj [nl 2<2^40,(0:Int)<1000000000,(1000000000:Int)<2^32] (aj [(10:Int)≠(0:Int),(0:Nat)<1/\1*((1:Nat)+1)*2<=2^47] (aj [(10:Int)≠(0:Int)] (aj [(0:Int)<=c1/\c1<=c1/\c1<=2^47/\c1*c1<=2^47] (leaf ret [str [UInt8.ofNat (u8.wrap (u32.wrap ((48:Int)+(↑((2:Nat)%Int.toNat (1000000000:Int)):Int).tmod (10:Int)))).toNat]]))))):=ah
theorem TK:bF T uj [] 60 f65 (aF f65) ⟨aS 0 [.mag 3],[],0⟩=
  let c1:Int:=(↑(1:Nat):Int);some (aj [nl 3<2^40,(0:Int)<1000000000,(1000000000:Int)<2^32] (aj [(10:Int)≠(0:Int),(0:Nat)<1/\1*((1:Nat)+1)*2<=2^47] (aj [(10:Int)≠(0:Int)] (aj [(0:Int)<=c1/\c1<=c1/\c1<=2^47/\c1*c1<=2^47] (leaf ret [str [UInt8.ofNat (u8.wrap (u32.wrap ((48:Int)+(↑((3:Nat)%Int.toNat (1000000000:Int)):Int).tmod (10:Int)))).toNat]]))))):=ah
theorem afF:bF T uj [] 60 f65 (aF f65) ⟨aS 0 [.mag 4],[],0⟩=
  let c1:Int:=(↑(1:Nat):Int);some (aj [nl 4<2^40,(0:Int)<1000000000,(1000000000:Int)<2^32] (aj [(10:Int)≠(0:Int),(0:Nat)<1/\1*((1:Nat)+1)*2<=2^47] (aj [(10:Int)≠(0:Int)] (aj [(0:Int)<=c1/\c1<=c1/\c1<=2^47/\c1*c1<=2^47] (leaf ret [str [UInt8.ofNat (u8.wrap (u32.wrap ((48:Int)+(↑((4:Nat)%Int.toNat (1000000000:Int)):Int).tmod (10:Int)))).toNat]]))))):=ah
theorem SN:bF T x9 [] 60 f23 (aF f23) ⟨aS 0 [.agg [.bool false,.mag 1,.mag 2]],[],0⟩=
  some (leaf ret [str [(49:UInt8),(47:UInt8),(50:UInt8)]]):=ah
theorem ae8:bF T x9 [] 60 f23 (aF f23) ⟨aS 0 [.agg [.bool false,.mag 1,.mag 4]],[],0⟩=
  some (leaf ret [str [(49:UInt8),(47:UInt8),(52:UInt8)]]):=ah
theorem Ta:bg P uj:=cB (aE J6 bD)
theorem ah0:bf P Kj 65:=by
 refine cM fun K args r hk hs _=>?_
 have fin:∀{N:Nat} {t:ag (List AV)} {l:List UInt8},bF T uj [] 60 f65 (aF f65) ⟨aS 0 [.mag N],[],0⟩=some t->(t.all fun _ us=>fA us (.str l))->aN P 65 K [.mag N] [] (aH (.str l) []):=fun h1 h2=>
  bM (r:=aH _ []) hT Ta hm abw rfl aW rfl 60 h1 (fun _=>h2) K []
 split at hs<;>simp only[ax,reduceCtorEq]at hs
 all_goals subst hs
 ·exact fin aar (by simp only[ag.all,au];exact⟨by decide,by decide,by decide,by decide,.refl _⟩)
 ·exact fin aa2 (by simp only[ag.all,au];exact⟨by decide,by decide,by decide,by decide,.refl _⟩)
 ·exact fin TK (by simp only[ag.all,au];exact⟨by decide,by decide,by decide,by decide,.refl _⟩)
 ·exact fin afF (by simp only[ag.all,au];exact⟨by decide,by decide,by decide,by decide,.refl _⟩)
theorem Vr:bg P x9:=cB (aE ah0 bD)
theorem Kn.congr {n p:Nat} {k k':Nat->Rat} (h:Kn n p k) (e:∀i,i<n->k i=k' i):Kn n p k':=by
 have hp:=h.p1
 have hl:=h.len
 refine⟨h.p1,h.len,fun i hi=>?_,fun i hi=>?_,fun i h1 h2=>?_,fun i h1 h2=>?_⟩
 ·rw[<-e i aa,<-e (i+1) hi];exact h.sorted i hi
 ·rw[<-e i aa,<-e 0 aa];exact h.first i hi
 ·rw[<-e i h2,<-e (n-1) aa];exact h.last i h1 h2
 ·rw[<-e i aa,<-e (i+p) aa];exact h.mult i h1 h2
def EX:aV:=[(54,IY),(56,cQ T (sG::jU) [] 60 f56),(55,cQ T (sG::jU) [] 60 f55)]
def Lj:aV:=[(16,cQ T (sG::EX) [] 200 f16)]
def Io:aV:=[(17,cQ T (sG::jU) [] 60 f17),(27,cQ T (sG::jU) [] 60 f27),(26,cQ T (sG::jU) [] 60 f26),(98,cQ T (sG::jU) [] 60 f98),(13,cQ T (sG::jU) [100010,100017] 60 f13)]
theorem Fp:bg P EX:=aE aa6 (aE (cT hT (cB j8) hm (aM func56) _ _) (aE (cT hT (cB j8) hm (aM func55) _ _) bD))
theorem U0:bg P Lj:=aE (cT hT (cB Fp) hm (aM func16) _ _) bD
theorem Pz:bg P Io:=aE (cT hT (cB j8) hm (aM func17) _ _) (aE (cT hT (cB j8) hm (aM func27) _ _) (aE (cT hT (cB j8) hm (aM func26) _ _) (aE (cT hT (cB j8) hm (aM func98) _ _) (aE (cT hT (cB j8) hm (aM func13) _ _) bD))))
def acT (n:Nat) (f:Nat->AV) (a:Int):Int:=b9 n (cU n f a)
def GC (n:Nat) (f:Nat->AV) (a:Int):Nat->Int
 |0=>a
 |j+1=>acT n f (GC n f a j)
theorem dK.vK {n:Nat} {f:Nat->AV} {a:Int} (h:dK n f a):∀j,dK n f (GC n f a j)
 |0=>h
 |j+1=>(h.vK j).mK.next
theorem dK.gm {n:Nat} {f:Nat->AV} {a:Int} {p m:Nat} (h:dK n f a) (hp:1<=p):dK n f (knA n f a p m):=(JQ h hp _).2
theorem abl:aX 109 f109:=aM func109
theorem Tq:aX 70 f70:=aM func70
theorem SD:aX 64 f64:=aM func64
def x8:aV:=nG::(37,fL kR kR rq nX)::eV
def ia (n:Nat) (k:Nat->Rat) (a b:Rat) (i:Nat):Rat:=a+(k i-k 0)/(k (n-1)-k 0)*(b-a)
def gO (n:Nat) (k:Nat->Rat) (i:Nat):Rat:=k 0+k (n-1)-k (n-1-i)
abbrev nP (m:Nat) (k:Nat->Rat) (s:Nat):az:=⟨true,true,3,m,fun i=>.rat (k i) s⟩
abbrev xJ:List Nat:=[0,4,5,6,7,8,17,18,19]
abbrev CA (n:Nat) (k:Nat->Rat) (s i:Nat):List AV:=[bq k n s,.ptr 0 0 3 0 [],.ptr 1 0 3 0 [],.nil,.int .i64 0,.own 2 3 0 i,bq k n s,.int .i64 n,.int .i64 i]
abbrev Bn (i:Nat) (x:Nat->Rat) (a b:Rat) (r w:Nat):aD:=[(2,nP i x w),(1,tP b r),(0,tP a r)]
abbrev vX:Code:=aF f109
abbrev uI:List Nat:=[0,4,6,7,8,10,11,12]
abbrev DE (n:Nat) (k:Nat->Rat) (s i:Nat):List AV:=[bq k n s,.ptr 0 0 3 0 [],.nil,.int .i64 0,.ptr 1 0 3 0 [],.ptr 2 0 3 0 [],.own 3 3 0 i,.int .i64 i]
abbrev BR (i:Nat) (x:Nat->Rat) (a f q:Rat) (r s u w:Nat):aD:=[(3,nP i x w),(2,tP q u),(1,tP f s),(0,tP a r)]
abbrev uY:Code:=aF f70
abbrev vC:List Nat:=[0,3,4]
abbrev xG (n:Nat) (k:Nat->Rat) (s:Nat) (i:Nat) (j:Int):List AV:=[bq k n s,.own 0 3 0 i,.int .i64 j]
abbrev xu:Code:=aF f64
def kQ (n:Nat) (a b:Rat):Nat:=if b<=a then 0 else n
def jE (a b:Rat):Int:=if b<=a then 7 else 0
abbrev rm (n:Nat) (k:Nat->Rat) (a b:Rat) (w:Nat):AV:=.tuple [bq (ia n k a b) (kQ n a b) w,.int .i64 (jE a b)]
theorem ahd {n s r:Nat} {k:Nat->Rat} {a b:Rat}:aL T x8 [16] 60 xJ (before vX [1,1,1,0,1]) ⟨aS 0 [bq k n s,.rat a r,.rat b r],[],0⟩=
  let c5:Prop:=r<2^42;let c4:AV:=ptr 0 0 (bE (rat a r)).size 0 [];let c3:AV:=ptr 4096 0 (bE (rat b r)).size 0 [];let c2:AV:=ak 3 n fun i=>rat (k i) s;let c1:List (Nat×az):=[(4096,az.mk false true (bE (rat b r)).size 1 fun x=>rat b r),(0,az.mk false true (bE (rat a r)).size 1 fun x=>rat a r)];some (aj [(0:Nat)<1,(0:Nat)<1,c5,c5] (fork (decide (dn a b>=0)) (leaf ret ([c2,c4,c3,nil,int i64 7,tuple [],tuple [],tuple [],tuple []],c1)) (leaf normal ([c2,c4,c3,nil,int i64 0,nil,c2,int i64 (↑n:Int),int i64 0],c1)))):=ah
theorem adI {n s r w i:Nat} {k x:Nat->Rat} {a b:Rat}:aL T x8 [20] 60 xJ [part vX [1,1,1,0,1,0,0]] ⟨aG xJ (CA n k s i),Bn i x a b r w,3⟩=
  let c13:Nat:=r+r+1;let c12:Int:=(↑n:Int);let c11:AV:=ptr 1 0 3 0 [];let c10:AV:=ptr 0 0 3 0 [];let c9:Nat:=Int.toNat (0:Int);let c8:Int:=(↑i:Int);let c7:Int:=(2:Int)^63;let c5:AV:=ak 3 n fun i=>rat (k i) s;let c4:Nat:=s+s+1;let c3:Prop:=0<1;let c2:List (Nat×az):=[((1:Nat),bL fun x=>rat b r),((0:Nat),bL fun x=>rat a r)];let c1:Nat:=2^42;let c15:Int:=c8+1;let c14:Prop:=(0:Int)<=0/\c9<n;let c6:Int:=c12-1;some (fork (decide (c8<c12)) (aj [(0:Int)<=c8/\c8.toNat<n,c3] (aj [c3,c14,s<c1,s<c1,-c7<=c6/\c6<c7,(0:Int)<=c6/\c6.toNat<n,c14,s<c1,s<c1,c4<c1,c4<c1,c3] (aj [c3,c3,c3,c3,r<c1,r<c1,c4+c4<c1,c13<c1,r<c1,c4+c4+c13<c1,(1:Nat)*3<=2^24,(i+1)*((56:Nat)+1)*2<=2^47] (aj [-c7<=c15/\c15<c7] (leaf normal ([c5,c10,c11,nil,int i64 0,own 147459 3 0 (i+1),c5,int i64 c12,int i64 c15],(147459,az.mk true true 3 (i+1) fun i_1=>if i_1<i then rat (x i_1) w else nth [rat (a+(k c8.toNat-k c9)/(k c6.toNat-k c9)*(b-a)) (r+(c4+c4+c13)+1)] (rat 0 1) (i_1-i+0))::c2)))))) (leaf (exit 0) ([c5,c10,c11,nil,int i64 0,own 2 3 0 i,c5,int i64 c12,int i64 c8],(2,az.mk true true 3 i fun i=>rat (x i) w)::c2))):=ah
theorem ZB {n s r w i:Nat} {k x:Nat->Rat} {a b:Rat}:cP T x8 [] 60 f109 [part vX [1,1,1,1]] ⟨aG xJ (CA n k s i),Bn i x a b r w,3⟩=
  some (leaf ret [ak 3 i fun i=>rat (x (i+0)) w,int i64 0]):=ah
theorem aem {n s r:Nat} {k:Nat->Rat} {a b:Rat}:aL T qU [16] 60 uI (before uY [1,1,1,1,1,0,1]) ⟨aS 0 [bq k n s,.rat a r,.rat b r],[],0⟩=
  let c8:AV:=rat 0 1;let c7:Nat:=Int.toNat (0:Int);let c6:AV:=ak 3 n fun i=>rat (k i) s;let c5:AV:=ptr 0 0 (bE (rat a r)).size 0 [];let c4:Nat×az:=(0,az.mk false true (bE (rat a r)).size 1 fun x=>rat a r);let c3:Int:=(↑n:Int)-1;let c2:Nat:=2^41;let c1:Prop:=0<1;some (aj [c1,c1,r<c2,r<c2] (fork (decide (dn a b>=0)) (leaf ret ([c6,c5,nil,int i64 7,tuple [],tuple [],tuple [],tuple []],[c4])) (aj [(0:Int)<=0/\c7<n,-(2:Int)^63<=c3/\c3<2^63,(0:Int)<=c3/\c3.toNat<n,c1,c1] (aj [c1,c1,r<c2,r<c2,c1,c1,s<c2,s<c2,r+r+1<c2,s+s+1<c2,c1] (leaf normal ([c6,c5,nil,int i64 0,ptr 69632 0 3 0 [],ptr 114688 0 3 0 [],nil,int i64 0],[((114688:Nat),bL fun j=>if(j==0)=true then bE (Dc (b-a,r+r+1) (k c3.toNat-k c7,s+s+1))else c8),((69632:Nat),bL fun j=>if(j==0)=true then bE (rat (k c7) s)else c8),c4])))))):=ah
theorem Uv {n s r u w i:Nat} {k x:Nat->Rat} {a f q:Rat}:aL T qU [36] 60 uI [part uY [1,1,1,1,1,0,1,0,0]] ⟨aG uI (DE n k s i),BR i x a f q r s u w,4⟩=
  let c9:Nat:=s+s+1;let c8:AV:=ak 3 n fun i=>rat (k i) s;let c7:Prop:=0<1;let c6:AV:=ptr 2 0 3 0 [];let c5:AV:=ptr 1 0 3 0 [];let c4:AV:=ptr 0 0 3 0 [];let c3:Int:=(↑i:Int);let c2:Nat:=2^41;let c1:List (Nat×az):=[((2:Nat),bL fun x=>rat q u),((1:Nat),bL fun x=>rat f s),((0:Nat),bL fun x=>rat a r)];let c10:Int:=c3+1;some (fork (decide (c3<(↑n:Int))) (aj [c7,(0:Int)<=c3/\c3.toNat<n,c7,s<c2,s<c2,c7,c9<c2,u<c2,r<c2,c9+u<c2,(1:Nat)*3<=2^24,(i+1)*((56:Nat)+1)*2<=2^47] (aj [-(2:Int)^63<=c10/\c10<2^63] (leaf normal ([c8,c4,nil,int i64 0,c5,c6,own 65540 3 0 (i+1),int i64 c10],(65540,az.mk true true 3 (i+1) fun i_1=>if i_1<i then rat (x i_1) w else nth [rat (a+(k c3.toNat-f)*q) (r+(c9+u)+1)] (rat 0 1) (i_1-i+0))::c1)))) (leaf (exit 0) ([c8,c4,nil,int i64 0,c5,c6,own 3 3 0 i,int i64 c3],(3,az.mk true true 3 i fun i=>rat (x i) w)::c1))):=ah
theorem aaW {n s r u w i:Nat} {k x:Nat->Rat} {a f q:Rat}:cP T qU [] 60 f70 [part uY [1,1,1,1,1,1]] ⟨aG uI (DE n k s i),BR i x a f q r s u w,4⟩=
  some (leaf ret [ak 3 i fun i=>rat (x (i+0)) w,int i64 0]):=ah
theorem W7 {n s:Nat} {k:Nat->Rat}:aL T qU [] 60 vC (before xu [1,1,0,1]) ⟨aS 0 [bq k n s],[],0⟩=
  let c1:Int:=(↑n:Int)-1;some (aj [-(2:Int)^63<=c1/\c1<2^63] (leaf normal ([ak 3 n fun i=>rat (k i) s,nil,int i64 c1],[]))):=ah
theorem agI {n s w i:Nat} {j:Int} {k x:Nat->Rat}:aL T qU [9] 60 vC [part xu [1,1,0,1,0,0]] ⟨aG vC (xG n k s i j),[(0,nP i x w)],1⟩=
  let c4:AV:=ak 3 n fun i=>rat (k i) s;let c3:Nat:=2^41;let c2:Int:=(2:Int)^63;let c1:Int:=(↑n:Int)-1;some (fork (decide (j>=0)) (aj [(0:Int)<=0/\Int.toNat (0:Int)<n,-c2<=c1/\c1<c2,(0:Int)<=c1/\c1.toNat<n,s<c3,s<c3,(0:Int)<=j/\j.toNat<n,s+s+1<c3,s<c3,(1:Nat)*3<=2^24,(i+1)*((56:Nat)+1)*2<=2^47] (aj [-c2<=j-1/\j-1<c2] (leaf normal ([c4,own 77825 3 0 (i+1),int i64 (j-1)],[(77825,az.mk true true 3 (i+1) fun i_1=>if i_1<i then rat (x i_1) w else nth [rat (k (Int.toNat (0:Int))+k c1.toNat-k j.toNat) (s+s+1+s+1)] (rat 0 1) (i_1-i+0))])))) (leaf (exit 0) ([c4,own 0 3 0 i,int i64 j],[(0,az.mk true true 3 i fun i=>rat (x i) w)]))):=ah
theorem acy {n s w i:Nat} {j:Int} {k x:Nat->Rat}:cP T qU [] 60 f64 [part xu [1,1,1]] ⟨aG vC (xG n k s i j),[(0,nP i x w)],1⟩=
  some (leaf ret [ak 3 i fun i=>rat (x (i+0)) w]):=ah
theorem acZ:bg P x8:=eP (aE (fQ fun _ _ K hn=>uG hn.1 hn.2 K) fB)
theorem Nv {n w:Nat} {k:Nat->Rat} {a b:Rat} (h:b<=a):fA [.nil,.int .i64 7] (rm n k a b w):=
 ⟨by unfold kQ;rw[if_pos h];exact lf (by decide),bW (by unfold jE;rw[if_pos h]),trivial⟩
theorem Oq {n w:Nat} {k:Nat->Rat} {a b:Rat} (h:a<b):fA [bq (ia n k a b) n w,.int .i64 0] (rm n k a b w):=by
 have h':¬b<=a:=Rat.not_le.2 h
 exact⟨by unfold kQ;rw[if_neg h'];exact .refl _,bW (by unfold jE;rw[if_neg h']),trivial⟩
theorem X6 {n s r w:Nat} {k:Nat->Rat} {a b:Rat} (h:4*s+3*r+4<=w) (hw:w<2^40) (hn1:1<=n) (hn:n<2^40) (K:Nat):aN P 109 K [bq k n s,.rat a r,.rat b r] [] (aH (rm n k a b w) []):=by
 have e0:((n:Int)-1).toNat=n-1:=aa
 refine iu (r:=aH (rm n k a b w) []) hT acZ hm abl rfl aW rfl [1,1,1,0,1] (i:=0) (y:=part vX [1,1,1,0,1,0,0]) (z:=part vX [1,1,1,1]) ah ah ah (f1:=[16]) (f2:=[20]) (f3:=[]) 60 xJ 3
  (fun i:Nat=>CA n k s i) (fun i=>Bn i (ia n k a b) a b r w) (fun i=>i<=n/\a<b) (fun i=>i=n/\a<b) (fun i=>n-i) (fun _=>⟨⟨_,ahd,?_⟩,fun i hi=>⟨_,adI,?_⟩,fun i hi=>⟨_,ZB,?_⟩⟩) K []
 ·simp only[ag.all,au,bz,bG,ta]
  exact⟨aa,fun h1=>⟨_,ah,Nv h1⟩,fun h1=>⟨0,⟨aa,Rat.not_le.1 h1⟩,[(0,0),(1,4096)],rfl,rfl,rfl,lO rfl aa aa (aY (aY trivial))⟩⟩
 ·simp only[ag.all,au,bz,bG,br,Nat.add_zero,Int.toNat_zero,e0]
  exact⟨fun h1=>⟨aa,aa,aa,aa,i+1,⟨aa,hi.2⟩,by dsimp only;omega,[(0,0),(1,1),(2,147459)],rfl,rfl,rfl,cJ rfl rfl rfl (fun j hj=>m8 (fun _ _=>rfl) rfl aR aa hj) (aY (aY trivial))⟩,
   fun h1=>⟨rfl,i,⟨aa,hi.2⟩,[(0,0),(1,1),(2,2)],rfl,rfl,rfl,cJ rfl rfl rfl (fun j hj=>eJ rfl rfl) (aY (aY trivial))⟩⟩
 ·obtain⟨rfl,hab⟩:=hi
  simp only[ag.all,au]
  exact Oq hab
theorem Qh {n s r w:Nat} {k:Nat->Rat} {a b:Rat} (h:4*s+3*r+4<=w) (hw:w<2^40) (hn1:1<=n) (hn:n<2^40) (K:Nat):aN P 70 K [bq k n s,.rat a r,.rat b r] [] (aH (rm n k a b w) []):=by
 have e0:((n:Int)-1).toNat=n-1:=aa
 refine iu (r:=aH (rm n k a b w) []) hT Nu hm Tq rfl aW rfl [1,1,1,1,1,0,1] (i:=0) (y:=part uY [1,1,1,1,1,0,1,0,0]) (z:=part uY [1,1,1,1,1,1]) ah ah ah (f1:=[16]) (f2:=[36]) (f3:=[]) 60 uI 4
  (fun i:Nat=>DE n k s i) (fun i=>BR i (ia n k a b) a (k 0) ((b-a)/(k (n-1)-k 0)) r s (2*r+2*s+2) w) (fun i=>i<=n/\a<b) (fun i=>i=n/\a<b) (fun i=>n-i) (fun _=>⟨⟨_,aem,?_⟩,fun i hi=>⟨_,Uv,?_⟩,fun i hi=>⟨_,aaW,?_⟩⟩) K []
 ·simp only[ag.all,au,bz,bG,ta,Int.toNat_zero,e0]
  exact⟨aa,fun h1=>⟨_,ah,Nv h1⟩,fun h1=>⟨aa,aa,0,⟨aa,Rat.not_le.1 h1⟩,[(0,0),(1,69632),(2,114688)],rfl,rfl,rfl,lO rfl aa aa (fj rfl rfl (.inr ⟨rfl,bC rfl aa⟩) (aY (aY trivial)))⟩⟩
 ·simp only[ag.all,au,bz,bG,br,Nat.add_zero]
  exact⟨fun h1=>⟨aa,aa,i+1,⟨aa,hi.2⟩,by dsimp only;omega,[(0,0),(1,1),(2,2),(3,65540)],rfl,rfl,rfl,cJ rfl rfl rfl (fun j hj=>m8 (fun _ _=>rfl) (by simp only[ia,Rat.div_def];grind) aR aa hj) (aY (aY (aY trivial)))⟩,
   fun h1=>⟨rfl,i,⟨aa,hi.2⟩,[(0,0),(1,1),(2,2),(3,3)],rfl,rfl,rfl,cJ rfl rfl rfl (fun j hj=>eJ rfl rfl) (aY (aY (aY trivial)))⟩⟩
 ·obtain⟨rfl,hab⟩:=hi
  simp only[ag.all,au]
  exact Oq hab
theorem OW {n s w:Nat} {k:Nat->Rat} (h:3*s+2<=w) (hw:w<2^40) (hn:n<2^40) (K:Nat):aN P 64 K [bq k n s] [] (aH (bq (gO n k) n w) []):=by
 refine iu (r:=aH (bq (gO n k) n w) []) hT Nu hm SD rfl aW rfl [1,1,0,1] (i:=0) (y:=part xu [1,1,0,1,0,0]) (z:=part xu [1,1,1]) ah ah ah (f1:=[]) (f2:=[9]) (f3:=[]) 60 vC 1
  (fun i:Nat=>xG n k s i ((n:Int)-1-i)) (fun i=>[(0,nP i (gO n k) w)]) (fun i=>i<=n) (fun i=>i=n) (fun i=>n-i) (fun _=>⟨⟨_,W7,?_⟩,fun i hi=>⟨_,agI,?_⟩,fun i hi=>⟨_,acy,?_⟩⟩) K []
 ·simp only[ag.all,au]
  exact⟨aa,0,aa,[],rfl,by show _=(xG n k s 0 ((n:Int)-1-((0:Nat):Int))).map _;rw[show(n:Int)-1-((0:Nat):Int)=(n:Int)-1 by omega];rfl,rfl,lO rfl aa aa trivial⟩
 ·simp only[ag.all,au,bz,bG,br,Nat.add_zero,Int.toNat_zero]
  refine⟨fun h1=>⟨aa,aa,i+1,aa,by dsimp only;omega,[(0,77825)],rfl,by show _=(xG n k s (i+1) ((n:Int)-1-((i+1:Nat):Int))).map _;rw[show(n:Int)-1-((i+1:Nat):Int)=(n:Int)-1-i-1 by omega];rfl,rfl,cJ rfl rfl rfl (fun j hj=>m8 (fun _ _=>rfl) ?_ aR aa hj) trivial⟩,
   fun h1=>⟨rfl,i,aa,[(0,0)],rfl,rfl,rfl,cJ rfl rfl rfl (fun j hj=>eJ rfl rfl) trivial⟩⟩
  rw[show((n:Int)-1-i).toNat=n-1-i by omega,show((n:Int)-1).toNat=n-1 by omega];rfl
 ·subst hi
  simp only[ag.all,au]
  exact .refl _
def Aq (s r w:Nat):Spec:=cF (kC (kL s) (kC (dQ r) (kC (dQ r) kN))) (fun a=>rm a.1.1 a.1.2 a.2.1 a.2.2.1 w) fun a=>[1<=a.1.1,a.1.1<2^40]
theorem ab4 {s r w:Nat} (h:4*s+3*r+4<=w) (hw:w<2^40):bf P (Aq s r w) 109:=cC fun⟨⟨n,k⟩,a,b,_⟩ K hn=>X6 h hw hn.1 hn.2 K
theorem TN {s r w:Nat} (h:4*s+3*r+4<=w) (hw:w<2^40):bf P (Aq s r w) 70:=cC fun⟨⟨n,k⟩,a,b,_⟩ K hn=>Qh h hw hn.1 hn.2 K
def zw (s w:Nat):Spec:=cF (kC (kL s) kN) (fun a=>bq (gO a.1.1 a.1.2) a.1.1 w) fun a=>[a.1.1<2^40]
theorem aef {s w:Nat} (h:3*s+2<=w) (hw:w<2^40):bf P (zw s w) 64:=cC fun⟨⟨n,k⟩,_⟩ K hn=>OW h hw hn K
theorem He:aX 18 f18:=aM func18
theorem UR:aX 29 f29:=aM func29
theorem ahz:aX 7 f7:=aM func7
def Lq:Spec:=oF fun K l=>match l with
 |[.ak 1 n f]=>match Ac n f with
  |true=>some (aH (.ak 3 n (fun i=>.rat ((intOf (f i):Int):Rat) 64)) [])
  |false=>none
 |_=>none
def Gv:aV:=sG::(54,Lq)::(55,cQ T (sG::jU) [] 60 f55)::[]
abbrev bh (i:Nat):Rat:=if i<2 then 0 else 1
abbrev iL (i:Nat):Rat:=if i<2 then 2 else 5
abbrev dy (a b:V3) (w:Rat) (i:Nat):Pl:=if i=0 then⟨a,w⟩else⟨b,1⟩
abbrev YA (a b:V3) (w:Rat):az:=⟨true,true,12,2,fun i=>aJ (dy a b w i) 300⟩
def Ns:Spec:=oF fun K l=>match l with
 |[a,b]=>match(lF 300).read a,(lF 300).read b with
  |some (a,q),some (b,p)=>some ⟨jx [.agg [.int .i64 1,bq bh 4 64,.own K 12 0 2]],[(K,YA a b 1)],q++p⟩
  |_,_=>none
 |_=>none
def Mh:Spec:=cF (kC (gk 64 1000) (kC (dQ 64) (kC (dQ 64) kN))) (fun a=>.tuple [bk (aU iL a.1.f) 1000 1000,.int .i64 0]) fun a=>[a.1.p=1,a.1.n=4,a.1.m=2,∀i,i<4->a.1.k i=bh i,a.2.1=2,a.2.2.1=5]
def gJ (n:Nat) (f:Nat->AV) (a:Int):V3:=⟨eC n f a,eC n f (ew n f a),eC n f (ew n f (ew n f a))⟩
def xV (n:Nat) (f:Nat->AV) (a:Int):V3:=iU (gJ n f a) (fZ (eC n f (b9 n (cU n f (cU n f (cU n f (cU n f a)))))) (bV (gJ n f (cU n f a)) (gJ n f a)))
def yh (n:Nat) (f:Nat->AV) (a:Int):V3:=iU (gJ n f a) (fZ (eC n f (ew n f (b9 n (cU n f (cU n f (cU n f (cU n f a))))))) (bV (gJ n f (cU n f a)) (gJ n f a)))
def kG (n:Nat) (f:Nat->AV) (a:Int):Int:=dU n f (cU n f (cU n f (cU n f (cU n f a)))) 4
def mz (n:Nat) (f:Nat->AV) (a:Int):Int:=if kG n f a>0 then ew n f (ew n f (b9 n (cU n f (cU n f (cU n f (cU n f a))))))else b9 n (cU n f (cU n f (cU n f (cU n f a))))
def bK (n:Nat) (f:Nat->AV) (a:Int):Cu:=aU bh (dy (gJ n f a) (gJ n f (cU n f a)) (if dU n f (mz n f a) 6=5 then 2 else 1))
def d20 (n:Nat) (f:Nat->AV) (a:Int):Cu:=aU (if dU n f (b9 n (mz n f a)) 3=2 then iL else bh) (dy (if kG n f a>0 then(if kG n f a=2 then gJ n f (cU n f a)else xV n f a)else gJ n f (cU n f (cU n f a))) (if kG n f a>0 then yh n f a else gJ n f (cU n f (cU n f (cU n f a)))) 1)
def Ch (n:Nat) (f:Nat->AV) (a:Int) (l:List AV):Option (AV×Int×List Prop):=match l with
 |[]=>some (.tuple [bk (bK n f a) 1000 1000,bk (d20 n f a) 1000 1000],b9 n (b9 n (mz n f a)),[])
 |_=>none
def NP:aV:=nG::(70,Aq 64 64 1000)::[]
def OE:aV:=sG::(24,kW DH)::(25,kW zI)::(28,kW sD)::(18,Ns)::(29,Mh)::Ik
theorem Th {n i:Nat} {z:Nat->Int}:cP T sS [] 60 f54 [part nB [1,1,1]] ⟨aG oK (vD n z (.own 0 3 0 (i+1)) ((i+1:Nat):Int)),[(0,uF (i+1) z)],1⟩=
  some (leaf ret [ak 3 (i+1) fun i=>rat (↑(z (i+0)):Rat) 64]):=ah
theorem Qi {a b:V3}:aL T Gv [] 200 [4] [aF f18] ⟨aS 0 [vA a 300,vA b 300],[],0⟩=
  let c4:AV:=int i64 1;let c3:AV:=int i64 0;let c2:AV:=rat 0 1;let c1:AV:=rat (↑(1:Int):Rat) (Max.max 1 (bN (Int.natAbs (1:Int))));some (aj [(0:Nat)<1,(0:Nat)<1] (leaf ret ([ptr 8192 0 3 0 []],[(36864,az.mk true true 12 2 fun i=>nth [agg [agg [rat a.x 300,rat a.y 300,rat a.z 300],c1],agg [agg [rat b.x 300,rat b.y 300,rat b.z 300],c1]] (agg [agg [c2,c2,c2],c2]) i),((8192:Nat),bL fun j=>if(j==0)=true then bE (agg ((((agg [c3,nil,nil]).kids.set 0 (bE c4)).set 1 (bE (ak 3 4 fun i=>rat (↑(intOf (nth [c3,c3,c4,c4] c3 (i+0))):Rat) 64))).set 2 (bE (own (nat_lit 36863+1) 12 0 2))))else agg [c3,nil,nil])]))):=ah
theorem Xt {c:Cu} {a b:Rat}:bF T NP [19] 60 f29 (aF f29) ⟨aS 0 [bk c 64 1000,.rat a 64,.rat b 64],[],0⟩=
  let c1:Prop:=0<1;some (aj [c1,c1,c1,bQ (fun i=>rat (c.k i) 64) c.n 64,(64:Nat)<=64,(64:Nat)<=64,(1:Nat)<=c.n,c.n<2^40] (fork (jE a b !=(0:Int)) (aj [c1] (aj [c1] (leaf ret [agg [int i64 0,nil,nil],int i64 (jE a b)]))) (aj [c1,(0:Nat)*12<=2^24,c1,((0:Nat)+c.m)*((224:Nat)+1)*2<=2^47,c1] (aj [c1] (leaf ret [agg [int i64 c.p,ak 3 (kQ c.n a b) fun i=>rat (ia c.n (fun i=>aC (rat (c.k i) 64)) a b i) 1000,ak 12 ((0:Nat)+c.m) fun i=>agg [agg [rat (c.f (i+0-0)).n.x 1000,rat (c.f (i+0-0)).n.y 1000,rat (c.f (i+0-0)).n.z 1000],rat (c.f (i+0-0)).d 1000]],int i64 0]))))):=ah
theorem aaE {n:Nat} {z:Nat->Int} {a:Int}:p7 T OE [23,40,50,58] 200 f7 (aF f7) ⟨aS 0 [.ptr 0 0 2 0 []],[(0,iR n (fun i=>.int .i64 (z i)) a)],1⟩=
  let c57:AV:=ak 1 n fun i=>int i64 (z i);let c56:Nat:=Max.max 1 (bN (Int.natAbs (2:Int)));let c44:Nat:=Max.max 64 (Max.max 64 64);let c40:AV:=int i64 1;let c39:AV:=ak 3 4 fun i=>rat (iL i) 1000;let c38:Int:=(2:Int)^62;let c35:Int:=cU n (fun i=>int i64 (z i)) a;let c34:Rat:=eC n (fun i=>int i64 (z i)) a;let c31:Nat:=Int.toNat (0:Int)+0;let c30:AV:=ak 3 4 fun i=>rat (bh i) 64;let c29:Prop:=bQ (fun i=>rat (bh i) 64) 4 64;let c26:Rat:=eC n (fun i=>int i64 (z i)) (ew n (fun i=>int i64 (z i)) a);let c21:List Prop:=[(0:Nat)<1,(0:Nat)<1];let bK:Rat:=eC n (fun i=>int i64 (z i)) (ew n (fun i=>int i64 (z i)) (ew n (fun i=>int i64 (z i)) a));let c19:Prop:=64<=300;let c59:List Prop:=[(0:Int)<6,(6:Int)<c38];let c52:Rat:=eC n (fun i=>int i64 (z i)) c35;let c28:Int:=ew n (fun i=>int i64 (z i)) c35;let c15:Nat:=c44+c44+1;let c12:V3:=V3.mk c34 c26 bK;let c11:List Prop:=[c56<=64,Max.max 1 (bN (Int.natAbs (5:Int)))<=64,(1:Int)=1,(4:Nat)=4,(2:Nat)=2,∀(i:Nat),i<4->aC (rat (bh i) 64)=bh i,(↑(2:Int):Rat)=2,(↑(5:Int):Rat)=5];let c6:Int:=cU n (fun i=>int i64 (z i)) c35;let c53:Rat:=eC n (fun i=>int i64 (z i)) c28;let c48:Nat:=64+Max.max c15 (Max.max c15 c15);let c37:Int:=cU n (fun i=>int i64 (z i)) c6;let c36:Rat:=eC n (fun i=>int i64 (z i)) (ew n (fun i=>int i64 (z i)) c28);let c9:V3:=V3.mk (eC n (fun i=>int i64 (z i)) c6) (eC n (fun i=>int i64 (z i)) (ew n (fun i=>int i64 (z i)) c6)) (eC n (fun i=>int i64 (z i)) (ew n (fun i=>int i64 (z i)) (ew n (fun i=>int i64 (z i)) c6)));let c60:Int:=ew n (fun i=>int i64 (z i)) c37;let c13:Int:=cU n (fun i=>int i64 (z i)) c37;let c7:V3:=V3.mk c52 c53 c36;let c5:Prop:=c44+Max.max c48 (Max.max c48 c48)+1<=300;let c54:Int:=b9 n c13;let c46:Int:=dU n (fun i=>int i64 (z i)) c13 (4:Int);let c8:V3:=V3.mk (eC n (fun i=>int i64 (z i)) c37) (eC n (fun i=>int i64 (z i)) c60) (eC n (fun i=>int i64 (z i)) (ew n (fun i=>int i64 (z i)) c60));let c4:AV:=agg [c40,c30,ak 12 2 fun i=>agg [agg [rat (dy c12 c7 1 (i+0)).n.x 300,rat (dy c12 c7 1 (i+0)).n.y 300,rat (dy c12 c7 1 (i+0)).n.z 300],rat (dy c12 c7 1 (i+0)).d 300]];let c3:AV:=agg [c40,c30,ak 12 2 fun i=>agg [agg [rat (bif i+0==c31 then c34 else(dy c12 c7 1 (i+0)).n.x) (bif i+0==c31 then 300 else 300),rat (bif i+0==c31 then c26 else(dy c12 c7 1 (i+0)).n.y) (bif i+0==c31 then 300 else 300),rat (bif i+0==c31 then bK else(dy c12 c7 1 (i+0)).n.z) (bif i+0==c31 then 300 else 300)],rat (bif i+0==c31 then(↑(2:Int):Rat)else(dy c12 c7 1 (i+0)).d) (bif i+0==c31 then c56 else 300)]];let c58:Prop:=dK n (fun i=>int i64 (z i)) c54;let c49:Bool:=dU n (fun i=>int i64 (z i)) (b9 n c54) (3:Int)==2;let c47:Rat:=eC n (fun i=>int i64 (z i)) c54;let c45:List Prop:=[dK n (fun i=>int i64 (z i)) (b9 n c54),(0:Int)<3,(3:Int)<c38];let c41:List Prop:=c29::ej (fun i=>aJ (dy c9 c8 1 (i+0)) 300) 2 1000::c11;let c33:Int:=ew n (fun i=>int i64 (z i)) c54;let c25:Option az:=some (az.mk false true 2 1 fun x=>agg [c57,int i64 (b9 n (b9 n c54))]);let c24:List AV:=[agg [c40,c30,ak 12 2 fun i=>agg [agg [rat (dy c9 c8 1 (i+0)).n.x 300,rat (dy c9 c8 1 (i+0)).n.y 300,rat (dy c9 c8 1 (i+0)).n.z 300],rat (dy c9 c8 1 (i+0)).d 300]]];let c17:List AV:=[agg [c40,c39,ak 12 2 fun i=>agg [agg [rat (aC (rat (dy c9 c8 1 (i+0)).n.x 300)) 1000,rat (aC (rat (dy c9 c8 1 (i+0)).n.y 300)) 1000,rat (aC (rat (dy c9 c8 1 (i+0)).n.z 300)) 1000],rat (aC (rat (dy c9 c8 1 (i+0)).d 300)) 1000]]];let c51:Rat:=eC n (fun i=>int i64 (z i)) c33;let c10:Int:=ew n (fun i=>int i64 (z i)) c33;let c2:V3:=V3.mk (c34+c47*(c52-c34)) (c26+c47*(c53-c26)) (bK+c47*(c36-bK));let c55:Bool:=dU n (fun i=>int i64 (z i)) c10 (6:Int)==5;let c50:List Prop:=dK n (fun i=>int i64 (z i)) c10::c59;let c32:Bool:=dU n (fun i=>int i64 (z i)) (b9 n c10) (3:Int)==2;let c27:List Prop:=[dK n (fun i=>int i64 (z i)) (b9 n c10),(0:Int)<3,(3:Int)<c38];let c14:Option az:=some (az.mk false true 2 1 fun x=>agg [c57,int i64 (b9 n (b9 n c10))]);let c1:V3:=V3.mk (c34+c51*(c52-c34)) (c26+c51*(c53-c26)) (bK+c51*(c36-bK));let c43:List Prop:=c29::ej (fun i=>aJ (dy c7 c1 1 (i+0)) 300) 2 1000::c11;let c42:List Prop:=c29::ej (fun i=>aJ (dy c2 c1 1 (i+0)) 300) 2 1000::c11;let c23:List AV:=[agg [c40,c30,ak 12 2 fun i=>agg [agg [rat (dy c2 c1 1 (i+0)).n.x 300,rat (dy c2 c1 1 (i+0)).n.y 300,rat (dy c2 c1 1 (i+0)).n.z 300],rat (dy c2 c1 1 (i+0)).d 300]]];let c22:List AV:=[agg [c40,c30,ak 12 2 fun i=>agg [agg [rat (dy c7 c1 1 (i+0)).n.x 300,rat (dy c7 c1 1 (i+0)).n.y 300,rat (dy c7 c1 1 (i+0)).n.z 300],rat (dy c7 c1 1 (i+0)).d 300]]];let c18:List AV:=[agg [c40,c39,ak 12 2 fun i=>agg [agg [rat (aC (rat (dy c2 c1 1 (i+0)).n.x 300)) 1000,rat (aC (rat (dy c2 c1 1 (i+0)).n.y 300)) 1000,rat (aC (rat (dy c2 c1 1 (i+0)).n.z 300)) 1000],rat (aC (rat (dy c2 c1 1 (i+0)).d 300)) 1000]]];let c16:List AV:=[agg [c40,c39,ak 12 2 fun i=>agg [agg [rat (aC (rat (dy c7 c1 1 (i+0)).n.x 300)) 1000,rat (aC (rat (dy c7 c1 1 (i+0)).n.y 300)) 1000,rat (aC (rat (dy c7 c1 1 (i+0)).n.z 300)) 1000],rat (aC (rat (dy c7 c1 1 (i+0)).d 300)) 1000]]];some (aj [dK n (fun i=>int i64 (z i)) a,dK n (fun i=>int i64 (z i)) c35,dK n (fun i=>int i64 (z i)) c6,dK n (fun i=>int i64 (z i)) c37] (aj [dK n (fun i=>int i64 (z i)) c13,(0:Int)<4,(4:Int)<c38] (fork (decide (c46>0)) (aj [c58,dK n (fun i=>int i64 (z i)) c33] (fork (c46==2) (aj [c19,c19,c19,c19,c19,c19,c19,c19,c19,c5,c5,c5] (aj c50 (fork c55 (aj c27 (fork c32 (aj c43 (aj c21 (leaf ret (c3::c16,c14)))) (aj c21 (leaf ret (c3::c22,c14))))) (aj c27 (fork c32 (aj c43 (aj c21 (leaf ret (c4::c16,c14)))) (aj c21 (leaf ret (c4::c22,c14)))))))) (aj [c19,c19,c19,c19,c19,c19,c5,c5,c5,c5,c5,c5] (aj c50 (fork c55 (aj c27 (fork c32 (aj c42 (aj c21 (leaf ret (c3::c18,c14)))) (aj c21 (leaf ret (c3::c23,c14))))) (aj c27 (fork c32 (aj c42 (aj c21 (leaf ret (c4::c18,c14)))) (aj c21 (leaf ret (c4::c23,c14)))))))))) (aj [c19,c19,c19,c19,c19,c19,c19,c19,c19,c19,c19,c19] (aj (c58::c59) (fork (dU n (fun i=>int i64 (z i)) c54 (6:Int)==5) (aj c45 (fork c49 (aj c41 (aj c21 (leaf ret (c3::c17,c25)))) (aj c21 (leaf ret (c3::c24,c25))))) (aj c45 (fork c49 (aj c41 (aj c21 (leaf ret (c4::c17,c25)))) (aj c21 (leaf ret (c4::c24,c25))))))))))):=ah
theorem Rt:bf P Lq 54:=by
 refine qd fun K args r hk hs=>?_
 split at hs
 ·rename_i n f
  split at hs
  ·rename_i h1
   obtain⟨a1,a2,a3,a4⟩:=Oj h1
   simp only[ax]at hs
   subst hs
   refine eR (jq (r:=aH (.ak 3 n (fun i=>.rat ((intOf (f i):Int):Rat) 64)) []) hT ES rfl aW rfl (fun _ c h0=>LH a1 aa a3 c (tJ h0) ?_) K []) hk a4 []
   obtain⟨m,rfl⟩:∃m,n=m+1:=⟨n-1,aa⟩
   refine ay.qQ ((aI.fin hT D8 hm 60 Th ah ?_).mono fun _ _ h=>.inl h)
   simp only[ag.all,au]
   exact .refl _
  ·simp at hs
 ·simp at hs
theorem TH:bg P Gv:=cB (aE Rt (aE (cT hT (cB j8) hm (aM func55) _ _) bD))
theorem aie:bf P Ns 18:=by
 refine qd fun K args r hk hs=>?_
 split at hs
 ·rename_i u v
  split at hs
  ·rename_i a q b p hu hv
   simp only[ax]at hs
   subst hs
   refine ZE hT He (args0:=[vA a 300,vA b 300]) (fun hn=>rT hk (by cases u<;>cases v<;>first|rfl|simp[lF,pH]at hu hv) ⟨(lF 300).ok hu (dN.1 hn).1,(lF 300).ok hv (dN.1 hn).2,trivial⟩) aW fun hn c hkp=>?_
   refine ay.bH hT TH hm 200 [4] Qi ah ?_
   simp only[ag.all,au]
   refine⟨⟨aa,aa⟩,fun s' hs'=>⟨.inr trivial,[4],_,[.agg [.int .i64 1,.ak 3 4 (fun i=>.rat ((intOf (nth [.int .i64 0,.int .i64 0,.int .i64 1,.int .i64 1] (.int .i64 0) (i+0)):Int):Rat) 64),.own 36864 12 0 2]],[0<1],_,36864,_,hs',ah,Nat.zero_lt_one,⟨⟨rfl,IK ⟨aP,⟨rfl,lg rfl ?_⟩,⟨rfl,dx (by simp[bA,look]) rfl rfl⟩,trivial⟩⟩,trivial⟩,rfl,jm rfl fun i hi=>?_⟩⟩
   ·refine dB fun i hi=>?_
    match i,hi with
    |0,_|1,_|2,_|3,_=>exact bC (by decide+kernel) (by decide)
   ·match i,hi with
    |0,_|1,_=>exact lg rfl (cj ⟨cj ⟨.refl _,.refl _,.refl _,trivial⟩,bC rfl (by decide+kernel),trivial⟩)
  ·simp at hs
 ·simp at hs
theorem Pc:bg P NP:=eP (aE (TN (by decide) (by decide)) bD)
theorem af5:bf P Mh 29:=cC fun⟨c,a,b,_⟩ K hn=>by
 obtain⟨h1,h2,h3,h4,h5,h6⟩:c.p=1/\c.n=4/\c.m=2/\(∀i,i<4->c.k i=bh i)/\a=2/\b=5:=hn
 dsimp only
 rw[h5,h6]
 refine bM (r:=aH (.tuple [bk (aU iL c.f) 1000 1000,.int .i64 0]) []) hT Pc hm UR rfl aW rfl 60 Xt (fun _=>?_) K []
 have e0:jE 2 5=0:=by decide+kernel
 have e1:kQ c.n 2 5=4:=by rw[h2];decide+kernel
 simp only[ag.all,au,e0,e1,h1,h3]
 refine⟨⟨aa,aa,aa,cV aR,aa,aa,aa,aa⟩,fun h=>absurd h (by decide),fun _=>⟨⟨aa,aa,aa,aa,aa⟩,aa,?_⟩⟩
 refine⟨cj ⟨.refl _,dB fun i hi=>bC ?_ aR,.refl _,trivial⟩,.refl _,trivial⟩
 show(2:Rat)+(c.k i-c.k 0)/(c.k (c.n-1)-c.k 0)*(5-2)=iL i
 rw[h2,h4 i hi,h4 0 (by decide),h4 (4-1) (by decide)]
 match i,hi with
 |0,_|1,_|2,_|3,_=>decide+kernel
theorem ZV:bg P OE:=cB (aE agv (aE LV (aE ZM (aE aie (aE af5 PB)))))
theorem L8 {F G:Nat->AV} {k:Nat->Rat} {p:Nat->Pl} (h1:∀i,i<4->bp (F i) (.rat (k i) 1000)) (h2:∀i,i<2->bp (G i) (aJ (p i) 1000)):bp (.agg [.int .i64 1,.ak 3 4 F,.ak 12 2 G]) (bk (aU k p) 1000 1000):=
 cj ⟨.refl _,dB h1,dB h2,trivial⟩
theorem Iv {x y z d:Rat} {a b c e:Nat} {q:Pl} (h1:x=q.n.x) (h2:y=q.n.y) (h3:z=q.n.z) (h4:d=q.d) (ka:a<=1000) (kb:b<=1000) (kc:c<=1000) (ke:e<=1000):bp (.agg [.agg [.rat x a,.rat y b,.rat z c],.rat d e]) (aJ q 1000):=
 cj ⟨cj ⟨bC h1 ka,bC h2 kb,bC h3 kc,trivial⟩,bC h4 ke,trivial⟩
theorem afv {k n:Nat} {z:Nat->Int} {a:Int} {o:az} (ho:∀ρ,eA ρ o (iR n (fun i=>.int .i64 (z i)) a)) (h:dK n (fun i=>.int .i64 (z i)) a) (K:Nat):
  aN P 7 K [.ptr k 0 2 0 []] [(k,o)] ⟨.tuple [bk (bK n (fun i=>.int .i64 (z i)) a) 1000 1000,bk (d20 n (fun i=>.int .i64 (z i)) a) 1000 1000],[(k,iR n (fun i=>.int .i64 (z i)) (b9 n (b9 n (mz n (fun i=>.int .i64 (z i)) a))))],[]⟩:=by
 refine uH hT ZV hm ahz rfl rfl aW ho 200 aaE (fun _=>?_) K
 have d4:=h.mK.mK.mK.mK
 have t2:(2:Int)>0:=by decide
 simp only[ag.all,au,bz,bG,beq_iff_eq,beq_eq_false_iff_ne,ne_eq]
 (repeat' with_reducible first|refine And.intro ?_ ?_|intro _)
 all_goals first|(with_reducible first|exact h|exact h.mK|exact h.mK.mK|exact h.mK.mK.mK|exact d4|exact d4.next|exact d4.next.number|exact d4.next.number.number|exact d4.next.number.number.next|exact d4.next.next|rfl|exact cV aR|exact jt (by decide))|omega|skip
 all_goals first|exact trivial|(with_reducible exact Dq)|(with_reducible decide+kernel)|skip
 all_goals first|exact⟨_,rfl,rfl,qM rfl (by unfold mz kG;simp only[*,if_true,if_false,eq_self])⟩|skip
 all_goals
  simp only [bK, d20, mz, kG, *, if_true, if_false, eq_self]
  exact⟨L8 (fun i hi=>bC rfl (by decide+kernel)) (fun i hi=>by
   match i,hi with
   |0,_|1,_=>exact Iv rfl rfl rfl rfl (by decide+kernel) (by decide+kernel) (by decide+kernel) (by decide+kernel)),L8 (fun i hi=>bC rfl (by decide+kernel)) (fun i hi=>by
   match i,hi with
   |0,_|1,_=>exact Iv rfl rfl rfl rfl (by decide+kernel) (by decide+kernel) (by decide+kernel) (by decide+kernel)),trivial⟩
theorem agL:bf P (kW Ch) 7:=by
 refine xw fun {k n z a l v b q o} K hg ho hd hq=>?_
 unfold Ch at hg
 split at hg
 ·simp only[ax,Prod.mk.injEq]at hg
  obtain⟨rfl,rfl,rfl⟩:=hg
  exact afv ho hd K
 ·simp at hg
end Go.Am.B
