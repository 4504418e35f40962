/- slices. -/
import Derived.Test.YtppeigelbecpbaaGreatY38
import Derived.Test.YtppeigelbecpbaaGreatY37
import Derived.Test.YtppeigelbecpbaaGreatB33
set_option linter.unusedVariables false
noncomputable section
namespace Go.Am.B
open Go Go.Am.N AV ah au IntKind
theorem acZ {c:Nat} {u v:AV} (hv:v.isAgg=false) (h:bG u v):bG (.bJ c u) (.bJ c v):=by
 refine⟨rfl,fun M w cs hc=>?_⟩
 cases hc with
 |bJ _ h1 h2=>cases h2;exact .bJ hv (h.2 _ _ _ h1) .nil
def Uv (s:Nat):Kind (Nat×(Nat->Rat)):=⟨fun v=>match v with
 |.bJ c v=>match(kL s).read v with
  |some (a,q)=>some (a,(c=a.1)::q)
  |none=>none
 |_=>none,fun a=>.bJ a.1 (bq a.2 a.1 s),fun {v a q} h hq=>by
  split at h
  ·split at h
   ·rename_i h1
    simp only[ay,Prod.mk.injEq]at h
    obtain⟨rfl,rfl⟩:=h
    obtain⟨q1,q2⟩:=Ce.1 hq
    subst q1
    exact acZ rfl ((kL s).ok h1 q2)
   ·simp at h
  ·simp at h⟩
abbrev Dz:FuncId:=Xl
abbrev Bf:Func:=adY
def dc (k:Nat->Rat) (t:Rat):Nat->Nat
 |0=>0
 |n+1=>if dc k t n=n/\k n<=t then n+1 else dc k t n
def dr (k:Nat->Rat) (t:Rat) (p j:Nat):Rat:=if j<p then k j else if j=p then t else k (j-1)
abbrev xh:List Nat:=[3,9,10,11]
abbrev IQ (n:Nat) (k:Nat->Rat) (s i:Nat):List AV:=[.bJ n (.own 0 3 0 i),bq k n s,.int .i64 n,.int .i64 i]
abbrev FO:bg:=cG::gI
abbrev xD:List Nat:=[0,3,5]
abbrev KY (n:Nat) (k:Nat->Rat) (s i:Nat):List AV:=[bq k n s,.ptr 0 0 3 0 [],.int .i64 i]
abbrev zq:Code:=aA Bn
def Rp (w:Nat):Spec:=cN (kC (Uv w) (kC kI (kC (kL w) kN))) (fun a=>bq (dr a.1.2 (a.2.2.1.2 0) a.2.1.toNat) (a.1.1+1) w) fun a=>[0<=a.2.1,a.2.1<=a.1.1,a.2.2.1.1=1,a.1.1<2^40]
def LD (s w:Nat):Spec:=cN (kC (kL s) kN) (fun a=>.bJ a.1.1 (bq a.1.2 a.1.1 w)) fun a=>[a.1.1<2^40]
def A7 (s w:Nat):bg:=cG::(tr,LD s w)::(Dz,Rp w)::gI
abbrev xw:List Nat:=[0,3,5,6,7]
abbrev vl (n:Nat) (k:Nat->Rat) (s m i:Nat) (b:Bool):List AV:=[bq k n s,.ptr 0 0 3 0 [],.own 1 3 0 m,.bool b,.int .i64 i]
abbrev xp:Code:=aA BM
theorem XD:aT P Dz Bf (aA Bf):=aY Proofs.Tryz.func216 ag ag ag
theorem ae7:aT P ve Bn (aA Bn):=aY Proofs.Tryz.func167 ag ag ag
theorem YI:aT P Dv BM (aA BM):=aY Proofs.Tryz.func168 ag ag ag
theorem ah6 {n i s:Nat} {k:Nat->Rat} {t:Rat}:bW T [cG] [22,100031] 60 Bf (aA Bf) ⟨aQ 0 [.bJ n (bq k n s),.int .i64 i,bq (fun _=>t) 1 s],[],0⟩=
  let c11:Nat:=Int.toNat (0:Int);let c9:Int:=(↑n:Int);let c7:Int:=(2:Int)^63;let c4:Int:=(↑i:Int);let c14:Nat:=c4.toNat-c11;let c13:Prop:=(0:Int)<=c4;let c12:Nat:=0+c4.toNat;let c3:Int:=c9+(↑(1:Nat):Int);let c2:Int:=c4+(↑(1:Nat):Int);let c10:Nat:=0+c2.toNat;let c1:Nat:=c14+(c3-c4).toNat;let c8:Int:=(↑c1:Int);let c6:Nat:=c12+Min.min 1 (c8.toNat-c4.toNat);let c5:Nat:=c10+Min.min (c9.toNat-c4.toNat) (c8.toNat-c2.toNat);some (aj [c13/\c4<=c9/\c9<=c9] (fork (c4==c9) (aj [n<n+1/\(n+1)*((56:Nat)+1)*2<=2^47] (leaf ret [aq 3 (n+1) fun i=>if i+0<n then rat (k (i+0)) s else rat t s])) (aj [-c7<=c3/\c3<c7] (aj [decide (c3>c9)=true] (aj [(0:Int)<=(0:Int)/\c13/\c4<=c9,-c7<=c3/\c3<c7,-c7<=c3-c4/\c3-c4<c7,(0:Int)<c3-c4/\n-c11<c1/\c1*((56:Nat)+1)*2<=2^47] (aj [c13/\c4<=c8/\c8<=c8/\c8<=c8] (aj [-c7<=c2/\c2<c7,(0:Int)<=c2/\c2<=c8/\c8<=c8/\c8<=c8,c13/\c4<=c9/\c9<=c9] (leaf ret [aq 3 c1 fun i=>if c10<=i+0/\i+0<c5 then rat (k (i+0-c10+c4.toNat)) s else if c12<=i+0/\i+0<c6 then rat t s else if i+0<c14 then rat (k (i+0+c11)) s else rat 0 1])))))))):=ag
theorem ajp {n s:Nat} {k:Nat->Rat}:aH T FO [] 60 xh (before od [1,1,0,1]) ⟨aQ 0 [bq k n s],[],0⟩=
  let c1:Int:=(↑n:Int);some (aj [(0:Int)<=(0:Int)/\(0:Int)<=c1/\c1<=(2:Int)^47/\c1*(↑(56:Nat):Int)<=(2:Int)^47] (leaf normal ([bJ c1.toNat (own 12288 3 0 0),aq 3 n fun i=>rat (k i) s,int i64 c1,int i64 0],[(12288,ak.mk true true 3 0 fun x=>rat 0 1)]))):=ag
theorem XT {n i s w:Nat} {k x:Nat->Rat}:aH T FO [12] 60 xh [part od [1,1,0,1,0,0]] ⟨aC xh (IQ n k s i),[(0,nB i x w)],1⟩=
  let c5:Int:=(↑n:Int);let c3:Nat:=i+1;let c2:AV:=aq 3 n fun i=>rat (k i) s;let c1:Int:=(↑i:Int);let c4:Int:=c1+(1:Int);some (fork (decide (c1<c5)) (aj [(0:Int)<=c1/\c1.toNat<n,(0:Nat)<1] (aj [(0:Nat)<1,s<2^42,(1:Nat)<2^42,(1:Nat)*3<=2^24,c3<=n,c3*((56:Nat)+1)*2<=2^47] (aj [-(2:Int)^63<=c4/\c4<(2:Int)^63] (leaf normal ([bJ n (own 40961 3 0 c3),c2,int i64 c5,int i64 c4],[(40961,ak.mk true true 3 c3 fun i_1=>if i_1<i then rat (x i_1) w else nth [rat (k c1.toNat+0) (s+1+1)] (rat 0 1) (i_1-i+0))]))))) (leaf (exit 0) ([bJ n (own 0 3 0 i),c2,int i64 c5,int i64 c1],[(0,ak.mk true true 3 i fun i=>rat (x i) w)]))):=ag
theorem Wc {n i s w:Nat} {k x:Nat->Rat}:cw T FO [] 60 CP [part od [1,1,1]] ⟨aC xh (IQ n k s i),[(0,nB i x w)],1⟩=
  some (leaf ret [bJ n (aq 3 i fun i=>rat (x (i+0)) w)]):=ag
theorem ajP {n s r w:Nat} {k:Nat->Rat} {t:Rat}:aH T (A7 s w) [] 60 xD (before zq [1,1,0]) ⟨aQ 0 [bq k n s,.rat t r],[],0⟩=
  some (leaf normal ([aq 3 n fun i=>rat (k i) s,ptr 0 0 (aV (rat t r)).size 0 [],int i64 0],[(0,ak.mk false true (aV (rat t r)).size 1 fun x=>rat t r)])):=ag
theorem akA {n i s r w:Nat} {k:Nat->Rat} {t:Rat}:aH T (A7 s w) [10,18] 60 xD [part zq [1,1,0,0,0]] ⟨aC xD (KY n k s i),[(0,tP t r)],1⟩=
  let c7:AV:=aq 3 n fun i=>rat (k i) s;let c5:AV:=ptr 0 0 3 0 [];let c4:Nat×ak:=((0:Nat),aJ fun x=>rat t r);let c3:Int:=(↑i:Int);let c8:Int:=c3+(1:Int);let c6:Bool:=decide (c3<(↑n:Int));let c2:ah (List AV×aF):=leaf (exit 0) ([c7,c5,int i64 c3],[c4]);let c1:ah (List AV×aF):=aj [-(2:Int)^63<=c8/\c8<(2:Int)^63] (leaf normal ([c7,c5,int i64 c8],[c4]));some (fork c6 (aj [c6=true,(0:Int)<=c3/\c3.toNat<n,(0:Nat)<1,s<2^42,r<2^42] (fork (bif true then decide (dM (k c3.toNat) t<=(0:Int))else false) c1 c2)) (aj [c6=false] (fork false c1 c2))):=ag
theorem aiG {n i s r w:Nat} {k:Nat->Rat} {t:Rat}:cw T (A7 s w) [] 60 Bn [part zq [1,1,1]] ⟨aC xD (KY n k s i),[(0,tP t r)],1⟩=
  let c3:AV:=rat 0 1;let c2:Prop:=n<2^40;let c1:AV:=rat (t+0) (r+1+1);some (aj [bP (fun i=>rat (k i) s) n s,c2,(0:Nat)<1,r<2^42,(1:Nat)<2^42,(1:Nat)*3<=2^24,n=n,bP (fun i=>rat (aR (rat (k i) s)) w) n w,bP (fun i=>nth [c1] c3 (i+0)) 1 w,(0:Int)<=(↑i:Int),(↑i:Int)<=(↑n:Int),(1:Nat)=1,c2] (leaf ret [aq 3 (n+1) fun i_1=>rat (dr (fun i=>aR (rat (aR (rat (k i) s)) w)) (aR (nth [c1] c3 ((0:Nat)+0))) (↑i:Int).toNat i_1) w])):=ag
theorem ajv {n s r:Nat} {k:Nat->Rat} {t:Rat}:aH T nF [] 60 xw (before xp [1,1,1,0,1]) ⟨aQ 0 [bq k n s,.rat t r],[],0⟩=
  some (leaf normal ([aq 3 n fun i=>rat (k i) s,ptr 0 0 (aV (rat t r)).size 0 [],nil,AV.bool false,int i64 0],[(0,ak.mk false true (aV (rat t r)).size 1 fun x=>rat t r)])):=ag
theorem abn {n s r w m i:Nat} {b:Bool} {k x:Nat->Rat} {t:Rat}:aH T nF [11,16,24] 60 xw [part xp [1,1,1,0,1,0,0]] ⟨aC xw (vl n k s m i b),[(1,nB m x w),(0,tP t r)],2⟩=
  let c12:AV:=rat 0 1;let c11:Prop:=1*3<=2^24;let c9:AV:=aq 3 n fun i=>rat (k i) s;let c7:Nat:=m+1;let c6:AV:=ptr 0 0 3 0 [];let c5:Nat×ak:=((0:Nat),aJ fun x=>rat t r);let c3:Int:=(↑i:Int);let c15:Rat:=k c3.toNat;let c14:Nat:=c7+1;let c13:Int:=c3+(1:Int);let c10:Prop:=(0:Int)<=c3/\c3.toNat<n;let c4:List Prop:=[c11,c7*((56:Nat)+1)*2<=2^47];let c8:Prop:=-(2:Int)^63<=c13/\c13<(2:Int)^63;let c2:ah (List AV×aF):=aj (c10::c4) (aj [c8] (leaf normal ([c9,c6,own 86018 3 0 c7,AV.bool b,int i64 c13],[(86018,ak.mk true true 3 c7 fun i=>if i<m then rat (x i) w else nth [rat c15 s] c12 (i-m+0)),c5])));let c1:ah (List AV×aF):=aj (((0:Nat)<1)::c4) (aj [c10,c11,c14*((56:Nat)+1)*2<=2^47] (aj [c8] (leaf normal ([c9,c6,own 110594 3 0 c14,AV.bool true,int i64 c13],[(110594,ak.mk true true 3 c14 fun i=>if i<c7 then if i<m then rat (x i) w else nth [rat t r] c12 (i-m+0)else nth [rat c15 s] c12 (i-c7+0)),c5]))));some (fork (decide (c3<(↑n:Int))) (fork (!b) (aj [(!b)=true,(0:Nat)<1,c10,r<2^41,s<2^41] (fork (bif true then decide (dM t c15<(0:Int))else false) c1 c2)) (aj [(!b)=false] (fork false c1 c2))) (leaf (exit 0) ([c9,c6,own 1 3 0 m,AV.bool b,int i64 c3],[(1,ak.mk true true 3 m fun i=>rat (x i) w),c5]))):=ag
theorem ag7 {n s r w m i:Nat} {b:Bool} {k x:Nat->Rat} {t:Rat}:cw T nF [37] 60 BM [part xp [1,1,1,1]] ⟨aC xw (vl n k s m i b),[(1,nB m x w),(0,tP t r)],2⟩=
  some (fork (!b) (aj [(0:Nat)<1,(1:Nat)*3<=2^24,(m+1)*((56:Nat)+1)*2<=2^47] (leaf ret [aq 3 (m+1) fun i=>if i+0<m then rat (x (i+0)) w else nth [rat t r] (rat 0 1) (i+0-m+0)])) (leaf ret [aq 3 m fun i=>rat (x (i+0)) w])):=ag
theorem J8 {Γ:bg} (h:bz P Γ):bz P (cG::Γ):=aL (fun _ _ _ _ h=>nomatch h) h
theorem OD {a b:Rat}:dM a b<=(0:Int)↔a<=b:=by
 have:=@tq a b
 constructor
 ·intro h
  exact Rat.not_lt.1 fun h'=>by have:=tq.2 h';omega
 ·intro h
  have:¬dM a b>0:=fun h'=>Rat.not_lt.2 h (tq.1 h')
  omega
theorem KV {k:Nat->Rat} {t:Rat}:∀{n:Nat},dc k t n<=n
 |0=>aU
 |n+1=>by
  have:=KV (k:=k) (t:=t) (n:=n)
  unfold dc;split<;>omega
theorem Jb {k:Nat->Rat} {t:Rat} {n:Nat} (h:dc k t n=n) (h2:k n<=t):dc k t (n+1)=n+1:=by unfold dc;rw[if_pos ⟨h,h2⟩]
theorem Iv {k:Nat->Rat} {t:Rat} {i:Nat} (h:dc k t i=i) (h2:t<k i):∀{n:Nat},i<=n->dc k t n=i
 |0,hn=>by
    have:i=0:=aa
    subst this;rfl
 |n+1,hn=>by
  by_cases he:i=n+1
  ·subst he;exact h
  ·have ih:=Iv h h2 (n:=n) aa
   unfold dc
   rw[if_neg,ih]
   rintro⟨g1,g2⟩
   have:i=n:=aa
   subst this
   exact absurd h2 (Rat.not_lt.2 g2)
theorem ake {n i s:Nat} {k:Nat->Rat} {t:Rat} (hi:i<=n) (hn:n<2^40) (K:Nat):aE P Dz K [.bJ n (bq k n s),.int .i64 i,bq (fun _=>t) 1 s] [] (aK (bq (dr k t i) (n+1) s) []):=by
 refine cj (r:=aK (bq (dr k t i) (n+1) s) []) hT (J8 bO) hm XD rfl aX rfl 60 ah6 (fun _=>?_) K []
 simp only[ah.all,az,aZ,bk]
 have w1:((1:Nat):Int)=1:=rfl
 simp only[w1,aW,Int.toNat_zero,Nat.sub_zero,Nat.zero_add,Nat.add_zero,beq_iff_eq,beq_eq_false_iff_ne,ne_eq,Int.ofNat_inj]
 refine⟨aa,fun h=>⟨aa,fq fun j hj=>dF ?_⟩,fun h=>?_⟩
 ·subst h
  unfold dr
  by_cases h1:j<i
  ·rw[if_pos h1,if_pos h1]
  ·rw[if_neg h1,if_neg h1,if_pos aa]
 ·have eN:i+((n:Int)+1-i).toNat=n+1:=aa
  have e2:((i:Int)+1).toNat=i+1:=aa
  simp only[eN,e2]
  refine⟨aa,aa,aa,aa,aa,fq fun j hj=>dF ?_⟩
  unfold dr
  by_cases h1:j<i
  ·rw[if_neg aa,if_neg aa,if_pos h1,if_pos h1]
  ·by_cases h2:j=i
   ·rw[if_neg aa,if_pos aa,if_neg h1,if_pos h2]
   ·rw[if_pos aa,if_neg h1,if_neg h2,show j-(i+1)+i=j-1 by omega]
theorem Vh:bz P FO:=J8 iG
theorem abX {n s w:Nat} {k:Nat->Rat} (h:s+2<=w) (hw:w<2^40) (hn:n<2^40) (K:Nat):aE P tr K [bq k n s] [] (aK (.bJ n (bq k n w)) []):=by
 refine fI (r:=aK (.bJ n (bq k n w)) []) hT Vh hm JZ rfl aX rfl [1,1,0,1] (i:=0) (y:=part od [1,1,0,1,0,0]) (z:=part od [1,1,1]) ag ag ag (f1:=[]) (f2:=[12]) (f3:=[]) 60 xh 1
  (fun i:Nat=>IQ n k s i) (fun i=>[(0,nB i k w)]) (fun i=>i<=n) (fun i=>i=n) (fun i=>n-i) (fun _=>⟨⟨_,ajp,?_⟩,fun i hi=>⟨_,XT,?_⟩,fun i hi=>⟨_,Wc,?_⟩⟩) K []
 ·simp only[ah.all,az]
  exact⟨aa,0,Nat.zero_le _,[(0,12288)],rfl,by rw[aW];rfl,rfl,bL rfl rfl rfl (fun j hj=>absurd hj (Nat.not_lt_zero j)) trivial⟩
 ·simp only[ah.all,az,aZ,bk,aW,Nat.add_zero]
  exact⟨fun h1=>⟨aa,aa,aa,i+1,aa,by dsimp only;omega,[(0,40961)],rfl,rfl,rfl,bL rfl rfl rfl (fun j hj=>gM (fun _ _=>rfl) (Rat.add_zero _) aU aa hj) trivial⟩,
   fun h1=>⟨rfl,i,aa,[(0,0)],rfl,rfl,rfl,bp trivial⟩⟩
 ·subst hi
  simp only[ah.all,az]
  exact .refl _
theorem XI {s w:Nat} (h:s+2<=w) (hw:w<2^40):∀K args pre r,LD s w K args pre=some r->aE P tr K args pre r:=cy fun⟨⟨n,k⟩,_⟩ K hn=>abX h hw hn K
theorem adD {w:Nat}:∀K args pre r,Rp w K args pre=some r->aE P Dz K args pre r:=cy fun⟨⟨n,k⟩,i,⟨m,g⟩,_⟩ K hn=>by
 obtain⟨h1,h2,h3,h4⟩:=hn
 simp only at h1 h2 h3 h4
 subst h3
 have:=gD (ake (k:=k) (t:=g 0) (s:=w) (i:=i.toNat) (n:=n) aa h4 K) (args:=[.bJ n (bq k n w),.int .i64 i,bq g 1 w]) rfl ⟨.refl _,bQ aa,fq fun j hj=>dF (by rw[Nat.lt_one_iff.1 hj]),trivial⟩ []
 exact this
theorem aeG {s w:Nat} (h:s+2<=w) (hw:w<2^40):bz P (A7 s w):=J8 (aL (XI h hw) (aL adD iG))
theorem SU {n s r w:Nat} {k:Nat->Rat} {t:Rat} (h:s+2<=w) (h2:r+2<=w) (hw:w<2^40) (hn:n<2^40) (K:Nat):aE P ve K [bq k n s,.rat t r] [] (aK (bq (dr k t (dc k t n)) (n+1) w) []):=by
 refine fI (r:=aK (bq (dr k t (dc k t n)) (n+1) w) []) hT (aeG h hw) hm ae7 rfl aX rfl [1,1,0] (i:=0) (y:=part zq [1,1,0,0,0]) (z:=part zq [1,1,1]) ag ag ag (f1:=[]) (f2:=[10,18]) (f3:=[]) 60 xD 1
  (fun i:Nat=>KY n k s i) (fun _=>[(0,tP t r)]) (fun i=>i<=n/\dc k t i=i) (fun i=>i<=n/\i=dc k t n) (fun i=>n-i) (fun _=>⟨⟨_,ajP,?_⟩,fun i hi=>⟨_,akA,?_⟩,fun i hi=>⟨_,aiG,?_⟩⟩) K []
 ·simp only[ah.all,az]
  exact⟨0,⟨Nat.zero_le _,rfl⟩,[(0,0)],rfl,rfl,rfl,aB trivial⟩
 ·simp only[ah.all,az,aZ,bk,aW]
  simp only[cond_true,aZ,bk,OD]
  exact⟨fun h1=>⟨⟨h1,aa,aa,aa,aa⟩,fun h2=>⟨aa,i+1,⟨aa,Jb hi.2 h2⟩,by dsimp only;omega,[(0,0)],rfl,rfl,rfl,aB trivial⟩,
    fun h2=>⟨rfl,i,⟨aa,(Iv hi.2 (Rat.not_le.1 h2) aa).symm⟩,[(0,0)],rfl,rfl,rfl,aB trivial⟩⟩,
   fun h1=>⟨h1,fun h=>absurd h (by decide),fun _=>⟨rfl,i,⟨hi.1,by rw[show n=i by omega];exact hi.2.symm⟩,[(0,0)],rfl,rfl,rfl,aB trivial⟩⟩⟩
 ·obtain⟨hi,rfl⟩:=hi
  simp only[ah.all,az]
  refine⟨⟨bY aU,aa,aa,aa,aa,aa,trivial,bY aU,fun j hj=>?_,aa,aa,trivial,aa⟩,fq fun j hj=>dF ?_⟩
  ·rw[Nat.lt_one_iff.1 hj];exact fK aa
  ·show AV.rat (dr k (t+0) ((dc k t n:Nat):Int).toNat j) w=_
   rw[Rat.add_zero,aW]
theorem Ki {k:Nat->Rat} {t:Rat}:∀{n j:Nat},j<dc k t n->k j<=t
 |0,j,h=>by simp[dc]at h
 |n+1,j,h=>by
  unfold dc at h
  split at h
  ·rename_i g
   by_cases he:j=n
   ·subst he;exact g.2
   ·exact Ki (n:=n) aa
  ·exact Ki h
theorem Mv {k:Nat->Rat} {t:Rat}:∀{n:Nat},dc k t n<n->t<k (dc k t n)
 |0,h=>aa
 |n+1,h=>by
  by_cases he:dc k t n=n
  ·by_cases h2:k n<=t
   ·rw[Jb he h2]at h;omega
   ·have:dc k t (n+1)=n:=by rw[dc,if_neg (fun g=>h2 g.2),he]
    rw[this];exact Rat.not_le.1 h2
  ·have:dc k t (n+1)=dc k t n:=by rw[dc,if_neg (fun g=>he g.1)]
   rw[this]
   exact Mv (by have:=KV (k:=k) (t:=t) (n:=n);omega)
def l6 (p i:Nat):Nat:=if i<=p then i else i+1
def qz (p i:Nat):Bool:=decide (p<i)
theorem rV {p i:Nat} (h:i<=p):l6 p i=i/\qz p i=false:=⟨if_pos h,decide_eq_false aa⟩
theorem y6 {p i:Nat} (h:p<i):l6 p i=i+1/\qz p i=true:=⟨if_neg aa,decide_eq_true h⟩
theorem IV {n s r w p i m key:Nat} {b:Bool} {k:Nat->Rat} {t:Rat} {g:Nat->AV} (h1:iA 2 [(0,0),(1,key)]=true) (h2:(key==0)=false) (h3:m=l6 p (i+1)) (h4:b=qz p (i+1)) (h5:∀j,j<m->eG [(0,0),(1,key)] (g j) (.rat (dr k t p j) w)):
  cP [] ([bq k n s,.ptr 0 0 3 0 [],.own key 3 0 m,.bool b,.int .i64 ((i:Int)+1)],[(key,⟨true,true,3,m,g⟩),(0,tP t r)]) (vl n k s (l6 p (i+1)) (i+1) (qz p (i+1))) [(1,nB (l6 p (i+1)) (dr k t p) w),(0,tP t r)] 2:=by
 subst h3 h4
 exact⟨[(0,0),(1,key)],by rw[h1];rfl,rfl,rfl,bL rfl ot rfl h5 (bD rfl ((GB h2).trans ot) (cL rfl rfl) trivial)⟩
theorem aeQ {n s r w:Nat} {k:Nat->Rat} {t:Rat} (h:s<=w) (h2:r<=w) (hw:w<2^40) (hn:n<2^40) (K:Nat):aE P Dv K [bq k n s,.rat t r] [] (aK (bq (dr k t (dc k t n)) (n+1) w) []):=by
 obtain⟨p,hp⟩:∃p,dc k t n=p:=⟨_,rfl⟩
 have hpn:p<=n:=hp▸KV
 have hlt:∀j,j<p->k j<=t:=fun j hj=>Ki (hp▸hj)
 have hat:p<n->t<k p:=fun g=>by have:=Mv (k:=k) (t:=t) (n:=n) aa;rwa [hp]at this
 rw[hp]
 refine fI (r:=aK (bq (dr k t p) (n+1) w) []) hT uZ hm YI rfl aX rfl [1,1,1,0,1] (i:=0) (y:=part xp [1,1,1,0,1,0,0]) (z:=part xp [1,1,1,1]) ag ag ag (f1:=[]) (f2:=[11,16,24]) (f3:=[37]) 60 xw 2
  (fun i:Nat=>vl n k s (l6 p i) i (qz p i)) (fun i=>[(1,nB (l6 p i) (dr k t p) w),(0,tP t r)]) (fun i=>i<=n) (fun i=>i=n) (fun i=>n-i) (fun _=>⟨⟨_,ajv,?_⟩,fun i hi=>⟨_,abn,?_⟩,fun i hi=>⟨_,ag7,?_⟩⟩) K []
 ·simp only[ah.all,az]
  refine⟨0,Nat.zero_le _,?_⟩
  show cP [] _ (vl n k s (l6 p 0) 0 (qz p 0)) [(1,nB (l6 p 0) (dr k t p) w),(0,tP t r)] 2
  rw[(rV (Nat.zero_le p)).1,(rV (Nat.zero_le p)).2]
  exact⟨[(0,0)],rfl,rfl,rfl,gU rfl aa aa (aB trivial)⟩
 ·simp only[ah.all,az,aZ,bk,aW,Nat.add_zero,cond_true,mI]
  have hx:¬(i:Int)<n->i=n:=fun h1=>aa
  have ex:∀{b:Bool} {m:Nat},b=qz p i->m=l6 p i->cP [] ([bq k n s,.ptr 0 0 3 0 [],.own 1 3 0 m,.bool b,.int .i64 i],[((1:Nat),nB m (dr k t p) w),(0,tP t r)]) (vl n k s (l6 p i) i (qz p i)) [(1,nB (l6 p i) (dr k t p) w),(0,tP t r)] 2:=fun {b m} hb hm'=>by
   subst hb hm'
   exact⟨[(0,0),(1,1)],rfl,rfl,rfl,bp (aB trivial)⟩
  rcases Nat.lt_trichotomy i p with hc|hc|hc
  ·obtain⟨e1,e2⟩:=rV (Nat.le_of_lt hc)
   obtain⟨e3,e4⟩:=rV (p:=p) (i:=i+1) hc
   rw[e1,e2]
   simp only[Bool.not_false]
   have hle:=hlt i hc
   exact⟨fun h1=>⟨fun _=>⟨⟨trivial,aa,aa,aa,aa⟩,fun h2=>absurd h2 (Rat.not_lt.2 hle),fun h2=>⟨aa,aa,i+1,aa,by dsimp only;omega,IV rfl rfl e3.symm e4.symm fun j hj=>gM (fun _ _=>rfl) (by unfold dr;rw[if_pos hc]) aU h hj⟩⟩,fun h=>absurd h (by decide)⟩,fun h1=>aa⟩
  ·subst hc
   obtain⟨e1,e2⟩:=rV (Nat.le_refl i)
   obtain⟨e3,e4⟩:=y6 (p:=i) (i:=i+1) aa
   rw[e1,e2]
   simp only[Bool.not_false]
   have hval:∀j,j<i+1+1->eG [(0,0),(1,110594)] (if j<i+1 then if j<i then rat (dr k t i j) w else nth [rat t r] (rat 0 1) (j-i)else nth [rat (k i) s] (rat 0 1) (j-(i+1))) (.rat (dr k t i j) w):=fun j hj=>by
    by_cases h1:j<i+1
    ·rw[if_pos h1]
     exact gM (x:=dr k t i) (y:=dr k t i) (fun _ _=>rfl) (by unfold dr;rw[if_neg aa,if_pos rfl]) aU h2 h1
    ·have:j=i+1:=aa
     subst this
     rw[if_neg h1,Nat.sub_self]
     exact .inr ⟨rfl,bM (by unfold dr;rw[if_neg aa,if_neg aa];rfl) h⟩
   exact⟨fun h1=>⟨fun _=>⟨⟨trivial,aa,aa,aa,aa⟩,fun h2=>⟨aa,aa,aa,i+1,aa,by dsimp only;omega,IV rfl rfl e3.symm e4.symm hval⟩,fun h2=>absurd (hat aa) h2⟩,fun h=>absurd h (by decide)⟩,fun h1=>⟨rfl,i,aa,ex e2.symm e1.symm⟩⟩
  ·obtain⟨e1,e2⟩:=y6 hc
   obtain⟨e3,e4⟩:=y6 (p:=p) (i:=i+1) aa
   rw[e1,e2]
   simp only[Bool.not_true]
   exact⟨fun h1=>⟨fun h=>absurd h (by decide),fun _=>⟨trivial,fun h=>absurd h (by decide),fun _=>⟨aa,aa,i+1,aa,by dsimp only;omega,IV rfl rfl e3.symm e4.symm fun j hj=>gM (fun _ _=>rfl) (by unfold dr;rw[if_neg aa,if_neg aa];rfl) aU h hj⟩⟩⟩,fun h1=>⟨rfl,i,aa,ex e2.symm e1.symm⟩⟩
 ·subst hi
  simp only[ah.all,az,Nat.add_zero]
  by_cases hc:i=p
  ·subst hc
   rw[(rV (Nat.le_refl i)).1,(rV (Nat.le_refl i)).2]
   refine⟨fun _=>⟨aa,fq fun j hj=>?_⟩,fun h=>absurd h (by decide)⟩
   by_cases h1:j<i
   ·rw[if_pos h1];exact .refl _
   ·have:j=i:=aa
    subst this
    rw[if_neg h1,Nat.sub_self]
    exact bM (by unfold dr;rw[if_neg aa,if_pos rfl]) h2
  ·rw[(y6 (show p<i by omega)).1,(y6 (show p<i by omega)).2]
   exact⟨fun h=>absurd h (by decide),fun _=>.refl _⟩
def FX (s w:Nat):Spec:=cN (kC (kL s) (kC (gx s) kN)) (fun a=>bq (dr a.1.2 a.2.1 (dc a.1.2 a.2.1 a.1.1)) (a.1.1+1) w) fun a=>[a.1.1<2^40]
theorem acn {s w:Nat} (h:s+2<=w) (hw:w<2^40):∀K args pre r,FX s w K args pre=some r->aE P ve K args pre r:=cy fun⟨⟨n,k⟩,t,_⟩ K hn=>SU h h hw hn K
theorem aa4 {s w:Nat} (h:s+2<=w) (hw:w<2^40):∀K args pre r,FX s w K args pre=some r->aE P Dv K args pre r:=cy fun⟨⟨n,k⟩,t,_⟩ K hn=>aeQ aa aa hw hn K
theorem Vz:aT P An FR (aA FR):=aY Proofs.Tryz.func71 ag ag ag
abbrev oH (y m:Nat) (k:Nat->Rat):ak:=⟨true,true,3,m,fun i=>.rat (k i) y⟩
abbrev wY:Code:=aA FR
abbrev wV:List Nat:=[3,9,10,11]
abbrev Js (x n:Nat) (k:Nat->Rat) (i:Nat):List AV:=[.own 0 3 0 i,bq k n x,.int .i64 n,.int .i64 i]
def Bt:bg:=nG::gI
theorem aiy {x n:Nat} {k:Nat->Rat}:aH T Bt [] 60 wV (before wY [1,1,0,1]) ⟨aQ 0 [bq k n x],[],0⟩=
  let c1:Int:=(↑n:Int);some (aj [(0:Int)<=(0:Int)/\(0:Int)<=c1/\c1<=(2:Int)^47/\c1*(↑(56:Nat):Int)<=(2:Int)^47] (leaf normal ([own 12288 3 0 0,aq 3 n fun i=>rat (k i) x,int i64 c1,int i64 0],[(12288,ak.mk true true 3 0 fun x=>rat 0 1)]))):=ag
theorem aab {x y n i:Nat} {k:Nat->Rat}:aH T Bt [12] 60 wV [part wY [1,1,0,1,0,0]] ⟨aC wV (Js x n k i),[(0,oH y i k)],1⟩=
  let c4:Int:=(↑n:Int);let c2:AV:=aq 3 n fun i=>rat (k i) x;let c1:Int:=(↑i:Int);let c3:Int:=c1+(1:Int);some (fork (decide (c1<c4)) (aj [(0:Int)<=c1/\c1.toNat<n,(0:Nat)<1] (aj [(0:Nat)<1,x<2^42,(1:Nat)<2^42,(1:Nat)*3<=2^24,(i+1)*((56:Nat)+1)*2<=2^47] (aj [-(2:Int)^63<=c3/\c3<(2:Int)^63] (leaf normal ([own 40961 3 0 (i+1),c2,int i64 c4,int i64 c3],[(40961,ak.mk true true 3 (i+1) fun i_1=>if i_1<i then rat (k i_1) y else nth [rat (k c1.toNat+0) (x+1+1)] (rat 0 1) (i_1-i+0))]))))) (leaf (exit 0) ([own 0 3 0 i,c2,int i64 c4,int i64 c1],[(0,ak.mk true true 3 i fun i=>rat (k i) y)]))):=ag
theorem abR {x y n i:Nat} {k:Nat->Rat}:cw T Bt [] 60 FR [part wY [1,1,1]] ⟨aC wV (Js x n k i),[(0,oH y i k)],1⟩=
  some (leaf ret [aq 3 i fun i=>rat (k (i+0)) y]):=ag
theorem agP:bz P Bt:=cZ iG
theorem aki {x y n:Nat} {k:Nat->Rat} (hxy:x+10<=y) (hy:y<2^40) (hn:n<2^40) (K:Nat):aE P An K [bq k n x] [] (aK (bq k n y) []):=by
 refine fI (r:=aK (bq k n y) []) hT agP hm Vz rfl aX rfl [1,1,0,1] (i:=0) (y:=part wY [1,1,0,1,0,0]) (z:=part wY [1,1,1]) ag ag ag (f1:=[]) (f2:=[12]) (f3:=[]) 60 wV 1
  (fun i:Nat=>Js x n k i) (fun i=>[(0,oH y i k)]) (fun i=>i<=n) (fun i=>i=n) (fun i=>n-i) (fun _=>⟨⟨_,aiy,?_⟩,fun i hi=>⟨_,aab,?_⟩,fun i hi=>⟨_,abR,?_⟩⟩) K []
 ·simp only[ah.all,az]
  exact⟨aa,0,Nat.zero_le _,[(0,12288)],rfl,rfl,rfl,bL rfl rfl rfl (fun i hi=>absurd hi (Nat.not_lt_zero i)) trivial⟩
 ·simp only[ah.all,az,aZ,bk,aW,Nat.add_zero]
  exact⟨fun h2=>⟨aa,aa,aa,i+1,aa,by dsimp only;omega,[(0,40961)],rfl,rfl,rfl,bL rfl rfl rfl (fun j hj=>gM (fun _ _=>rfl) (Rat.add_zero _) aU aa hj) trivial⟩,fun h2=>⟨rfl,i,aa,[(0,0)],rfl,rfl,rfl,bL rfl rfl rfl (fun j hj=>cL rfl rfl) trivial⟩⟩
 ·subst hi
  simp only[ah.all,az]
  exact mC rfl fun j hj=>rfl
def Jo (x y:Nat):Spec:=cN (kC (kL x) kN) (fun a=>bq a.1.2 a.1.1 y) fun a=>[x+10<=y,y<2^40,a.1.1<2^40]
theorem SZ (x y:Nat):∀K args pre r,Jo x y K args pre=some r->aE P An K args pre r:=cy fun⟨⟨n,k⟩,_⟩ K hn=>aki hn.1 hn.2.1 hn.2.2 K
theorem ajX:aT P xd BA (aA BA):=aY Proofs.Tryz.func166 ag ag ag
theorem aaF:aT P Ja Db (aA Db):=aY Proofs.Tryz.func87 ag ag ag
theorem LR:aT P qM AO (aA AO):=aY Proofs.Tryz.func85 ag ag ag
def qC (c:Cu) (n:Nat) (k:Nat->Rat) (j:Nat):Pl:=oc c (fj c.n c.k (k (e9 k n j))) c.p.toNat (fun q=>k (q+(j+1)))
def kK (c:Cu) (n:Nat) (k:Nat->Rat):Cu:=⟨c.p,n,k,n-c.p.toNat-1,qC c n k⟩
def B5:bg:=nG::(s9,pF)::(wX,Lg)::(uY,r5)::(xg,HK)::gI
abbrev xH:List Nat:=[1,2,4,5,17,18]
abbrev Ie (n m:Nat) (k:Nat->Rat) (j:Nat):List AV:=[ls k n,.ptr 0 0 3 0 [],.ptr 1 0 3 0 [],.ptr 2 0 3 0 [],.int .i64 m,.int .i64 j]
abbrev IA (c:Cu) (n:Nat) (k:Nat->Rat) (h:Nat->Pl) (j:Nat):aF:=[(3,⟨true,true,12,j,fun i=>bu (h i) sB⟩),(2,⟨false,true,3,1,fun _=>.agg [.int .i64 c.p,ls k n,.own 3 12 0 j]⟩),(1,⟨false,true,3,1,fun _=>.agg [.int .i64 0,.nil,.nil]⟩),(0,p7 c sK)]
abbrev AB:Code:=aA BA
theorem pL {f:Nat->Pl} {m s s':Nat} (h:s<=s'):ki (fun i=>bu (f i) s) m s':=fun _ _=>AX rfl h
def GC:Spec:=cN (kC (rE sK sK) (kC (kL sK) kN)) (fun a=>dj (kK a.1 a.2.1.1 a.2.1.2) sK sB) fun a=>[Kn a.1.n a.1.p.toNat a.1.k,1<=a.1.p,a.1.p<=6,a.1.n<2^40,a.1.m<2^40,a.2.1.1<2^29,a.1.p+1<=a.2.1.1]
def As (c:Cu) (t:Rat):Cu:=kK c (c.n+1) (dr c.k t (dc c.k t c.n))
def Qj:bg:=nG::(ve,FX 2000 2002)::(xd,GC)::[]
abbrev ny:List Nat:=[2,3,13,14,15]
abbrev KU (c:Cu) (i:Nat):List AV:=[.ptr 0 0 3 0 [],.ptr 1 0 3 0 [],qf c.f c.m sB,.int .i64 c.m,.int .i64 i]
abbrev JP (c:Cu) (i:Nat):aF:=[(2,⟨true,true,12,i,fun j=>bE (eI (c.f j)) (sB+sB)⟩),(1,⟨false,true,3,1,fun _=>.agg [.int .i64 c.p,bq c.k c.n (sK+10),.own 2 12 0 i]⟩),(0,⟨false,true,3,1,fun _=>.agg [.int .i64 0,.nil,.nil]⟩)]
abbrev ow:Code:=aA AO
def Tw:Spec:=cN (kC (yF sB) kN) (fun a=>bE (eI a.1) (sB+sB)) fun _=>[]
def Gp:bg:=nG::(An,Jo sK (sK+10))::(qg,Tw)::[]
theorem ahz {c:Cu} {n:Nat} {k:Nat->Rat}:aH T B5 [] 60 xH (before AB [1,1,0,1]) ⟨aQ 0 [dj c sK sK,ls k n],[],0⟩=
  let c3:Nat:=(aV (dj c sK sK)).size;let c2:Prop:=0<1;let c1:AV:=agg [int i64 0,nil,nil];some (aj [c2,c2] (aj [c2,bP (fun i=>rat (k i) sK) n sK,n<2^40,-(2:Int)^40<c.p,c.p<(2:Int)^40] (leaf normal ([aq 3 n fun i=>rat (k i) 4096,ptr 0 0 c3 0 [],ptr 4096 0 3 0 [],ptr 24576 0 3 0 [],int i64 ((↑n:Int)-c.p-(1:Int)),int i64 0],[((24576:Nat),aJ fun j=>if(j==0)=true then aV (agg ((c1.kids.set 0 (aV (int i64 c.p))).set 1 (aV (ls k n))))else c1),((4096:Nat),aJ fun x=>c1),(0,ak.mk false true c3 1 fun x=>agg [int i64 c.p,aq 3 c.n fun i=>rat (c.k i) 4096,aq 12 c.m fun i=>agg [rat (c.f i).n.x 4096,rat (c.f i).n.y 4096,rat (c.f i).n.z 4096,rat (c.f i).d 4096]])])))):=ag
theorem T2 {c:Cu} {n m j:Nat} {k:Nat->Rat} {h:Nat->Pl}:aH T B5 [19] 60 xH [part AB [1,1,0,1,0,0]] ⟨aC xH (Ie n m k j),IA c n k h j,4⟩=
  let c20:Int:=(↑m:Int);let c18:Prop:=bP (fun i=>rat (c.k i) sK) c.n sK;let c17:AV:=ptr 2 0 3 0 [];let c16:AV:=ptr 1 0 3 0 [];let c15:AV:=ptr 0 0 3 0 [];let c14:Nat:=2^40;let c13:AV:=rat 0 1;let c12:Int:=(↑j:Int);let c10:AV:=own 3 12 0 j;let c9:AV:=aq 3 n fun i=>rat (k i) 4096;let c8:Prop:=0<1;let c6:Int:=(2:Int)^63;let c5:Cu:=Cu.mk c.p c.n (fun i=>aR (rat (c.k i) sK)) c.m fun i=>oC (bu (c.f i) sK);let c2:List (Nat×ak):=[((1:Nat),aJ fun x=>agg [int i64 0,nil,nil]),((0:Nat),aJ fun x=>agg [int i64 c.p,aq 3 c.n fun i=>rat (c.k i) 4096,aq 12 c.m fun i=>agg [rat (c.f i).n.x 4096,rat (c.f i).n.y 4096,rat (c.f i).n.z 4096,rat (c.f i).d 4096]])];let c19:AV:=agg [int i64 c.p,ls k n,c10];let c7:Int:=(↑(e9 (fun i=>aR (rat (k i) sK)) n c12.toNat):Int);let c4:Int:=c12+c.p+(1:Int);let c3:Int:=c12+(1:Int);let c11:Nat:=c4.toNat-c3.toNat;let c1:Int:=(↑(fj c.n (fun i=>aR (rat (c.k i) sK)) (k c7.toNat)):Int);some (fork (decide (c12<c20)) (aj [bP (fun i=>rat (k i) sK) n sK,(0:Int)<=c12,c12<=(↑n:Int),n<c14] (aj [c8,c8,(0:Int)<=c7/\c7.toNat<n,c18,sK<=sK,Kn c.n c.p.toNat fun i=>aR (rat (c.k i) sK),(0:Int)<=c.p,c.n<c14] (aj [c8,c8,-c6<=c3/\c3<c6,c8,-c6<=c12+c.p/\c12+c.p<c6,-c6<=c4/\c4<c6,(0:Int)<=c3/\c3<=c4/\c4<=c4/\c4<=(↑n:Int),c18,ki (fun i=>bu (c.f i) sK) c.m sK,bP (fun i=>rat (k (i+c3.toNat)) sK) c11 sK,(1:Int)<=c.p,c.p<=(6:Int),c.n<c14,c.m<c14,-(2:Int)^40<c1,c1<(2:Int)^40,(1:Nat)*12<=2^24,(j+1)*((224:Nat)+1)*2<=2^47,c8] (aj [-c6<=c3/\c3<c6] (leaf normal ([c9,c15,c16,c17,int i64 c20,int i64 c3],(147460,ak.mk true true 12 (j+1) fun i=>if i<j then bu (h i) sB else nth [agg [rat (gE c5 c1 c11 (fun i=>aR (rat (k (i+c3.toNat)) sK)) 0) sB,rat (gE c5 c1 c11 (fun i=>aR (rat (k (i+c3.toNat)) sK)) 1) sB,rat (gE c5 c1 c11 (fun i=>aR (rat (k (i+c3.toNat)) sK)) 2) sB,rat (gE c5 c1 c11 (fun i=>aR (rat (k (i+c3.toNat)) sK)) 3) sB]] (agg [c13,c13,c13,c13]) (i-j+0))::((2:Nat),aJ fun j_1=>if(j_1==0)=true then agg (c19.kids.set 2 (aV (own (nat_lit 147459+1) 12 0 (j+1))))else c19)::c2)))))) (leaf (exit 0) ([c9,c15,c16,c17,int i64 c20,int i64 c12],(3,ak.mk true true 12 j fun i=>agg [rat (h i).n.x 536870912,rat (h i).n.y 536870912,rat (h i).n.z 536870912,rat (h i).d 536870912])::((2:Nat),aJ fun x=>agg [int i64 c.p,c9,c10])::c2))):=ag
theorem af8 {c:Cu} {n m j:Nat} {k:Nat->Rat} {h:Nat->Pl}:cw T B5 [] 60 BA [part AB [1,1,1]] ⟨aC xH (Ie n m k j),IA c n k h j,4⟩=
  let c1:Prop:=0<1;some (aj [c1,c1] (aj [c1] (leaf ret [agg [int i64 c.p,aq 3 n fun i=>rat (k i) 4096,aq 12 j fun i=>agg [rat (h (i+0)).n.x 536870912,rat (h (i+0)).n.y 536870912,rat (h (i+0)).n.z 536870912,rat (h (i+0)).d 536870912]]]))):=ag
theorem aj0 {c:Cu} {t:Rat}:bW T Qj [] 60 Db (aA Db) ⟨aQ 0 [dj c 2000 4000,.rat t 2000],[],0⟩=
  some (aj [0<1,0<1,0<1,bP (fun i=>.rat (c.k i) 2000) c.n 2000,2000<=2000,c.n<2^40,bP (fun i=>.rat (c.k i) 2000) c.n sK,ki (fun i=>bu (c.f i) 4000) c.m sK,bP (fun i=>.rat (dr c.k t (dc c.k t c.n) i) 2002) (c.n+1) sK,Kn c.n c.p.toNat c.k,1<=c.p,c.p<=6,c.n<2^40,c.m<2^40,c.n+1<2^29,c.p+1<=(c.n+1:Nat),0<1]
   (aj [0<1] (leaf .ret [dj (As c t) sK sB]))):=ag
theorem Vw {c:Cu}:aH T Gp [] 60 ny (before ow [1,1,0,1]) ⟨aQ 0 [dj c sK sB],[],0⟩=
  let c3:Nat:=sK+10;let c2:Prop:=0<1;let c1:AV:=agg [int i64 0,nil,nil];some (aj [c2,c2,bP (fun i=>rat (c.k i) sK) c.n sK,c3<=c3,c3<2^40,c.n<2^40,c2] (aj [c2] (leaf normal ([ptr 4096 0 3 0 [],ptr 32768 0 3 0 [],aq 12 c.m fun i=>agg [rat (c.f i).n.x 536870912,rat (c.f i).n.y 536870912,rat (c.f i).n.z 536870912,rat (c.f i).d 536870912],int i64 (↑c.m:Int),int i64 0],[((32768:Nat),aJ fun j=>if(j==0)=true then aV (agg ((c1.kids.set 0 (aV (int i64 c.p))).set 1 (aV (bq (fun i=>aR (rat (c.k i) sK)) c.n c3))))else c1),((4096:Nat),aJ fun x=>c1)])))):=ag
theorem abP {c:Cu} {i:Nat}:aH T Gp [16] 60 ny [part ow [1,1,0,1,0,0]] ⟨aC ny (KU c i),JP c i,3⟩=
  let c11:Int:=(↑c.m:Int);let c10:AV:=own 2 12 0 i;let c9:AV:=ptr 1 0 3 0 [];let c8:AV:=ptr 0 0 3 0 [];let c7:Prop:=0<1;let c6:Int:=(↑i:Int);let c5:AV:=rat 0 1;let c4:Nat×ak:=((0:Nat),aJ fun x=>agg [int i64 0,nil,nil]);let c1:AV:=aq 12 c.m fun i=>agg [rat (c.f i).n.x 536870912,rat (c.f i).n.y 536870912,rat (c.f i).n.z 536870912,rat (c.f i).d 536870912];let c12:Int:=c6+(1:Int);let c3:AV:=agg [int i64 c.p,bq c.k c.n (sK+10),c10];let c2:Pl:=c.f c6.toNat;some (fork (decide (c6<c11)) (aj [(0:Int)<=c6/\c6.toNat<c.m,c7] (aj [c7,c7,sB<=sB,sB<=sB,sB<=sB,sB<=sB,(1:Nat)*12<=2^24,(i+1)*((224:Nat)+1)*2<=2^47,c7] (aj [-(2:Int)^63<=c12/\c12<(2:Int)^63] (leaf normal ([c8,c9,c1,int i64 c11,int i64 c12],[(40963,ak.mk true true 12 (i+1) fun i_1=>if i_1<i then bE (eI (c.f i_1)) (sB+sB)else nth [agg [agg [rat (c2.n.x/c2.d) (sB+sB),rat (c2.n.y/c2.d) (sB+sB),rat (c2.n.z/c2.d) (sB+sB)],rat c2.d (sB+sB)]] (agg [agg [c5,c5,c5],c5]) (i_1-i+0)),((1:Nat),aJ fun j=>if(j==0)=true then agg (c3.kids.set 2 (aV (own (nat_lit 40962+1) 12 0 (i+1))))else c3),c4]))))) (leaf (exit 0) ([c8,c9,c1,int i64 c11,int i64 c6],[(2,ak.mk true true 12 i fun j=>agg [agg [rat ((c.f j).n.x/(c.f j).d) 1073741824,rat ((c.f j).n.y/(c.f j).d) 1073741824,rat ((c.f j).n.z/(c.f j).d) 1073741824],rat (c.f j).d 1073741824]),((1:Nat),aJ fun x=>agg [int i64 c.p,aq 3 c.n fun i=>rat (c.k i) 4106,c10]),c4]))):=ag
theorem aez {c:Cu} {i:Nat}:cw T Gp [] 60 AO [part ow [1,1,1]] ⟨aC ny (KU c i),JP c i,3⟩=
  let c1:Prop:=0<1;some (aj [c1,c1] (aj [c1] (leaf ret [agg [int i64 c.p,aq 3 c.n fun i=>rat (c.k i) 4106,aq 12 i fun i=>agg [agg [rat ((c.f (i+0)).n.x/(c.f (i+0)).d) 1073741824,rat ((c.f (i+0)).n.y/(c.f (i+0)).d) 1073741824,rat ((c.f (i+0)).n.z/(c.f (i+0)).d) 1073741824],rat (c.f (i+0)).d 1073741824]]]))):=ag
theorem Oy {k:Nat->Rat} {n:Nat}:∀{f i:Nat},i<n->mP k n f i<n
 |0,_,h=>h
 |f+1,i,h=>by
  unfold mP
  split
  ·exact Oy aa
  ·exact h
theorem SR {k:Nat->Rat} {n i:Nat} (h:i<n):e9 k n i<n:=Oy h
theorem P3 {n p:Nat} {k:Nat->Rat} (h:Kn n p k) {t:Rat}:fj n k t<n:=by
 have hl:=h.len
 unfold fj
 split
 ·omega
 ·have:=h.Hf ‹_›
  omega
theorem Wf:bz P B5:=cZ (aL zA (aL Tt (aL Io (aL Ms iG))))
theorem aiV {c:Cu} {n:Nat} {k:Nat->Rat} (hk:Kn c.n c.p.toNat c.k) (hp1:1<=c.p) (hp6:c.p<=6) (hn:c.n<2^40) (hm2:c.m<2^40) (hn2:n<2^29) (hpn:c.p+1<=n) (K:Nat):aE P xd K [dj c sK sK,ls k n] [] (aK (dj (kK c n k) sK sB) []):=by
 obtain⟨q,hq⟩:∃q,q=c.p.toNat:=⟨_,rfl⟩
 have hqp:c.p=(q:Int):=aa
 refine fI (r:=aK (dj (kK c n k) sK sB) []) hT Wf hm ajX rfl aX rfl [1,1,0,1] (i:=0) (y:=part AB [1,1,0,1,0,0]) (z:=part AB [1,1,1]) ag ag ag (f1:=[]) (f2:=[19]) (f3:=[]) 60 xH 4
  (fun j:Nat=>Ie n (n-c.p.toNat-1) k j) (fun j=>IA c n k (qC c n k) j) (fun j=>j<=n-c.p.toNat-1) (fun j=>j=n-c.p.toNat-1) (fun j=>n-c.p.toNat-1-j) (fun _=>⟨⟨_,ahz,?_⟩,fun j hj=>⟨_,T2,?_⟩,fun j hj=>⟨_,af8,?_⟩⟩) K []
 ·have e1:(n:Int)-c.p-1=((n-c.p.toNat-1:Nat):Int):=aa
  simp only[ah.all,az,e1]
  exact⟨⟨aa,aa⟩,⟨aa,bY aU,aa,aa,aa⟩,0,Nat.zero_le _,[(0,0),(1,4096),(2,24576)],rfl,rfl,rfl,gU rfl aa aa (bD rfl rfl (fW ⟨⟨rfl,aN rfl⟩,⟨rfl,aN rfl⟩,⟨rfl,iZ aa⟩,trivial⟩) (aB (aB trivial)))⟩
 ·have e1:((j:Int)+1).toNat=j+1:=aa
  have e2:((j:Int)+c.p+1).toNat=j+q+1:=aa
  have e3:j+q+1-(j+1)=q:=aa
  simp only[ah.all,az,aZ,bk,aW,e1,e2,e3,Nat.add_zero]
  have h7:e9 (fun i=>aR (rat (k i) sK)) n j=e9 k n j:=rfl
  have h8:∀t,fj c.n (fun i=>aR (rat (c.k i) sK)) t=fj c.n c.k t:=fun _=>rfl
  simp only[h7,h8]
  refine⟨fun h=>?_,fun h=>⟨rfl,j,aa,[(0,0),(1,1),(2,2),(3,3)],rfl,rfl,rfl,bp (bD rfl rfl (pT rfl rfl rfl) (aB (aB trivial)))⟩⟩
  have h1:=SR (k:=k) (n:=n) (i:=j) aa
  have h2:=P3 hk (t:=k (e9 k n j))
  (repeat' with_reducible refine And.intro ?_ ?_)
  all_goals first|omega|exact bY aU|exact hk|exact fun _ _=>.refl _|skip
  refine⟨j+1,aa,by dsimp only;omega,[(0,0),(1,1),(2,2),(3,147460)],rfl,rfl,rfl,bL rfl rfl rfl (fun j' hj'=>qL (g:=fun j=>bu (qC c n k j) sB) (fun _ _=>⟨rfl,rfl⟩) rfl ?_ hj') (bD rfl rfl (pT rfl rfl rfl) (aB (aB trivial)))⟩
  exact AX (h:=oc c (fj c.n c.k (k (e9 k n j))) q (fun q=>k (q+(j+1)))) (by unfold qC;rw[hq]) aU
 ·subst hj
  simp only[ah.all,az]
  exact⟨⟨aa,aa⟩,aa,.refl _⟩
theorem MS:∀K args pre r,GC K args pre=some r->aE P xd K args pre r:=cy fun⟨c,⟨n,k⟩,_⟩ K hn=>aiV hn.1 hn.2.1 hn.2.2.1 hn.2.2.2.1 hn.2.2.2.2.1 hn.2.2.2.2.2.1 hn.2.2.2.2.2.2 K
theorem Zl:bz P Qj:=cZ (aL (acn (by decide) (by decide)) (aL MS bO))
def Lv:Spec:=cN (kC (rE 2000 4000) (kC (gx 2000) kN)) (fun a=>dj (As a.1 a.2.1) sK sB) fun a=>[Kn a.1.n a.1.p.toNat a.1.k,1<=a.1.p,a.1.p<=6,a.1.n<2^28,a.1.m<2^40]
theorem aft:∀K args pre r,Lv K args pre=some r->aE P Ja K args pre r:=cy fun⟨c,t,_⟩ K hn=>by
 obtain⟨h1,h2,h3,h4,h5⟩:Kn c.n c.p.toNat c.k/\1<=c.p/\c.p<=6/\c.n<2^28/\c.m<2^40:=hn
 have hl:=h1.len
 refine cj (r:=aK (dj (As c t) sK sB) []) hT Zl hm aaF rfl aX rfl 60 aj0 (fun _=>?_) K []
 simp only[ah.all,az]
 (repeat' with_reducible refine And.intro ?_ ?_)
 all_goals first|omega|exact bY (by decide)|exact h1|exact pL (by decide)|skip
 exact .refl _
theorem afQ:∀K args pre r,Tw K args pre=some r->aE P qg K args pre r:=cy fun⟨h,_⟩ K _=>GH (by decide) (by decide) (by decide) K
theorem abb:bz P Gp:=cZ (aL (SZ _ _) (aL afQ bO))
theorem aas {c:Cu} (hn:c.n<2^40) (hm2:c.m<2^29) (K:Nat):aE P qM K [dj c sK sB] [] (aK (aS ⟨c.p,c.n,c.k,c.m,fun i=>eI (c.f i)⟩ (sK+10) (sB+sB)) []):=by
 refine fI (r:=aK (aS ⟨c.p,c.n,c.k,c.m,fun i=>eI (c.f i)⟩ (sK+10) (sB+sB)) []) hT abb hm LR rfl aX rfl [1,1,0,1] (i:=0) (y:=part ow [1,1,0,1,0,0]) (z:=part ow [1,1,1]) ag ag ag (f1:=[]) (f2:=[16]) (f3:=[]) 60 ny 3
  (fun i:Nat=>KU c i) (fun i=>JP c i) (fun i=>i<=c.m) (fun i=>i=c.m) (fun i=>c.m-i) (fun _=>⟨⟨_,Vw,?_⟩,fun i hi=>⟨_,abP,?_⟩,fun i hi=>⟨_,aez,?_⟩⟩) K []
 ·simp only[ah.all,az]
  exact⟨⟨aa,aa,bY aU,aa,by decide,aa,aa⟩,aa,0,Nat.zero_le _,[(0,4096),(1,32768)],rfl,rfl,rfl,gU rfl aa aa (bD rfl rfl (fW ⟨⟨rfl,aN rfl⟩,⟨rfl,aN rfl⟩,⟨rfl,iZ aa⟩,trivial⟩) (aB trivial))⟩
 ·simp only[ah.all,az,aZ,bk,aW,Nat.add_zero]
  refine⟨fun h=>?_,fun h=>⟨rfl,i,aa,[(0,0),(1,1),(2,2)],rfl,rfl,rfl,bp (bD rfl rfl (pT rfl rfl rfl) (aB trivial))⟩⟩
  (repeat' with_reducible refine And.intro ?_ ?_)
  all_goals first|omega|exact Nat.le_refl _|skip
  exact⟨i+1,aa,by dsimp only;omega,[(0,0),(1,1),(2,40963)],rfl,rfl,rfl,bL rfl rfl rfl (fun j hj=>qL (g:=fun j=>bE (eI (c.f j)) (sB+sB)) (fun _ _=>⟨rfl,rfl⟩) rfl (.refl _) hj) (bD rfl rfl (pT rfl rfl rfl) (aB trivial))⟩
 ·subst hi
  simp only[ah.all,az]
  exact⟨⟨aa,aa⟩,aa,.refl _⟩
def Ka:Spec:=cN (kC (rE sK sB) kN) (fun a=>aS ⟨a.1.p,a.1.n,a.1.k,a.1.m,fun i=>eI (a.1.f i)⟩ (sK+10) (sB+sB)) fun a=>[a.1.n<2^40,a.1.m<2^29]
theorem Ru:∀K args pre r,Ka K args pre=some r->aE P qM K args pre r:=cy fun⟨c,_⟩ K hn=>aas hn.1 hn.2 K
theorem TV:aT P JV Gc (aA Gc):=aY Proofs.Tryz.func83 ag ag ag
theorem ZQ:aT P HM C6 (aA C6):=aY Proofs.Tryz.func29 ag ag ag
def Q8:bg:=nG::(wk,xK)::gI
def P0:Spec:=cN (kC (jb 2000 2000) (kC (gx 2000) kN)) (fun a=>.bool (decide (a.1.k 0<a.2.1)&&decide (a.2.1<a.1.k (a.1.n-1)))) fun a=>[fe a.1]
def CK:Spec:=cN (kC (jb 2000 2000) kN) (fun a=>dj ⟨a.1.p,a.1.n,a.1.k,a.1.m,fun i=>cE (a.1.f i)⟩ 2000 4000) fun a=>[a.1.n<2^40,a.1.m<2^30]
def MR:bg:=nG::(JV,P0)::(uV,rR)::(pV,CK)::(Ja,Lv)::(qM,Ka)::[]
def fR (c:Cu) (t:Rat):Int:=if¬(c.k 0<t/\t<c.k (c.n-1))then 7 else if c.p<=(bw c.k t c.n:Int)then 5 else if 40<=c.m then 2 else 0
def Iw (c:Cu) (t:Rat):Cu:=⟨c.p,c.n+1,dr c.k t (dc c.k t c.n),c.n+1-c.p.toNat-1,fun i=>eI ((As ⟨c.p,c.n,c.k,c.m,fun i=>cE (c.f i)⟩ t).f i)⟩
def kq:Cu:=⟨0,0,fun _=>0,0,fun _=>⟨⟨0,0,0⟩,0⟩⟩
def xl (c:Cu) (t:Rat):Cu:=if fR c t=0 then Iw c t else kq
theorem adV {c:Cu} {t:Rat}:bW T Q8 [16] 60 Gc (aA Gc) ⟨aQ 0 [aS c 2000 2000,.rat t 2000],[],0⟩=
  let c9:Prop:=fT (fun i=>bE (c.f i) 2000) c.m sJ;let c8:Prop:=bP (fun i=>rat (c.k i) 2000) c.n sJ;let c7:Prop:=(0:Int)<=(0:Int)/\Int.toNat (0:Int)<c.n;let c5:Prop:=fe (Cu.mk c.p c.n (fun i=>aR (rat (c.k i) 2000)) c.m fun i=>gG (bE (c.f i) 2000));let c4:Int:=(↑c.n:Int)-(1:Int);let c3:Prop:=0<1;let c2:Int:=dM (c.k (Int.toNat (0:Int))) t;let c1:Prop:=2000<2^42;let c6:Bool:=bif true then decide (c2<(0:Int))else false;some (fork c6 (aj [c3,c8,c9,c5,c3,c7,c3,c1,c1,c6=true,c3,c3,c3,-(2:Int)^63<=c4/\c4<(2:Int)^63,(0:Int)<=c4/\c4.toNat<c.n,c1,c1] (leaf ret [AV.bool (bif true then decide (dM t (c.k c4.toNat)<(0:Int))else false)])) (aj [c3,c8,c9,c5,c3,c7,c3,c1,c1,c6=false] (leaf ret [AV.bool false]))):=ag
theorem aiI {c:Cu} {t:Rat}:bW T MR [6,12,21] 60 C6 (aA C6) ⟨aQ 0 [aS c 2000 2000,.rat t 2000],[],0⟩=
  let no:Int->ah (List AV):=fun e=>aj [0<1] (aj [0<1] (leaf .ret [.agg [.int .i64 0,.nil,.nil],.int .i64 e]));let k:Prop:=bP (fun i=>.rat (c.k i) 2000) c.n 2000;let f:Prop:=fT (fun i=>bE (c.f i) 2000) c.m 2000
  some (aj [0<1,0<1,k,f,2000<=2000,fe c] (fork (!(decide (c.k 0<t)&&decide (t<c.k (c.n-1)))) (no 7) (aj [0<1,0<1,bP (fun i=>.rat (c.k i) 2000) c.n sK,2000<=sK,c.n<2^40,0<1] (fork (decide ((bw c.k t c.n:Int)>=c.p)) (no 5) (aj [0<1] (fork (decide ((c.m:Int)>=40)) (no 2)
   (aj [0<1,k,f,c.n<2^40,c.m<2^30,0<1,k,ki (fun i=>bu (cE (c.f i)) 4000) c.m 4000,2000<=2000,Kn c.n c.p.toNat c.k,1<=c.p,c.p<=6,c.n<2^28,c.m<2^40,bP (fun i=>.rat (dr c.k t (dc c.k t c.n) i) sK) (c.n+1) sK,ki (fun i=>bu ((As ⟨c.p,c.n,c.k,c.m,fun i=>cE (c.f i)⟩ t).f i) sB) (c.n+1-c.p.toNat-1) sB,c.n+1<2^40,c.n+1-c.p.toNat-1<2^29,0<1] (aj [0<1] (leaf .ret [aS (Iw c t) (sK+10) (sB+sB),.int .i64 0]))))))))):=ag
theorem ady:bz P Q8:=cZ (aL EY iG)
theorem QO {a b:Rat}:dM a b<(0:Int)↔a<b:=mI
theorem abB:∀K args pre r,P0 K args pre=some r->aE P JV K args pre r:=cy fun⟨c,t,_⟩ K hn=>by
 have hc:fe c:=hn
 obtain⟨h1,h2,h3,h4,h5⟩:=id hc
 have hl:=h1.len
 refine cj (r:=aK (.bool (decide (c.k 0<t)&&decide (t<c.k (c.n-1)))) []) hT ady hm TV rfl aX rfl 60 adV (fun _=>?_) K []
 have e1:((c.n:Int)-1).toNat=c.n-1:=aa
 simp only[ah.all,az,e1,Int.toNat_zero,cond_true,cond_false,aZ,bk,QO]
 refine⟨fun h=>?_,fun h=>?_⟩
 ·(repeat' with_reducible refine And.intro ?_ ?_)
  all_goals first|omega|exact bY (by decide)|exact iM (by decide)|exact hc|exact h|decide|skip
  exact fB (by rw[decide_eq_true h,Bool.true_and])
 ·(repeat' with_reducible refine And.intro ?_ ?_)
  all_goals first|omega|exact bY (by decide)|exact iM (by decide)|exact hc|exact h|decide|skip
  exact fB (by rw[decide_eq_false h,Bool.false_and])
theorem Jd:∀K args pre r,CK K args pre=some r->aE P pV K args pre r:=cy fun⟨c,_⟩ K hn=>Ou (by decide) (by decide) (by decide) hn.1 hn.2 K
theorem YZ:bz P MR:=cZ (aL abB (aL JK (aL Jd (aL aft (aL Ru bO)))))
theorem yh {x y:Nat}:bG (.agg [.int .i64 0,.nil,.nil]) (aS kq x y):=cC ⟨.refl _,kX (by decide),kX (by decide),trivial⟩
def RM:Spec:=cN (kC (jb 2000 2000) (kC (gx 2000) kN)) (fun a=>.tuple [aS (xl a.1 a.2.1) (sK+10) (sB+sB),.int .i64 (fR a.1 a.2.1)]) fun a=>[fe a.1]
theorem ai4:∀K args pre r,RM K args pre=some r->aE P HM K args pre r:=cy fun⟨c,t,_⟩ K hn=>by
 have hc:fe c:=hn
 obtain⟨h1,h2,h3,h4,h5⟩:=id hc
 have hl:=h1.len
 refine cj (r:=aK (.tuple [aS (xl c t) (sK+10) (sB+sB),.int .i64 (fR c t)]) []) hT YZ hm ZQ rfl aX rfl 60 aiI (fun _=>?_) K []
 have no:∀{e:Int},fR c t=e->e≠0->eF [.agg [.int .i64 0,.nil,.nil],.int .i64 e] (.tuple [aS (xl c t) (sK+10) (sB+sB),.int .i64 (fR c t)]):=fun {e} he h0=>by
  refine⟨?_,bQ he.symm,trivial⟩
  rw[show xl c t=kq from if_neg (by rw[he];exact h0)]
  exact yh
 simp only[ah.all,az,aZ,bk,Bool.not_eq_true',Bool.not_eq_false',Bool.and_eq_true,Bool.and_eq_false_iff]
 refine⟨⟨aa,aa,bY aU,iM aU,aU,hc⟩,fun ho=>⟨aa,aa,no ?_ (by decide)⟩,fun hi=>⟨?_,fun h6=>⟨aa,aa,no ?_ (by decide)⟩,fun h6=>⟨aa,fun h7=>⟨aa,aa,no ?_ (by decide)⟩,fun h7=>⟨?_,aa,?_⟩⟩⟩⟩
 ·unfold fR;rw[if_pos fun h=>ho.elim (fun g=>g h.1) fun g=>g h.2]
 ·exact⟨aa,aa,bY (by decide),by decide,aa,aa⟩
 ·unfold fR;rw[if_neg (fun g=>g hi),if_pos h6]
 ·unfold fR;rw[if_neg (fun g=>g hi),if_neg h6,if_pos aa]
 ·(repeat' with_reducible refine And.intro ?_ ?_)
  all_goals first|omega|exact bY (by decide)|exact iM aU|exact pL aU|exact h1|exact Nat.le_refl _|skip
 ·have he:fR c t=0:=by unfold fR;rw[if_neg (fun g=>g hi),if_neg h6,if_neg aa]
  refine⟨?_,bQ he.symm,trivial⟩
  rw[show xl c t=Iw c t from if_pos he]
  exact .refl _
theorem YC:aT P Bc DZ (aA DZ):=aY Proofs.Tryz.func183 ag ag ag
theorem Z6:aT P Dg Dn (aA Dn):=aY Proofs.Tryz.func102 ag ag ag
theorem Z8:aT P CU Bq (aA Bq):=aY Proofs.Tryz.func109 ag ag ag
theorem aho:aT P wu KK (aA KK):=aY Proofs.Tryz.func182 ag ag ag
theorem ajd:aT P jL D4 (aA D4):=aY Proofs.Tryz.func101 ag ag ag
theorem alK:aT P ia Bx (aA Bx):=aY Proofs.Tryz.func106 ag ag ag
theorem acp:aT P jy FK (aA FK):=aY Proofs.Tryz.func108 ag ag ag
theorem RT:aT P pJ ry (aA ry):=aY Proofs.Tryz.func170 ag ag ag
theorem TJ:aT P FW EF (aA EF):=aY Proofs.Tryz.func187 ag ag ag
theorem UB:aT P IY C7 (aA C7):=aY Proofs.Tryz.func100 ag ag ag
theorem aia:aT P K4 DY (aA DY):=aY Proofs.Tryz.func105 ag ag ag
theorem al9:aT P Be EZ (aA EZ):=aY Proofs.Tryz.func99 ag ag ag
theorem ag2:aT P Hq Dh (aA Dh):=aY Proofs.Tryz.func39 ag ag ag
def Rd:Spec:=bX fun l=>match l with
 |[.mag N]=>some (aK (.bool true) [nl N<2^40])
 |_=>none
def JJ:bg:=nG::(Bc,Rd)::(zW,bX (mo Jn))::(yb,bX (iz Hr))::(AA,Hy)::[]
def MA:Spec:=bX fun l=>match l with
 |[.rat q n]=>some (aK (.bool true) [n<2^44])
 |_=>none
def RF:Spec:=bX fun l=>match l with
 |[.rat q n]=>some (aK (.int .i64 (cS q:Nat)) [n<2^44])
 |_=>none
def Bu:Spec:=bX fun l=>match l with
 |[.rat q n]=>some (aK (.bool false) [n<=2048])
 |_=>none
def Cx:bg:=nG::(Dg,MA)::(CU,RF)::gI
def V7 (s:Nat):Kind Pl:=⟨fun v=>match Ba v with
 |some (a,q)=>some (a.1,q++[a.2<=s])
 |none=>none,fun a=>bE a s,fun {v a q} h hq=>by
  split at h
  ·rename_i b q' hb
   simp only[ay,Prod.mk.injEq]at h
   obtain⟨rfl,rfl⟩:=h
   obtain⟨q1,q2⟩:=eL.1 hq
   refine bG.trans (kPl.ok hb q1) ?_
   show bG (bE b.1 b.2) (bE b.1 s)
   exact cC ⟨cC ⟨fK q2,fK q2,fK q2,trivial⟩,fK q2,trivial⟩
  ·simp at h⟩
def NX:Spec:=cN (kC (V7 2048) kN) (fun _=>.bool false) fun a=>[0<a.1.d]
def FB:Kind FuncId:=⟨fun v=>match v with
 |.func f []=>some (f,[])
 |_=>none,fun g=>.func g [],fun {v a q} h _=>by
  split at h
  ·simp only[ay,Prod.mk.injEq]at h
   obtain⟨rfl,rfl⟩:=h
   exact .refl _
  ·simp at h⟩
def GX:bg:=nG::(jL,Bu)::(jy,Bu)::(ia,NX)::[]
abbrev kQ:List Nat:=[4,0,1,7,8]
abbrev AP (n i:Nat) (k:Nat->Rat) (g:FuncId):List AV:=[.int .i64 0,bq k n 2048,.func g [],.int .i64 n,.int .i64 i]
abbrev Ls (n i:Nat) (f:Nat->Pl) (g:FuncId):List AV:=[.int .i64 0,jS f n 2048,.func g [],.int .i64 n,.int .i64 i]
abbrev rG:Code:=aA ry
abbrev yV:Code:=aA EF
def Ty:Spec:=cN (kC (kL 2048) (kC FB kN)) (fun _=>.int .i64 (-1)) fun a=>[a.1.1<2^40,a.2.1=jL\/a.2.1=jy]
def Sy:Spec:=cN (kC (kL 2048) (kC FB kN)) (fun _=>.bool false) fun a=>[a.1.1<2^40,a.2.1=jL\/a.2.1=jy]
def GY:bg:=nG::(pJ,Ty)::[]
def Lh:Spec:=wj fun K l=>match l with
 |[v]=>match(kL 2048).read v with
  |some ((n,k),q)=>some ⟨.own K 3 0 n,[(K,⟨true,true,3,n,fun i=>.rat (k i) 2048⟩)],q++[1<=n,n<2^30]⟩
  |none=>none
 |_=>none
def kW (c:Cu) (j:Nat):Rat:=if j<c.n then c.k j else ff (c.f ((j-c.n)/4)) ((j-c.n)%4)
def BL:bg:=nG::(wu,Lh)::[]
abbrev AG:List Nat:=[2,3,10,11,12]
abbrev HG (c:Cu) (i:Nat):List AV:=[.nil,.own 0 3 0 (c.n+4*i),jS c.f c.m 2048,.int .i64 c.m,.int .i64 i]
abbrev Lp (c:Cu) (i:Nat):aF:=[(0,⟨true,true,3,c.n+4*i,fun j=>.rat (kW c j) 2048⟩)]
abbrev z6:Code:=aA EZ
def Oe:Spec:=cN (kC (jb 2048 2048) kN) (fun a=>bq (kW a.1) (a.1.n+4*a.1.m) 2048) fun a=>[1<=a.1.n,a.1.n<2^30,a.1.m<2^28]
theorem T3 {N:Nat}:bW T [nG] [6] 60 DZ (aA DZ) ⟨aQ 0 [.mag N],[],0⟩=
  let c2:Bool:=(↑(nl N):Int)==(0:Int);let c1:Int:=(↑(nl N):Int)-(1:Int);some (fork c2 (aj [c2=true] (leaf ret [AV.bool true])) (aj [c2=false,-(2:Int)^63<=c1/\c1<(2:Int)^63,(0:Int)<=c1/\c1.toNat<nl N] (leaf ret [AV.bool (bif false then true else(↑(aG N c1.toNat):Int)!=(0:Int))]))):=ag
theorem alW {q:Rat} {n:Nat}:bW T JJ [18,25,29,33,43] 60 Dn (aA Dn) ⟨aQ 0 [.rat q n],[],0⟩=
  let c9:ah (List AV):=leaf ret [AV.bool false];let c7:Bool:=!decide (q<0);let c6:Nat:=q.num.natAbs;let c4:Nat:=2^40;let c3:Prop:=0<1;let c2:Nat:=if q.den=1 then 0 else q.den;let c5:Int:=(↑(nl c2):Int);let c10:Bool:=c5==(1:Int);let c8:Bool:=c5==(0:Int);let c1:ah (List AV):=aj [c3] (fork ((↑(nl c6):Int)==(0:Int)) (fork c7 (aj [c3,c7=true,c3] (leaf ret [AV.bool (bif true then c8 else false)])) (aj [c3,c7=false] c9)) (fork c8 (aj [c3,c8=true] (leaf ret [AV.bool true])) (aj [c3,c8=false,c3,c3,nl c6<c4,nl c2<c4,nl (c6.gcd c2)<c4] (leaf ret [AV.bool (bif false then true else(↑(bN (c6.gcd c2)):Int)==(1:Int))]))));some (fork c10 (aj [c3,nl c6<c4,c3,nl c2<c4,c3,c10=true,c3,(0:Int)<=(0:Int)/\Int.toNat (0:Int)<nl c2] (fork (bif bif !true then true else !true then true else bif true then(↑(aG c2 (Int.toNat (0:Int))):Int)==(1:Int)else false) c9 c1)) (aj [c3,nl c6<c4,c3,nl c2<c4,c3,c10=false] (fork false c9 c1))):=ag
theorem ahO {q:Rat} {n:Nat}:bW T JJ [] 60 Bq (aA Bq) ⟨aQ 0 [.rat q n],[],0⟩=
  let c2:Int:=(↑(bN q.den):Int);let c1:Int:=(↑(bN q.num.natAbs):Int);some (aj [(0:Nat)<1,nl q.num.natAbs<2^40,(0:Nat)<1,nl q.den<2^40] (leaf ret [int i64 (if c1<c2 then c2 else c1)])):=ag
theorem akj {q:Rat} {n:Nat}:bW T Cx [] 60 D4 (aA D4) ⟨aQ 0 [.rat q n],[],0⟩=
  some (aj [(0:Nat)<1,n<2^44] (leaf ret [AV.bool false])):=ag
theorem aiW {q:Rat} {n:Nat}:bW T Cx [] 60 FK (aA FK) ⟨aQ 0 [.rat q n],[],0⟩=
  some (aj [(0:Nat)<1,n<2^44] (leaf ret [AV.bool (decide ((↑(cS q):Int)>(2048:Int)))])):=ag
theorem afX {p:Pl}:bW T Cx [] 60 Bx (aA Bx) ⟨aQ 0 [bE p 2048],[],0⟩=
  some (aj [(0:Nat)<1,(2048:Nat)<2^42] (leaf ret [AV.bool (decide (eW p.d<=(0:Int)))])):=ag
theorem acC {n s:Nat} {k:Nat->Rat}:aH T [nG] [] 60 [2] [aA KK] ⟨aQ 0 [.dL false 3 n (fun i=>.rat (k i) s)],[],0⟩=
  some (aj [(0:Nat)*3<=2^24,((0:Nat)+n)*((56:Nat)+1)*2<=2^47] (leaf ret ([own 20480 3 0 ((0:Nat)+n)],[(20480,ak.mk true true 3 ((0:Nat)+n) fun i=>rat (k (i-0)) s)]))):=ag
theorem Tn {n:Nat} {k:Nat->Rat} {g:FuncId}:aH T GX [] 60 kQ (before rG [1,0,1]) ⟨aQ 0 [bq k n 2048,.func g []],[],0⟩=
  some (leaf normal ([int i64 0,aq 3 n fun i=>rat (k i) 2048,func g [],int i64 (↑n:Int),int i64 0],[])):=ag
theorem XB {n i:Nat} {k:Nat->Rat}:aH T GX [9] 60 kQ [part rG [1,0,1,0,0]] ⟨aC kQ (AP n i k jL),[],0⟩=
  let c4:Int:=(↑n:Int);let c2:AV:=aq 3 n fun i=>rat (k i) 2048;let c1:Int:=(↑i:Int);let c3:Int:=c1+(1:Int);some (fork (decide (c1<c4)) (aj [(0:Int)<=c1/\c1.toNat<n,(2048:Nat)<=2048] (aj [-(2:Int)^63<=c3/\c3<(2:Int)^63] (leaf normal ([int i64 0,c2,func jL [],int i64 c4,int i64 c3],[])))) (leaf (exit 0) ([int i64 0,c2,func jL [],int i64 c4,int i64 c1],[]))):=ag
theorem af9 {n i:Nat} {k:Nat->Rat}:aH T GX [9] 60 kQ [part rG [1,0,1,0,0]] ⟨aC kQ (AP n i k jy),[],0⟩=
  let c4:Int:=(↑n:Int);let c2:AV:=aq 3 n fun i=>rat (k i) 2048;let c1:Int:=(↑i:Int);let c3:Int:=c1+(1:Int);some (fork (decide (c1<c4)) (aj [(0:Int)<=c1/\c1.toNat<n,(2048:Nat)<=2048] (aj [-(2:Int)^63<=c3/\c3<(2:Int)^63] (leaf normal ([int i64 0,c2,func jy [],int i64 c4,int i64 c3],[])))) (leaf (exit 0) ([int i64 0,c2,func jy [],int i64 c4,int i64 c1],[]))):=ag
theorem Nz {n i:Nat} {k:Nat->Rat} {g:FuncId}:cw T GX [] 60 ry [part rG [1,1]] ⟨aC kQ (AP n i k g),[],0⟩=
  some (leaf ret [int i64 (-1:Int)]):=ag
theorem aih {n:Nat} {f:Nat->Pl}:aH T GX [] 60 kQ (before yV [1,0,1]) ⟨aQ 0 [jS f n 2048,.func ia []],[],0⟩=
  some (leaf normal ([int i64 0,aq 12 n fun i=>agg [agg [rat (f i).n.x 2048,rat (f i).n.y 2048,rat (f i).n.z 2048],rat (f i).d 2048],func ia [],int i64 (↑n:Int),int i64 0],[])):=ag
theorem aaW {n i:Nat} {f:Nat->Pl}:aH T GX [9] 60 kQ [part yV [1,0,1,0,0]] ⟨aC kQ (Ls n i f ia),[],0⟩=
  let c5:Int:=(↑n:Int);let c3:Prop:=2048<=2048;let c2:Int:=(↑i:Int);let c1:AV:=aq 12 n fun i=>agg [agg [rat (f i).n.x 2048,rat (f i).n.y 2048,rat (f i).n.z 2048],rat (f i).d 2048];let c4:Int:=c2+(1:Int);some (fork (decide (c2<c5)) (aj [(0:Int)<=c2/\c2.toNat<n,c3,c3,Max.max 2048 2048<=2048,(0:Rat)<(f c2.toNat).d] (aj [-(2:Int)^63<=c4/\c4<(2:Int)^63] (leaf normal ([int i64 0,c1,func ia [],int i64 c5,int i64 c4],[])))) (leaf (exit 0) ([int i64 0,c1,func ia [],int i64 c5,int i64 c2],[]))):=ag
theorem aja {n i:Nat} {f:Nat->Pl}:cw T GX [] 60 EF [part yV [1,1]] ⟨aC kQ (Ls n i f ia),[],0⟩=
  some (leaf ret [int i64 (-1:Int)]):=ag
theorem adz {n:Nat} {k:Nat->Rat} {g:FuncId}:bW T GY [] 60 C7 (aA C7) ⟨aQ 0 [bq k n 2048,.func g []],[],0⟩=
  some (aj [bP (fun i=>rat (k i) 2048) n 2048,n<2^40,g=jL\/g=jy] (leaf ret [AV.bool false])):=ag
theorem aeZ {c:Cu}:aH T BL [] 60 AG (before z6 [1,1,0,1]) ⟨aQ 0 [aS c 2048 2048],[],0⟩=
  some (aj [(0:Nat)<1,bP (fun i=>rat (c.k i) 2048) c.n 2048,(1:Nat)<=c.n,c.n<2^30] (aj [(0:Nat)<1] (leaf normal ([nil,own 16384 3 0 c.n,aq 12 c.m fun i=>agg [agg [rat (c.f i).n.x 2048,rat (c.f i).n.y 2048,rat (c.f i).n.z 2048],rat (c.f i).d 2048],int i64 (↑c.m:Int),int i64 0],[(16384,ak.mk true true 3 c.n fun i=>rat (aR (rat (c.k i) 2048)) 2048)])))):=ag
theorem X8 {c:Cu} {i:Nat}:aH T BL [13] 60 AG [part z6 [1,1,0,1,0,0]] ⟨aC AG (HG c i),Lp c i,1⟩=
  let c7:Int:=(↑c.m:Int);let c5:Int:=(↑(3:Nat):Int);let c4:Prop:=0<1;let c3:Int:=(↑i:Int);let c2:Nat:=c.n+4*i;let c1:AV:=aq 12 c.m fun i=>agg [agg [rat (c.f i).n.x 2048,rat (c.f i).n.y 2048,rat (c.f i).n.z 2048],rat (c.f i).d 2048];let c9:Nat:=c2+4;let c8:Int:=c3+(1:Int);let c6:Pl:=c.f c3.toNat;some (fork (decide (c3<c7)) (aj [(0:Int)<=c3/\c3.toNat<c.m,c4] (aj [(0:Int)<=(0:Int)/\(0:Int)<c5,c4,(0:Int)<=(1:Int)/\(1:Int)<c5,c4,(0:Int)<=(2:Int)/\(2:Int)<c5,c4,c4,(4:Nat)*3<=2^24,c9*((56:Nat)+1)*2<=2^47] (aj [-(2:Int)^63<=c8/\c8<(2:Int)^63] (leaf normal ([nil,own 73729 3 0 c9,c1,int i64 c7,int i64 c8],[(73729,ak.mk true true 3 c9 fun i=>if i<c2 then rat (kW c i) 2048 else nth [rat c6.n.x 2048,rat c6.n.y 2048,rat c6.n.z 2048,rat c6.d 2048] (rat 0 1) (i-c2+0))]))))) (leaf (exit 0) ([nil,own 0 3 0 c2,c1,int i64 c7,int i64 c3],[(0,ak.mk true true 3 c2 fun j=>rat (kW c j) 2048)]))):=ag
theorem agL {c:Cu} {i:Nat}:cw T BL [] 60 EZ [part z6 [1,1,1]] ⟨aC AG (HG c i),Lp c i,1⟩=
  some (leaf ret [aq 3 (c.n+4*i) fun i=>rat (kW c (i+0)) 2048]):=ag
theorem Zo {N:Nat} (hn:nl N<2^40) (K:Nat):aE P Bc K [.mag N] [] (aK (.bool true) []):=by
 refine cj hT (cZ bO) hm YC rfl aX rfl 60 T3 (fun _=>?_) K []
 simp only[ah.all,az]
 refine⟨fun h=>⟨h,.refl _⟩,fun h=>?_⟩
 have h0:nl N≠0:=fun he=>by rw[he]at h;exact absurd h (by decide)
 have h1:N≠0:=fun he=>h0 (jG.2 he)
 have e1:((nl N:Int)-1).toNat=nl N-1:=aa
 have h2:=CO h1
 rw[e1]
 refine⟨⟨h,aa,aa⟩,fB ?_⟩
 rw[cond_false]
 exact bne_iff_ne.2 aa
theorem aji:∀K args pre r,Rd K args pre=some r->aE P Bc K args pre r:=by
 refine cK fun K args r hk hs _=>?_
 split at hs
 ·simp only[ay]at hs
  subst hs
  exact fun need=>Zo need K trivial
 ·simp at hs
theorem Nh:bz P JJ:=cZ (aL aji (aL Nn (aL RO (aL Mt bO))))
theorem alY {N:Nat} (h:nl N=1) (h1:aG N 0=1):N=1:=by
 have h2:N<2^(32*1):=dz.1 aa
 unfold aG at h1
 omega
theorem aik {q:Rat} {n:Nat} (hn:n<2^44) (K:Nat):aE P Dg K [.rat q n] [] (aK (.bool true) []):=by
 refine jn fun⟨hs1,_⟩=>?_
 obtain⟨a1,a2,a3⟩:=Sz.jz hs1 hn
 refine cj hT Nh hm Z6 rfl aX rfl 60 alW (fun _=>?_) K []
 obtain⟨D,hD⟩:∃D,D=if q.den=1 then 0 else q.den:=⟨_,rfl⟩
 have hD1:D≠1:=by rw[hD];split<;>omega
 have hg:D≠0->q.num.natAbs.gcd D=1:=fun h=>by
  have:D=q.den:=by rw[hD]at h ⊢;split<;>simp_all
  rw[this];exact q.reduced
 have hz:q.num.natAbs=0->¬q<0/\D=0:=fun h=>by
  have h0:=nu.1 h
  subst h0
  exact⟨by decide,by rw[hD];rfl⟩
 rw[<-hD]at a3 ⊢
 have nneg:((nl q.num.natAbs:Int)==0)=true->(!decide (q<0))=true/\((nl D:Int)==0)=true:=fun h=>by
  obtain⟨z1,z2⟩:=hz (jG.1 (by have:=beq_iff_eq.1 h;omega))
  rw[decide_eq_false z1,z2];exact⟨rfl,rfl⟩
 have last:((nl D:Int)==0)=false->D≠0:=fun h he=>by rw[he]at h;exact absurd h (by decide)
 simp only[ah.all,az,cond_true,cond_false,Bool.not_true]
 refine⟨fun h=>⟨⟨aa,a1,aa,a3,aa,h,aa,aa,?_⟩,fun h2=>?_,fun h2=>⟨aa,fun h3=>⟨fun h4=>⟨⟨aa,h4,aa⟩,fB (nneg h3).2⟩,fun h4=>absurd (h4.symm.trans (nneg h3).1) (by decide)⟩,fun h3=>⟨fun h4=>⟨⟨aa,h4⟩,.refl _⟩,fun h4=>?_⟩⟩⟩,
  fun h=>⟨⟨aa,a1,aa,a3,aa,h⟩,fun h=>absurd h (by decide),fun _=>⟨aa,fun h3=>⟨fun h4=>⟨⟨aa,h4,aa⟩,fB (nneg h3).2⟩,fun h4=>absurd (h4.symm.trans (nneg h3).1) (by decide)⟩,fun h3=>⟨fun h4=>⟨⟨aa,h4⟩,.refl _⟩,fun h4=>?_⟩⟩⟩⟩
 ·have:=beq_iff_eq.1 h
  rw[Int.toNat_zero];omega
 ·have e1:=beq_iff_eq.1 h
  have e2:=beq_iff_eq.1 h2
  exact absurd (alY aa (by rw[Int.toNat_zero]at e2;omega)) hD1
 ·rw[hg (last h4)]
  exact⟨⟨aa,h4,aa,aa,a1,a3,by decide⟩,fB (by decide)⟩
 ·rw[hg (last h4)]
  exact⟨⟨aa,h4,aa,aa,a1,a3,by decide⟩,fB (by decide)⟩
theorem Yl:∀K args pre r,MA K args pre=some r->aE P Dg K args pre r:=by
 refine cK fun K args r hk hs _=>?_
 split at hs
 ·simp only[ay]at hs
  subst hs
  exact fun need=>aik need K trivial
 ·simp at hs
theorem afd {q:Rat} {n:Nat} (hn:n<2^44) (K:Nat):aE P CU K [.rat q n] [] (aK (.int .i64 (cS q:Nat)) []):=by
 refine jn fun⟨hs1,_⟩=>?_
 obtain⟨a1,a2,a3⟩:=Sz.jz hs1 hn
 refine cj hT Nh hm Z8 rfl aX rfl 60 ahO (fun _=>?_) K []
 simp only[ah.all,az]
 refine⟨⟨aa,a1,aa,a2⟩,bQ ?_⟩
 unfold cS
 split<;>omega
theorem Xk:∀K args pre r,RF K args pre=some r->aE P CU K args pre r:=by
 refine cK fun K args r hk hs _=>?_
 split at hs
 ·simp only[ay]at hs
  subst hs
  exact fun need=>afd need K trivial
 ·simp at hs
theorem Kq:bz P Cx:=cZ (aL Yl (aL Xk iG))
theorem Xr:∀K args pre r,Bu K args pre=some r->aE P jL K args pre r:=by
 refine cK fun K args r hk hs _=>?_
 split at hs
 ·rename_i q n
  simp only[ay]at hs
  subst hs
  intro need
  have hn:n<=2048:=need
  refine cj (r:=aK (.bool false) [n<=2048]) hT Kq hm ajd rfl aX rfl 60 akj (fun _=>?_) K [] need
  simp only[ah.all,az]
  (repeat' with_reducible refine And.intro ?_ ?_)
  all_goals first|omega|exact .refl _|skip
 ·simp at hs
theorem ab5:∀K args pre r,Bu K args pre=some r->aE P jy K args pre r:=by
 refine cK fun K args r hk hs _=>?_
 split at hs
 ·rename_i q n
  simp only[ay]at hs
  subst hs
  intro need
  have hn:n<=2048:=need
  refine(jn (P:=P) (f:=jy) (K:=K) (args:=[.rat q n]) (pre:=[]) (v:=.bool false) (l:=[n<=2048]) fun⟨hs1,_⟩=>?_) need
  have h1:=acX.1 hs1
  refine cj (r:=aK (.bool false) [n<=2048]) hT Kq hm acp rfl aX rfl 60 aiW (fun _=>?_) K []
  simp only[ah.all,az]
  (repeat' with_reducible refine And.intro ?_ ?_)
  all_goals first|omega|skip
  exact fB (decide_eq_false aa)
 ·simp at hs
theorem V6:∀K args pre r,NX K args pre=some r->aE P ia K args pre r:=cy fun⟨p,_⟩ K hn=>by
 have hd:0<p.d:=hn
 refine cj (r:=aK (.bool false) []) hT Kq hm alK rfl aX rfl 60 afX (fun _=>?_) K []
 have hs:eW p.d=1:=by
  unfold eW
  rw[if_neg (by grind),if_pos hd]
 simp only[ah.all,az,hs]
 (repeat' with_reducible refine And.intro ?_ ?_)
 all_goals first|omega|decide|exact .refl _|skip
theorem Ht:bz P GX:=cZ (aL Xr (aL ab5 (aL V6 bO)))
theorem ajE {n:Nat} {k:Nat->Rat} {g:FuncId} (hn:n<2^40) (hg:g=jL\/g=jy) (K:Nat):aE P pJ K [bq k n 2048,.func g []] [] (aK (.int .i64 (-1)) []):=by
 rcases hg with rfl|rfl
 ·refine fI (r:=aK (.int .i64 (-1)) []) hT Ht hm RT rfl aX rfl [1,0,1] (i:=0) (y:=part rG [1,0,1,0,0]) (z:=part rG [1,1]) ag ag ag (f1:=[]) (f2:=[9]) (f3:=[]) 60 kQ 0
   (fun i:Nat=>AP n i k jL) (fun _=>[]) (fun i=>i<=n) (fun i=>i=n) (fun i=>n-i) (fun _=>⟨⟨_,Tn,?_⟩,fun i hi=>⟨_,XB,?_⟩,fun i hi=>⟨_,Nz,?_⟩⟩) K []
  ·simp only[ah.all,az]
   exact⟨0,Nat.zero_le _,[],rfl,rfl,rfl,trivial⟩
  ·simp only[ah.all,az,aZ,bk,aW]
   exact⟨fun h=>⟨⟨aa,aa⟩,aa,i+1,aa,by dsimp only;omega,[],rfl,rfl,rfl,trivial⟩,fun h=>⟨rfl,i,aa,[],rfl,rfl,rfl,trivial⟩⟩
  ·simp only[ah.all,az]
   exact .refl _
 ·refine fI (r:=aK (.int .i64 (-1)) []) hT Ht hm RT rfl aX rfl [1,0,1] (i:=0) (y:=part rG [1,0,1,0,0]) (z:=part rG [1,1]) ag ag ag (f1:=[]) (f2:=[9]) (f3:=[]) 60 kQ 0
   (fun i:Nat=>AP n i k jy) (fun _=>[]) (fun i=>i<=n) (fun i=>i=n) (fun i=>n-i) (fun _=>⟨⟨_,Tn,?_⟩,fun i hi=>⟨_,af9,?_⟩,fun i hi=>⟨_,Nz,?_⟩⟩) K []
  ·simp only[ah.all,az]
   exact⟨0,Nat.zero_le _,[],rfl,rfl,rfl,trivial⟩
  ·simp only[ah.all,az,aZ,bk,aW]
   exact⟨fun h=>⟨⟨aa,aa⟩,aa,i+1,aa,by dsimp only;omega,[],rfl,rfl,rfl,trivial⟩,fun h=>⟨rfl,i,aa,[],rfl,rfl,rfl,trivial⟩⟩
  ·simp only[ah.all,az]
   exact .refl _
theorem alA:∀K args pre r,Ty K args pre=some r->aE P pJ K args pre r:=cy fun⟨⟨n,k⟩,g,_⟩ K hn=>ajE hn.1 hn.2 K
theorem agf:bz P GY:=cZ (aL alA bO)
theorem X7:∀K args pre r,Sy K args pre=some r->aE P IY K args pre r:=cy fun⟨⟨n,k⟩,g,_⟩ K hn=>by
 refine cj (r:=aK (.bool false) []) hT agf hm UB rfl aX rfl 60 adz (fun _=>?_) K []
 simp only[ah.all,az]
 exact⟨⟨bY aU,hn.1,hn.2⟩,.refl _⟩
def P7:Spec:=cN (kC (uA 2048) (kC FB kN)) (fun _=>.int .i64 (-1)) fun a=>[a.1.1<2^40,∀i,i<a.1.1->0<(a.1.2 i).d,a.2.1=ia]
def SI:Spec:=cN (kC (uA 2048) (kC FB kN)) (fun _=>.bool false) fun a=>[a.1.1<2^40,∀i,i<a.1.1->0<(a.1.2 i).d,a.2.1=ia]
def Sg:bg:=nG::(FW,P7)::[]
def Pp:bg:=nG::(Be,Oe)::(IY,Sy)::(K4,SI)::(yS,Ji)::(s9,pF)::[]
theorem ab3 {n:Nat} {f:Nat->Pl} (hn:n<2^40) (hf:∀i,i<n->0<(f i).d) (K:Nat):aE P FW K [jS f n 2048,.func ia []] [] (aK (.int .i64 (-1)) []):=by
 refine fI (r:=aK (.int .i64 (-1)) []) hT Ht hm TJ rfl aX rfl [1,0,1] (i:=0) (y:=part yV [1,0,1,0,0]) (z:=part yV [1,1]) ag ag ag (f1:=[]) (f2:=[9]) (f3:=[]) 60 kQ 0
  (fun i:Nat=>Ls n i f ia) (fun _=>[]) (fun i=>i<=n) (fun i=>i=n) (fun i=>n-i) (fun _=>⟨⟨_,aih,?_⟩,fun i hi=>⟨_,aaW,?_⟩,fun i hi=>⟨_,aja,?_⟩⟩) K []
 ·simp only[ah.all,az]
  exact⟨0,Nat.zero_le _,[],rfl,rfl,rfl,trivial⟩
 ·simp only[ah.all,az,aZ,bk,aW]
  exact⟨fun h=>⟨⟨aa,aa,aa,by decide,hf i aa⟩,aa,i+1,aa,by dsimp only;omega,[],rfl,rfl,rfl,trivial⟩,fun h=>⟨rfl,i,aa,[],rfl,rfl,rfl,trivial⟩⟩
 ·simp only[ah.all,az]
  exact .refl _
theorem af2:∀K args pre r,P7 K args pre=some r->aE P FW K args pre r:=cy fun⟨⟨n,f⟩,g,_⟩ K hn=>by
 have hg:g=ia:=hn.2.2
 subst hg
 exact ab3 hn.1 hn.2.1 K
theorem ajK {args:List AV} {n:Nat} {k:Nat->Rat} {l:List Prop} (ha:az l->fM (bh []) args [.dL false 3 n (fun i=>.rat (k i) 2048)]) (hn:az l->1<=n/\n<2^30) (K:Nat):aE P wu K args [] ⟨ji [.own K 3 0 n],[(K,⟨true,true,3,n,fun i=>.rat (k i) 2048⟩)],l⟩:=by
 refine Ti hT aho ha aX fun need c hk=>?_
 obtain⟨h1,h2⟩:=hn need
 refine ax.bA hT (cZ bO) hm 60 [2] acC ag ?_
 simp only[ah.all,az]
 exact⟨⟨aa,aa⟩,fun s' hs'=>⟨.inr trivial,[2],_,[.own 20480 3 0 (0+n)],_,20480,_,hs',ag,⟨⟨rfl,cD (by simp[bh,look]) rfl aa⟩,trivial⟩,rfl,jq aa fun i hi=>aN rfl⟩⟩
theorem afv {n:Nat} {k:Nat->Rat} {l:List Prop} (hn:az l->1<=n/\n<2^30) (K:Nat):aE P wu K [bq k n 2048] [] ⟨ji [.own K 3 0 n],[(K,⟨true,true,3,n,fun i=>.rat (k i) 2048⟩)],l⟩:=by
 refine OH fun b hb=>?_
 intro need
 have h1:=hn need
 cases b
 ·exact ajK (args:=[.dL false 3 n (fun i=>.rat (k i) 2048)]) (fun _=>⟨⟨rfl,aN rfl⟩,trivial⟩) hn K need
 ·have:=hb rfl
  omega
theorem Ni:∀K args pre r,Lh K args pre=some r->aE P wu K args pre r:=by
 refine FI fun K args r hk hs=>?_
 split at hs
 ·rename_i v
  split at hs
  ·rename_i n k q hv
   simp only[ay]at hs
   subst hs
   intro need
   obtain⟨hn1,hn2⟩:=eL.1 need
   exact gD (afv (l:=q++[1<=n,n<2^30]) (fun h=>⟨(eL.1 h).2.1,(eL.1 h).2.2⟩) K) hk ⟨(kL 2048).ok hv hn1,trivial⟩ [] need
  ·simp at hs
 ·simp at hs
theorem ahP:bz P BL:=cZ (aL Ni bO)
theorem W5 {c:Cu} {i j:Nat} {rl:List (Nat×Nat)} (hj:j<c.n+4*i+4):eG rl (if j<c.n+4*i then .rat (kW c j) 2048 else nth [.rat (c.f i).n.x 2048,.rat (c.f i).n.y 2048,.rat (c.f i).n.z 2048,.rat (c.f i).d 2048] (.rat 0 1) (j-(c.n+4*i)+0)) (.rat (kW c j) 2048):=by
 by_cases h:j<c.n+4*i
 ·rw[if_pos h];exact cL rfl rfl
 ·rw[if_neg h]
  have key:∀a,a<4->j=c.n+4*i+a->kW c j=ff (c.f i) a:=fun a ha hj=>by
   unfold kW
   rw[if_neg aa,show(j-c.n)/4=i by omega,show(j-c.n)%4=a by omega]
  rcases(show j=c.n+4*i+0\/j=c.n+4*i+1\/j=c.n+4*i+2\/j=c.n+4*i+3 by omega)with h'|h'|h'|h'
  ·rw[key 0 aa h',h',show c.n+4*i+0-(c.n+4*i)+0=0 by omega];exact cL rfl rfl
  ·rw[key 1 aa h',h',show c.n+4*i+1-(c.n+4*i)+0=1 by omega];exact cL rfl rfl
  ·rw[key 2 aa h',h',show c.n+4*i+2-(c.n+4*i)+0=2 by omega];exact cL rfl rfl
  ·rw[key 3 aa h',h',show c.n+4*i+3-(c.n+4*i)+0=3 by omega];exact cL rfl rfl
theorem abj {c:Cu} (h1:1<=c.n) (hn:c.n<2^30) (hm2:c.m<2^28) (K:Nat):aE P Be K [aS c 2048 2048] [] (aK (bq (kW c) (c.n+4*c.m) 2048) []):=by
 refine fI (r:=aK (bq (kW c) (c.n+4*c.m) 2048) []) hT ahP hm al9 rfl aX rfl [1,1,0,1] (i:=0) (y:=part z6 [1,1,0,1,0,0]) (z:=part z6 [1,1,1]) ag ag ag (f1:=[]) (f2:=[13]) (f3:=[]) 60 AG 1
  (fun i:Nat=>HG c i) (fun i=>Lp c i) (fun i=>i<=c.m) (fun i=>i=c.m) (fun i=>c.m-i) (fun _=>⟨⟨_,aeZ,?_⟩,fun i hi=>⟨_,X8,?_⟩,fun i hi=>⟨_,agL,?_⟩⟩) K []
 ·simp only[ah.all,az]
  exact⟨⟨aa,bY aU,aa,aa⟩,aa,0,Nat.zero_le _,[(0,16384)],rfl,rfl,rfl,bL rfl rfl rfl (fun j hj=>cL rfl (by unfold kW;rw[if_pos aa];rfl)) trivial⟩
 ·simp only[ah.all,az,aZ,bk,aW]
  refine⟨fun h=>?_,fun h=>⟨rfl,i,aa,[(0,0)],rfl,rfl,rfl,bL rfl rfl rfl (fun j hj=>cL rfl rfl) trivial⟩⟩
  (repeat' with_reducible refine And.intro ?_ ?_)
  all_goals first|omega|decide|skip
  refine⟨i+1,aa,by dsimp only;omega,[(0,73729)],rfl,?_,rfl,bL rfl rfl ?_ (fun j hj=>W5 aa) trivial⟩
  ·show _=[_,AV.own 0 3 0 (c.n+4*(i+1)),_,_,_].map _
   rw[show c.n+4*(i+1)=c.n+4*i+4 by omega];rfl
  ·show c.n+4*(i+1)=c.n+4*i+4
   omega
 ·subst hi
  simp only[ah.all,az]
  exact .refl _
theorem acf:∀K args pre r,Oe K args pre=some r->aE P Be K args pre r:=cy fun⟨c,_⟩ K hn=>abj hn.1 hn.2.1 hn.2.2 K
theorem Yr {n:Nat} {f:Nat->Pl}:bW T Sg [] 60 DY (aA DY) ⟨aQ 0 [jS f n 2048,.func ia []],[],0⟩=
  some (aj [fT (fun i=>bE (f i) 2048) n 2048,n<2^40,∀(i:Nat),i<n->0<aR (rat (f i).d 2048),ia=ia] (leaf ret [AV.bool false])):=ag
theorem afA {c:Cu}:bW T Pp [200015,200017] 60 Dh (aA Dh) ⟨aQ 0 [aS c 2048 2048],[],0⟩=
  let c5 : Nat := c.n + 4 * c.m; let c4 : Prop := fT (fun i => bE (c.f i) 2048) c.m 2048; let c3 : Nat := 2 ^ 40; let c2 : Prop := 0 < 1; let c1 : Prop := bP (fun i => rat (kW (Cu.mk c.p c.n (fun i => aR (rat (c.k i) 2048)) c.m fun i => gG (bE (c.f i) 2048)) i) 2048) c5 2048; some (aj [c2, bP (fun i => rat (c.k i) 2048) c.n 2048, c4, (1 : Nat) <= c.n, c.n < 2 ^ 30, c.m < 2 ^ 28] (aj [c1, c5 < c3, jL = jL \/ jL = jy] (aj [c2, c2, bP (fun i => rat (c.k i) 2048) c.n sJ, c.n < c3] (aj [(gR c.n (fun i => aR (rat (c.k i) 2048)) c.p != (0 : Int)) = false] (aj [c2, c2, c2, bP (fun i => rat (c.k i) 2048) c.n sK, c.n < c3, -(2 : Int) ^ 40 < c.p, c.p < (2 : Int) ^ 40] (aj [((↑c.m : Int) != (↑c.n : Int) - c.p - (1 : Int)) = false] (aj [c2, c4, c.m < c3, ∀ (i : Nat), i < c.m -> 0 < aR (rat (c.f i).d 2048), ia = ia] (aj [c1, c5 < c3, jy = jL \/ jy = jy] (leaf ret [int i64 (0 : Int)]))))))))) := ag
theorem Zb:bz P Sg:=cZ (aL af2 bO)
theorem Vo:∀K args pre r,SI K args pre=some r->aE P K4 K args pre r:=cy fun⟨⟨n,f⟩,g,_⟩ K hn=>by
 have hg:g=ia:=hn.2.2
 subst hg
 refine cj (r:=aK (.bool false) []) hT Zb hm aia rfl aX rfl 60 Yr (fun _=>?_) K []
 simp only[ah.all,az]
 exact⟨⟨iM aU,hn.1,hn.2.1,by trivial⟩,.refl _⟩
theorem acz:bz P Pp:=cZ (aL acf (aL X7 (aL Vo (aL Mj (aL zA bO)))))
def OJ:Spec:=cN (kC (jb 2048 2048) kN) (fun _=>.int .i64 0) fun a=>[fe a.1,∀i,i<a.1.m->0<(a.1.f i).d]
theorem adb:∀K args pre r,OJ K args pre=some r->aE P Hq K args pre r:=cy fun⟨c,_⟩ K hn=>by
 obtain⟨⟨h1,h2,h3,h4,h5⟩,hw⟩:fe c/\_:=hn
 have hl:=h1.len
 refine cj (r:=aK (.int .i64 0) []) hT acz hm ag2 rfl aX rfl 60 afA (fun _=>?_) K []
 have hc0:gR c.n c.k c.p=0:=by have:=h1.OI aa h4;rwa [Int.toNat_of_nonneg aa]at this
 simp only[ah.all,az]
 (repeat' with_reducible refine And.intro ?_ ?_)
 all_goals first|omega|exact bY (by decide)|exact iM (by decide)|exact hw|exact bne_eq_false_iff_eq.2 hc0|exact bne_eq_false_iff_eq.2 h5|exact .inl trivial|exact .inr trivial|trivial|exact .refl _|skip
theorem MM:aT P FG FT (aA FT):=aY Proofs.Tryz.func111 ag ag ag
def oX:bg:=nG::(uf,iW vZ)::(rC,Aw)::(s4,zS)::nI
abbrev lS (n:Nat) (z:Nat->Int) (a:Int):ak:=jw n (fun i=>.int .i64 (z i)) a
abbrev tO (t:Rat):ak:=⟨false,true,3,1,fun _=>.rat t 64⟩
abbrev ago (m:Nat) (k:Nat->Rat):ak:=⟨true,true,3,m,fun i=>.rat (k i) 64⟩
abbrev sM:List Nat:=[0,1,2,7,8,9]
abbrev B3 (p m:Int) (v:AV) (i:Int):List AV:=[.ptr 0 0 2 0 [],.int .i64 p,.int .i64 m,.ptr 1 0 3 0 [],v,.int .i64 i]
abbrev xb:Code:=aA FT
abbrev yl:Code:=part xb [1,1,1,1]
abbrev uW:Code:=part yl [1]
abbrev xX:List Nat:=[0,1,7,8,10]
abbrev AF:List Nat:=[0,1,7,8,11]
abbrev uo (p:Int) (l:Nat) (i:Int):List AV:=[.ptr 0 0 2 0 [],.int .i64 p,.ptr 1 0 3 0 [],.own 2 3 0 l,.int .i64 i]
abbrev m9 (n:Nat) (z:Nat->Int) (a:Int) (t:Rat) (l:Nat) (k:Nat->Rat):aF:=[(2,ago l k),(1,tO t),(0,lS n z a)]
theorem ako {n:Nat} {z:Nat->Int} {a p m:Int}:aH T oX [] 60 sM (before xb [1,1,1,0,1]) ⟨aQ 0 [.ptr 0 0 2 0 [],.int .i64 p,.int .i64 m],[(0,lS n z a)],1⟩=
  let c2:Int:=(2:Int)^63;let c1:Int:=dx n (fun i=>int i64 (z i)) a (4:Int)-(2:Int);some (aj [dh n (fun i=>int i64 (z i)) a,(0:Int)<(4:Int),(4:Int)<(2:Int)^62,-c2<=c1/\c1<c2,-c2<=c1,c1<c2,(0:Nat)<1] (leaf normal ([ptr 0 0 2 0 [],int i64 p,int i64 m,ptr 20481 0 3 0 [],nil,int i64 0],[((20481:Nat),aJ fun j=>if(j==0)=true then aV (rat (↑c1:Rat) (Max.max 1 (bN c1.natAbs)))else rat 0 1),(0,ak.mk false true 2 1 fun x=>agg [aq 1 n fun i=>int i64 (z i),int i64 (bV n a)])]))):=ag
theorem abt {n:Nat} {z:Nat->Int} {a p m:Int} {t:Rat}:aH T oX [18] 60 sM [part xb [1,1,1,0,1,0,0]] ⟨aC sM (B3 p m .nil 0),[(1,tO t),(0,lS n z a)],3⟩=
  let c3:AV:=ptr 1 0 3 0 [];let c2:AV:=ptr 0 0 2 0 [];let c1:List (Nat×ak):=[((1:Nat),aJ fun x=>rat t 64),(0,ak.mk false true 2 1 fun x=>agg [aq 1 n fun i=>int i64 (z i),int i64 a])];some (fork (decide ((0:Int)<=p)) (aj [(0:Nat)<1,(1:Nat)*3<=2^24,(0:Nat)<1/\1*((56:Nat)+1)*2<=2^47] (aj [-(2:Int)^63<=(0:Int)+(1:Int)/\(0:Int)+(1:Int)<(2:Int)^63] (leaf normal ([c2,int i64 p,int i64 m,c3,own 24579 3 0 1,int i64 1],(24579,ak.mk true true 3 1 fun i=>nth [rat t 64] (rat 0 1) (i+0))::c1)))) (leaf (exit 0) ([c2,int i64 p,int i64 m,c3,nil,int i64 0],c1))):=ag
theorem ail {n j:Nat} {z:Nat->Int} {a p m:Int} {t:Rat} {k:Nat->Rat}:aH T oX [18] 60 sM [part xb [1,1,1,0,1,0,0]] ⟨aC sM (B3 p m (.own 2 3 0 (j+1)) ((j+1:Nat):Int)),m9 n z a t (j+1) k,3⟩=
  let c4:AV:=ptr 1 0 3 0 [];let c3:AV:=ptr 0 0 2 0 [];let c2:Nat:=j+1;let c1:List (Nat×ak):=[((1:Nat),aJ fun x=>rat t 64),(0,ak.mk false true 2 1 fun x=>agg [aq 1 n fun i=>int i64 (z i),int i64 a])];let c7:Nat:=c2+1;let c6:Int:=(↑c2:Int);let c5:Int:=c6+(1:Int);some (fork (decide (c6<=p)) (aj [(0:Nat)<1,(1:Nat)*3<=2^24,c7*((56:Nat)+1)*2<=2^47] (aj [-(2:Int)^63<=c5/\c5<(2:Int)^63] (leaf normal ([c3,int i64 p,int i64 m,c4,own 24579 3 0 c7,int i64 c5],(24579,ak.mk true true 3 c7 fun i=>if i<c2 then rat (k i) 64 else nth [rat t 64] (rat 0 1) (i-c2+0))::c1)))) (leaf (exit 0) ([c3,int i64 p,int i64 m,c4,own 2 3 0 c2,int i64 c6],(2,ak.mk true true 3 c2 fun i=>rat (k i) 64)::c1))):=ag
theorem ZE {n j:Nat} {z:Nat->Int} {a p m:Int} {t:Rat} {k:Nat->Rat}:aH T oX [] 60 xX (before yl [0,1]) ⟨aC sM (B3 p m (.own 2 3 0 (j+1)) ((j+1:Nat):Int)),m9 n z a t (j+1) k,3⟩=
  let c1:Int:=m+(1:Int);some (aj [-(2:Int)^63<=c1/\c1<(2:Int)^63,dh n (fun i=>int i64 (z i)) a,(0:Int)<c1,c1<(2:Int)^62] (leaf normal ([ptr 0 0 2 0 [],int i64 p,ptr 1 0 3 0 [],own 2 3 0 (j+1),int i64 (dx n (fun i=>int i64 (z i)) a c1)],[(2,ak.mk true true 3 (j+1) fun i=>rat (k i) 64),((1:Nat),aJ fun x=>rat t 64),(0,ak.mk false true 2 1 fun x=>agg [aq 1 n fun i=>int i64 (z i),int i64 (bV n a)])]))):=ag
theorem aem {n l:Nat} {z:Nat->Int} {a p i:Int} {t:Rat} {k:Nat->Rat}:aH T oX [30,38,43,53] 60 xX [part yl [0,1,0,0]] ⟨aC xX (uo p l i),m9 n z a t l k,3⟩=
  let c40:Int:=i-(1:Int);let c39:Nat:=64+64+1;let c35:AV:=rat t 64;let c34:AV:=rat 0 1;let c33:Int:=bV n a;let c31:Nat:=l+1;let c30:Prop:=(0:Int)<(3:Int);let c28:Prop:=dh n (fun i=>int i64 (z i)) a;let c27:Int:=(↑l:Int);let c25:AV:=ptr 1 0 3 0 [];let c24:AV:=ptr 0 0 2 0 [];let c23:Prop:=0<1;let c21:Int:=(2:Int)^62;let c20:AV:=aq 1 n fun i=>int i64 (z i);let c18:Int:=p+(1:Int);let c16:Prop:=64<2^41;let c7:Int:=dx n (fun i=>int i64 (z i)) a (3:Int);let c5:Int:=(2:Int)^63;let c43:Int:=bV n c33;let c41:Bool:=c27==c18;let c38:Prop:=dh n (fun i=>int i64 (z i)) c33;let c37:Prop:=(3:Int)<c21;let c32:Prop:=-c5<=c18/\c18<c5;let c29:Int:=(1:Int)+c7;let c26:Nat×ak:=((1:Nat),aJ fun x=>c35);let c22:Bool:=bif false then true else decide (c7>(0:Int));let c19:List Prop:=[-c5<=c40/\c40<c5];let c17:Nat:=(c27-p).toNat+0;let c15:Nat×ak:=(106499,ak.mk true true 3 c31 fun i=>if i<l then rat (k i) 64 else nth [c35] c34 (i-l+0));let c13:List AV:=[c24,int i64 p,c25,own 147459 3 0 c31,int i64 c40];let c12:List AV:=[c24,int i64 p,c25,own 106499 3 0 c31,int i64 c40];let c10:Int:=(1:Int)+dx n (fun i=>int i64 (z i)) c33 (2:Int);let c9:Int:=(1:Int)+dx n (fun i=>int i64 (z i)) c33 (3:Int);let c6:List Prop:=[c23,(1:Nat)*3<=2^24,c31*((56:Nat)+1)*2<=2^47];let c42:Rat:=(↑c29:Rat)/(↑c10:Rat);let c36:Bool:=bif false then true else decide (t=k c17);let c14:List (Nat×ak):=[c26,(0,ak.mk false true 2 1 fun x=>agg [c20,int i64 a])];let c11:List Prop:=[c23,-c5<=c27-p/\c27-p<c5,(0:Int)<=c27-p/\(c27-p).toNat<l,c17<l,c16,c16];let c8:Int:=(1:Int)+dx n (fun i=>int i64 (z i)) c43 (2:Int);let c3:ah (List AV×aF):=aj c6 (aj c19 (leaf normal (c12,[c15,c26,(0,ak.mk false true 2 1 fun x=>agg [c20,int i64 c33])])));let c44:Rat:=(↑c9:Rat)/(↑c8:Rat);let c4:ah (List AV×aF):=aj c6 (aj c19 (leaf normal (c12,c15::c14)));let c2:ah (List AV×aF):=aj [c23,c28,c30,c37,-c5<=c29/\c29<c5,c38,(0:Int)<(2:Int),(2:Int)<c21,-c5<=c10/\c10<c5,-c5<=c29,c29<c5,-c5<=c10,c10<c5,c16,c16,c23] (aj c6 (aj c19 (leaf normal (c13,[(147459,ak.mk true true 3 c31 fun i=>if i<l then rat (k i) 64 else nth [rat (t+c42) c39] c34 (i-l+0)),((1:Nat),aJ fun j=>if(j==0)=true then aV (ir (t,(64:Nat)) (c42,(64:Nat)))else c35),(0,ak.mk false true 2 1 fun x=>agg [c20,int i64 c43])]))));let c1:ah (List AV×aF):=aj [c23,c38,c30,c37,-c5<=c9/\c9<c5,dh n (fun i=>int i64 (z i)) c43,(0:Int)<(2:Int),(2:Int)<c21,-c5<=c8/\c8<c5,-c5<=c9,c9<c5,-c5<=c8,c8<c5,c16,c16,c23] (aj c6 (aj c19 (leaf normal (c13,[(147459,ak.mk true true 3 c31 fun i=>if i<l then rat (k i) 64 else nth [rat (t+c44) c39] c34 (i-l+0)),((1:Nat),aJ fun j=>if(j==0)=true then aV (ir (t,(64:Nat)) (c44,(64:Nat)))else c35),(0,ak.mk false true 2 1 fun x=>agg [c20,int i64 (bV n c43)])]))));some (fork (decide (i>(0:Int))) (fork c41 (fork true (aj [c32,c41=true,true=true] (fork true c2 c4)) (aj (c32::(c41=true)::(true=false)::c11) (fork c36 c2 c4))) (fork c22 (aj [c32,c41=false,c28,c30,c37,c22=true] (fork true c1 c3)) (aj (c32::(c41=false)::c28::c30::c37::(c22=false)::c11) (fork c36 c1 c3)))) (leaf (exit 2) ([c24,int i64 p,c25,own 2 3 0 l,int i64 i],(2,ak.mk true true 3 l fun i=>rat (k i) 64)::c14))):=ag
theorem ahe {n l:Nat} {z:Nat->Int} {a p i:Int} {t:Rat} {k:Nat->Rat}:aH T oX [] 60 AF (before uW [1,0,1]) ⟨aC xX (uo p l i),m9 n z a t l k,3⟩=
  let c1:Nat:=Max.max 1 (bN (Int.natAbs (1:Int)));some (aj [(0:Nat)<1,-(2:Int)^63<=(1:Int),(1:Int)<(2:Int)^63,(64:Nat)<2^41,c1<2^41,(0:Nat)<1] (leaf normal ([ptr 0 0 2 0 [],int i64 p,ptr 1 0 3 0 [],own 2 3 0 l,int i64 0],[(2,ak.mk true true 3 l fun i=>rat (k i) 64),((1:Nat),aJ fun j=>if(j==0)=true then aV (ir (t,(64:Nat)) ((↑(1:Int):Rat),c1))else rat t 64),(0,ak.mk false true 2 1 fun x=>agg [aq 1 n fun i=>int i64 (z i),int i64 a])]))):=ag
theorem W1 {n l:Nat} {z:Nat->Int} {a p i:Int} {t:Rat} {k:Nat->Rat}:aH T oX [72] 60 AF [part uW [1,0,1,0,0]] ⟨aC AF (uo p l i),m9 n z a t l k,3⟩=
  let c3:AV:=ptr 1 0 3 0 [];let c2:AV:=ptr 0 0 2 0 [];let c1:List (Nat×ak):=[((1:Nat),aJ fun x=>rat t 64),(0,ak.mk false true 2 1 fun x=>agg [aq 1 n fun i=>int i64 (z i),int i64 a])];some (fork (decide (i<=p)) (aj [(0:Nat)<1,(1:Nat)*3<=2^24,(l+1)*((56:Nat)+1)*2<=2^47] (aj [-(2:Int)^63<=i+(1:Int)/\i+(1:Int)<(2:Int)^63] (leaf normal ([c2,int i64 p,c3,own 24579 3 0 (l+1),int i64 (i+(1:Int))],(24579,ak.mk true true 3 (l+1) fun i=>if i<l then rat (k i) 64 else nth [rat t 64] (rat 0 1) (i-l+0))::c1)))) (leaf (exit 4) ([c2,int i64 p,c3,own 2 3 0 l,int i64 i],(2,ak.mk true true 3 l fun i=>rat (k i) 64)::c1))):=ag
theorem alz {n l:Nat} {z:Nat->Int} {a p i:Int} {t:Rat} {k:Nat->Rat}:Ed T oX [] 60 FT [part uW [1,1]] ⟨aC AF (uo p l i),m9 n z a t l k,3⟩=
  some (leaf ret ([aq 3 l fun i=>rat (k (i+0)) 64],some (ak.mk false true 2 1 fun x=>agg [aq 1 n fun i=>int i64 (z i),int i64 a]))):=ag
structure vh where
 k:Nat->Rat
 t:Rat
 a:Int
def sw (n:Nat) (f:Nat->AV) (t:Rat) (a:Int):Rat:=t+((1+dx n f a 3:Int):Rat)/((1+dx n f (bV n a) 2:Int):Rat)
def tS (n:Nat) (f:Nat->AV) (p j:Nat) (s:vh):vh:=
 if j=0\/0<dx n f s.a 3\/s.t=s.k (j+1)then
  ⟨jm s.k (p+1+j) (sw n f s.t (if j=0 then s.a else bV n s.a)),sw n f s.t (if j=0 then s.a else bV n s.a),bV n (bV n (if j=0 then s.a else bV n s.a))⟩
 else⟨jm s.k (p+1+j) s.t,s.t,if j=0 then s.a else bV n s.a⟩
def qX (n:Nat) (f:Nat->AV) (p:Nat) (s0:vh):Nat->vh
 |0=>s0
 |j+1=>tS n f p j (qX n f p s0 j)
def p8 (n:Nat) (f:Nat->AV) (a:Int):vh:=⟨fun _=>((dx n f a 4-2:Int):Rat),((dx n f a 4-2:Int):Rat),bV n (bV n a)⟩
def kY (n:Nat) (f:Nat->AV) (a:Int) (m:Nat):Nat:=(dx n f (bV n a) (m+1)).toNat
def F3 (n:Nat) (f:Nat->AV) (a:Int) (p m:Nat):vh:=qX n f p (p8 n f a) (kY n f a m)
def s5 (n:Nat) (f:Nat->AV) (a:Int) (p m:Nat):Nat:=2*p+2+kY n f a m
def uU (n:Nat) (f:Nat->AV) (a:Int) (p m:Nat):Nat->Rat:=mY p (kY n f a m) (F3 n f a p m).k (F3 n f a p m).t
def sD (n:Nat) (f:Nat->AV) (a:Int) (p m:Nat):Int:=(F3 n f a p m).a
theorem ya {n:Nat} {f:Nat->AV} {a:Int} {p:Nat} (hd:dh n f a) (hp:1<=p):∀j,KG p j (qX n f p (p8 n f a) j).k (qX n f p (p8 n f a) j).t/\dh n f (qX n f p (p8 n f a) j).a
 |0=>by
  have h1:=iQ (n:=n) (f:=f) (a:=a) (m:=4) aa
  have h2:=iV (n:=n) (f:=f) (a:=a) (m:=4) aa
  exact⟨KG.start hp aa aa,hd.next.next⟩
 |j+1=>by
  obtain⟨h1,h2⟩:=ya hd hp j
  unfold qX tS sw
  generalize qX n f p (p8 n f a) j=s at*
  obtain⟨k,t,b⟩:=s
  simp only at h1 h2 ⊢
  have hb:dh n f (if j=0 then b else bV n b):=by split;exact h2;exact h2.next
  generalize (if j=0 then b else bV n b)=a1 at*
  split
  ·have x1:=iQ (n:=n) (f:=f) (a:=a1) (m:=3) aa
   have x2:=iV (n:=n) (f:=f) (a:=a1) (m:=3) aa
   have y1:=iQ (n:=n) (f:=f) (a:=bV n a1) (m:=2) aa
   have y2:=iV (n:=n) (f:=f) (a:=bV n a1) (m:=2) aa
   refine⟨h1.next (.inl ?_),hb.next.next⟩
   generalize dx n f a1 3=x at*
   generalize dx n f (bV n a1) 2=y at*
   have key:∃z:Int,((1+x:Int):Rat)/((1+y:Int):Rat)=(z:Rat)/2/\1<=z/\z<=6:=by
    rcases(show y=0\/y=1 by omega)with h|h
    ·subst h
     refine⟨2*(1+x),?_,aa,aa⟩
     have:((2*(1+x):Int):Rat)=2*((1+x:Int):Rat):=by simp
     rw[this]
     generalize ((1+x:Int):Rat)=w
     simp;grind
    ·subst h
     exact⟨1+x,by simp,aa,aa⟩
   obtain⟨z,e,z1,z2⟩:=key
   rw[e]
   refine⟨?_,z,rfl,z2⟩
   have:(1:Rat)<=(z:Rat):=by exact_mod_cast z1
   grind
  ·rename_i hc
   have hc1:¬j=0:=fun h=>hc (.inl h)
   have hc2:¬t=k (j+1):=fun h=>hc (.inr (.inr h))
   exact⟨h1.next (.inr ⟨rfl,aa,hc2⟩),hb⟩
theorem Rx {z:Int} (h1:-2^63<=z) (h2:z<2^63):Sz ((z:Rat)/2) 64:=by
 have:=J1 h1 h2 (y:=2) aa aa aa
 simpa using this
theorem KG.sz {p j:Nat} {k:Nat->Rat} {t:Rat} (h:KG p j k t) (hj:j<2^50):Sz t 64:=by
 obtain⟨z,e,h1,h2⟩:=h.half (p+j) aU
 rw[h.top]at e
 rw[e]
 exact Rx aa aa
theorem abz {J j:Nat} (h:j<J):((J-j:Nat):Int)-1=((J-(j+1):Nat):Int):=aa
theorem KS {rl:List (Nat×Nat)} {l i:Nat} {k k':Nat->Rat} {t:Rat} {s:Nat} (hk:k'=jm k l t) (ht:Sz t 64) (hi:i<l+1):eG rl (if i<l then .rat (k i) 64 else nth [.rat t s] (.rat 0 1) (i-l+0)) (.rat (k' i) 64):=by
 subst hk
 by_cases h:i<l
 ·rw[if_pos h,js aa];exact cL rfl rfl
 ·have:i=l:=aa
  subst this
  rw[if_neg h,pz,Nat.sub_self]
  exact .inr ⟨rfl,dA rfl ht⟩
theorem EA:bz P oX:=cZ (aL Ci (aL Cw (aL Bd pI)))
theorem ack {k n p m:Nat} {z:Nat->Int} {a:Int} {o:ak} (ho:∀ρ,cV ρ o (lS n z a)) (h:dh n (fun i=>.int .i64 (z i)) a) (hp:1<=p) (hp2:p<1000) (hm2:m<1000) (K:Nat):
  aE P FG K [.ptr k 0 2 0 [],.int .i64 p,.int .i64 m] [(k,o)] ⟨bq (uU n (fun i=>.int .i64 (z i)) a p m) (s5 n (fun i=>.int .i64 (z i)) a p m) 64,[(k,lS n z (sD n (fun i=>.int .i64 (z i)) a p m))],[]⟩:=by
 refine NZ hT MM rfl rfl aX ho (fun _ c hk=>?_) K
 have a1:=iQ (n:=n) (f:=fun i=>.int .i64 (z i)) (a:=a) (m:=4) aa
 have a2:=iV (n:=n) (f:=fun i=>.int .i64 (z i)) (a:=a) (m:=4) aa
 have b1:=iQ (n:=n) (f:=fun i=>.int .i64 (z i)) (a:=bV n a) (m:=m+1) aa
 have b2:=iV (n:=n) (f:=fun i=>.int .i64 (z i)) (a:=bV n a) (m:=m+1) aa
 have hS:=ya h hp
 unfold sD uU s5 F3 at*
 obtain⟨J,hJ⟩:∃J,J=kY n (fun i=>.int .i64 (z i)) a m:=⟨_,rfl⟩
 have hJ2:dx n (fun i=>.int .i64 (z i)) (bV n a) (m+1)=(J:Int):=by rw[hJ];unfold kY;omega
 rw[<-hJ]at*
 have hJ3:J<1000:=aa
 obtain⟨S,hSd⟩:∃S,S=qX n (fun i=>.int .i64 (z i)) p (p8 n (fun i=>.int .i64 (z i)) a):=⟨_,rfl⟩
 have h00:S 0=p8 n (fun i=>.int .i64 (z i)) a:=by rw[hSd];rfl
 have hS1:∀j,S (j+1)=tS n (fun i=>.int .i64 (z i)) p j (S j):=fun j=>by rw[hSd];rfl
 rw[<-hSd]at hS ⊢
 clear hSd hJ
 obtain⟨t0,ht0⟩:∃t0:Rat,t0=((dx n (fun i=>.int .i64 (z i)) a 4-2:Int):Rat):=⟨_,rfl⟩
 unfold p8 at h00
 rw[<-ht0]at h00
 have hs0:Sz t0 64:=by have:=(hS 0).1.sz aa;rw[h00]at this;exact this
 refine ax.kG hT EA hm [1,1,1,0,1] (i:=0) (y:=part xb [1,1,1,0,1,0,0]) (z:=yl) ag ag ag MM.dst hk (f1:=[]) (f2:=[18]) 60 sM 3
  (fun j:Nat=>B3 p m (match j with
   |0=>.nil
   |_+1=>.own 2 3 0 j) j) (fun j=>match j with
   |0=>[(1,tO t0),(0,lS n z (bV n a))]
   |_+1=>m9 n z (bV n a) t0 j (fun _=>t0)) (fun j=>j<=p+1) (fun j=>j=p+1) (fun j=>p+1-j) (fun _=>False) ⟨_,ako,?_⟩ (fun j hj=>?_) (fun j hj=>?_) (fun _ _ h=>h.elim)
 ·simp only[ah.all,az]
  refine⟨⟨h,aa,aa,aa,aa,aa,aa⟩,0,aa,[(0,0),(1,20481)],rfl,rfl,rfl,bD rfl rfl (.inr ⟨rfl,?_⟩) (aB trivial)⟩
  rw[<-ht0]
  exact dA rfl hs0
 ·cases j with
  |zero=>
   refine⟨_,abt,?_⟩
   simp only[ah.all,az,aZ,bk]
   refine⟨fun _=>⟨aa,aa,1,aa,by dsimp only;omega,[(0,0),(1,1),(2,24579)],rfl,rfl,rfl,bL rfl rfl rfl (fun i hi=>?_) (aB (aB trivial))⟩,fun h=>aa⟩
   have:i=0:=aa
   subst this
   exact cL rfl rfl
  |succ j=>
   refine⟨_,ail,?_⟩
   simp only[ah.all,az,aZ,bk]
   refine⟨fun _=>⟨aa,aa,j+2,aa,by dsimp only;omega,[(0,0),(1,1),(2,24579)],rfl,rfl,rfl,bL rfl rfl rfl (fun i hi=>KS (by funext i;unfold jm;split<;>rfl) hs0 hi) (aB (aB trivial))⟩,
    fun _=>⟨rfl,j+1,aa,[(0,0),(1,1),(2,2)],rfl,rfl,rfl,bL rfl rfl rfl (fun i hi=>cL rfl rfl) (aB (aB trivial))⟩⟩
 subst hj
 refine ax.kG hT EA hm [0,1] (i:=2) (y:=part yl [0,1,0,0]) (z:=uW) ag ag ag ag hk (f1:=[]) (f2:=[30,38,43,53]) 60 xX 3
  (fun j:Nat=>uo p (p+1+j) ((J-j:Nat):Int)) (fun j=>m9 n z (S j).a (S j).t (p+1+j) (S j).k) (fun j=>j<=J) (fun j=>j=J) (fun j=>J-j) (fun _=>False) ⟨_,ZE,?_⟩ (fun j hj=>?_) (fun j hj=>?_) (fun _ _ h=>h.elim)
 ·simp only[ah.all,az]
  rw[hJ2]
  refine⟨⟨aa,h.next,aa,aa⟩,0,aa,[(0,0),(1,1),(2,2)],rfl,rfl,rfl,?_⟩
  dsimp only
  rw[h00]
  exact bL rfl rfl rfl (fun i hi=>cL rfl rfl) (aB (aB trivial))
 ·refine⟨_,aem,?_⟩
  have hj1:=hS1 j
  obtain⟨hg,hd⟩:=hS j
  have hs1:∀{j},j<2000->Sz (S j).t 64:=fun hj=>(hS _).1.sz aa
  have hsj:=hs1 (j:=j) aa
  have hsj1:=hs1 (j:=j+1) aa
  have e1:(((p+1+j:Nat):Int)-(p:Int)).toNat+0=j+1:=aa
  simp only[ah.all,az,aZ,bk,beq_iff_eq,beq_eq_false_iff_ne,e1,cond_false]
  have v3:=fun a=>And.intro (iQ (n:=n) (f:=fun i=>.int .i64 (z i)) (a:=a) (m:=3) aa) (iV (n:=n) (f:=fun i=>.int .i64 (z i)) (a:=a) (m:=3) aa)
  have v2:=fun a=>And.intro (iQ (n:=n) (f:=fun i=>.int .i64 (z i)) (a:=a) (m:=2) aa) (iV (n:=n) (f:=fun i=>.int .i64 (z i)) (a:=a) (m:=2) aa)
  have q1:=v3 (S j).a
  have q2:=v3 (bV n (S j).a)
  have q3:=v2 (bV n (S j).a)
  have q4:=v2 (bV n (bV n (S j).a))
  refine⟨fun hi=>?_,fun hi=>⟨rfl,j,aa,[(0,0),(1,1),(2,2)],rfl,rfl,rfl,bL rfl rfl rfl (fun i hi=>cL rfl rfl) (aB (aB trivial))⟩⟩
  have hlt:j<J:=aa
  have fin:∀(key:Nat) (t:Rat) (s s2:Nat) (b:Int) (g:Nat->AV),S (j+1)=⟨jm (S j).k (p+1+j) t,t,b⟩->g 0=.rat t s2->(iA 3 [(0,0),(1,1),(2,key)])=true->(key==1)=false->(key==0)=false->
    Round [0] (fun j=>uo p (p+1+j) ((J-j:Nat):Int)) (fun j=>m9 n z (S j).a (S j).t (p+1+j) (S j).k) 3 (fun j=>j<=J) (fun j=>j=J) (fun j=>J-j) 2 (fun _=>False) j normal
     ([ptr 0 0 2 0 [],int i64 p,ptr 1 0 3 0 [],own key 3 0 (p+1+j+1),int i64 (((J-j:Nat):Int)-1)],[(key,⟨true,true,3,p+1+j+1,fun i=>if i<p+1+j then .rat ((S j).k i) 64 else nth [.rat t s] (.rat 0 1) (i-(p+1+j)+0)⟩),(1,⟨false,true,3,1,g⟩),(0,lS n z b)]):=by
   intro key t s s2 b g e1 e2 e3 hk1 hk0
   rw[e1]at hsj1
   refine⟨j+1,aa,by dsimp only;omega,[(0,0),(1,1),(2,key)],by rw[e3];rfl,by rw[abz hlt];rfl,rfl,?_⟩
   dsimp only
   rw[e1]
   exact bL rfl ot rfl (fun i hi=>KS rfl hsj1 hi) (bD rfl ((GB hk1).trans rfl) (.inr ⟨by rw[e2];rfl,by rw[e2];exact dA rfl hsj1⟩) (bD rfl ((GB hk0).trans rfl) (cL rfl rfl) trivial))
  refine⟨fun hl=>?_,fun hl=>⟨fun hc=>?_,fun hc=>?_⟩⟩
  all_goals (repeat' with_reducible first|refine And.intro ?_ ?_|intro _)
  all_goals first|omega|exact hd|exact hd.next|exact hd.next.next|skip
  all_goals try exact absurd ‹true=false› (by decide)
  ·refine fin 147459 _ _ _ _ _ ?_ rfl rfl rfl rfl
   rw[hj1];unfold tS sw
   have hj0:j=0:=aa
   rw[if_pos (.inl hj0),if_pos hj0]
  ·refine fin 147459 _ _ _ _ _ ?_ rfl rfl rfl rfl
   rw[hj1];unfold tS sw
   have hj0:j≠0:=aa
   rw[if_pos (.inr (.inl hc)),if_neg hj0]
  ·refine fin 147459 _ _ _ _ _ ?_ rfl rfl rfl rfl
   rw[hj1];unfold tS sw
   have hj0:j≠0:=aa
   rename_i hk
   rw[if_pos (.inr (.inr hk)),if_neg hj0]
  ·refine fin 106499 _ _ _ _ _ ?_ rfl rfl rfl rfl
   rw[hj1];unfold tS sw
   have hj0:j≠0:=aa
   rename_i hk
   rw[if_neg (by simp only[hj0,hk,or_false,false_or];omega),if_neg hj0]
 subst hj
 have hs1:Sz ((S j).t+1) 64:=by
  obtain⟨z,e,h1,h2⟩:=(hS j).1.NW (p+1+j)
  unfold mY at e
  rw[if_neg aa]at e
  rw[e];exact Rx aa aa
 refine ax.kG hT EA hm [1,0,1] (i:=4) (y:=part uW [1,0,1,0,0]) (z:=part uW [1,1]) ag ag ag ag hk (f1:=[]) (f2:=[72]) 60 AF 3
  (fun i:Nat=>uo p (p+1+j+i) i) (fun i=>m9 n z (S j).a ((S j).t+1) (p+1+j+i) (mY p j (S j).k (S j).t)) (fun i=>i<=p+1) (fun i=>i=p+1) (fun i=>p+1-i) (fun _=>False) ⟨_,ahe,?_⟩ (fun i hi=>?_) (fun i hi=>?_) (fun _ _ h=>h.elim)
 ·simp only[ah.all,az]
  refine⟨⟨aa,aa,aa,aa,by decide,aa⟩,0,aa,[(0,0),(1,1),(2,2)],rfl,rfl,rfl,bL rfl rfl rfl (fun i hi=>?_) (bD rfl rfl (.inr ⟨rfl,dA rfl hs1⟩) (aB trivial))⟩
  refine cL rfl ?_
  unfold mY
  rw[if_pos aa]
 ·refine⟨_,W1,?_⟩
  simp only[ah.all,az,aZ,bk]
  refine⟨fun _=>⟨aa,aa,i+1,aa,by dsimp only;omega,[(0,0),(1,1),(2,24579)],rfl,rfl,rfl,bL rfl rfl rfl (fun i hi=>KS ?_ hs1 hi) (aB (aB trivial))⟩,
   fun _=>⟨rfl,i,aa,[(0,0),(1,1),(2,2)],rfl,rfl,rfl,bL rfl rfl rfl (fun i hi=>cL rfl rfl) (aB (aB trivial))⟩⟩
  funext x
  unfold jm mY
  split
  ·rename_i hx;rw[if_neg aa]
  ·split<;>rfl
 ·subst hi
  refine ax.j3 (aI.MF hT EA hm 60 alz ag ⟨?_,_,rfl,rfl,oB rfl rfl⟩)
  exact mC aa fun _ _=>rfl
def K1 (n:Nat) (f:Nat->AV) (a:Int) (l:List AV):Option (AV×Int×List Prop):=match l with
 |[.int .i64 p,.int .i64 m]=>some (bq (uU n f a p.toNat m.toNat) (s5 n f a p.toNat m.toNat) 64,sD n f a p.toNat m.toNat,[1<=p,p<1000,0<=m,m<1000])
 |_=>none
theorem abF:∀K args pre r,iW K1 K args pre=some r->aE P FG K args pre r:=by
 refine wm fun {k n z a l v b q o} K hg ho hd hq=>?_
 unfold K1 at hg
 split at hg
 ·rename_i p m
  simp only[ay,Prod.mk.injEq]at hg
  obtain⟨rfl,rfl,rfl⟩:=hg
  obtain⟨h1,h2,h3,h4⟩:=hq
  have h4:m<1000:=h4
  have:=ack (k:=k) (p:=p.toNat) (m:=m.toNat) ho hd aa aa aa K
  rw[Int.toNat_of_nonneg aa,Int.toNat_of_nonneg h3]at this
  exact this
 ·simp at hg
open Go Go.Am.N AV
open Go Go.Am.N AV ah au IntKind
def vS:bg:=[sG,(A0,Ih)]
theorem adf:bz P vS:=qm (aL OC bO)
theorem Kn.congr {n p:Nat} {k k':Nat->Rat} (h:Kn n p k) (e:∀i,i<n->k i=k' i):Kn n p k':=by
 have hp:=h.p1
 have hl:=h.len
 refine⟨h.p1,h.len,fun i hi=>?_,fun i hi=>?_,fun i h1 h2=>?_,fun i h1 h2=>?_⟩
 ·rw[<-e i aa,<-e (i+1) hi];exact h.sorted i hi
 ·rw[<-e i aa,<-e 0 aa];exact h.first i hi
 ·rw[<-e i h2,<-e (n-1) aa];exact h.last i h1 h2
 ·rw[<-e i aa,<-e (i+p) aa];exact h.mult i h1 h2
theorem agD {f:Nat->Rat} (h:∀i,i<6->f i=mY 2 0 (fun _=>((0:Int):Rat)) ((0:Int):Rat) i):Kn 6 2 f:=
 ((KG.start (p:=2) aa (z:=0) aa aa).done:Kn (2*2+2+0) 2 _).congr fun i hi=>(h i hi).symm
theorem afp:aT P FH Bz (aA Bz):=aY Proofs.Tryz.func26 ag ag ag
def O8:Spec:=bX fun l=>match l with
 |[.mag 2]=>some (aK (.str [50]) [])
 |[.mag 3]=>some (aK (.str [51]) [])
 |[.mag 4]=>some (aK (.str [52]) [])
 |[.mag 5]=>some (aK (.str [53]) [])
 |_=>none
def zh:bg:=[sG,(F5,O8)]
def MY:Spec:=bX fun l=>match l with
 |[.rat q _]=>match decide (q=3/5),decide (q=4/5),decide (q=3/2)with
  |true,_,_=>some (aK (.str [51,47,53]) [])
  |false,true,_=>some (aK (.str [52,47,53]) [])
  |false,false,true=>some (aK (.str [51,47,50]) [])
  |_,_,_=>none
 |_=>none
def MI:bg:=sG::(Jl,RP)::(HM,RM)::(Hq,OJ)::(WE,ru T (sG::qk) [] 200 ZX)::(s4,zS)::(FA,MY)::qk
theorem TD:bW T vS [] 60 lR (aA lR) ⟨aQ 0 [.mag 2],[],0⟩=
  let c1:Int:=(↑(1:Nat):Int);some (aj [nl 2<2^40,(0:Int)<(1000000000:Int),(1000000000:Int)<(2:Int)^32] (aj [(10:Int)≠(0:Int),(0:Nat)<1/\1*((1:Nat)+1)*2<=2^47] (aj [(10:Int)≠(0:Int)] (aj [(0:Int)<=c1/\c1<=c1/\c1<=(2:Int)^47/\c1*c1<=(2:Int)^47] (leaf ret [str [UInt8.ofNat (u8.wrap (u32.wrap ((48:Int)+(↑((2:Nat)%Int.toNat (1000000000:Int)):Int).tmod (10:Int)))).toNat]]))))):=ag
theorem ahv:bW T vS [] 60 lR (aA lR) ⟨aQ 0 [.mag 3],[],0⟩=
  let c1:Int:=(↑(1:Nat):Int);some (aj [nl 3<2^40,(0:Int)<(1000000000:Int),(1000000000:Int)<(2:Int)^32] (aj [(10:Int)≠(0:Int),(0:Nat)<1/\1*((1:Nat)+1)*2<=2^47] (aj [(10:Int)≠(0:Int)] (aj [(0:Int)<=c1/\c1<=c1/\c1<=(2:Int)^47/\c1*c1<=(2:Int)^47] (leaf ret [str [UInt8.ofNat (u8.wrap (u32.wrap ((48:Int)+(↑((3:Nat)%Int.toNat (1000000000:Int)):Int).tmod (10:Int)))).toNat]]))))):=ag
theorem aiN:bW T vS [] 60 lR (aA lR) ⟨aQ 0 [.mag 4],[],0⟩=
  let c1:Int:=(↑(1:Nat):Int);some (aj [nl 4<2^40,(0:Int)<(1000000000:Int),(1000000000:Int)<(2:Int)^32] (aj [(10:Int)≠(0:Int),(0:Nat)<1/\1*((1:Nat)+1)*2<=2^47] (aj [(10:Int)≠(0:Int)] (aj [(0:Int)<=c1/\c1<=c1/\c1<=(2:Int)^47/\c1*c1<=(2:Int)^47] (leaf ret [str [UInt8.ofNat (u8.wrap (u32.wrap ((48:Int)+(↑((4:Nat)%Int.toNat (1000000000:Int)):Int).tmod (10:Int)))).toNat]]))))):=ag
theorem agF:bW T vS [] 60 lR (aA lR) ⟨aQ 0 [.mag 5],[],0⟩=
  let c1:Int:=(↑(1:Nat):Int);some (aj [nl 5<2^40,(0:Int)<(1000000000:Int),(1000000000:Int)<(2:Int)^32] (aj [(10:Int)≠(0:Int),(0:Nat)<1/\1*((1:Nat)+1)*2<=2^47] (aj [(10:Int)≠(0:Int)] (aj [(0:Int)<=c1/\c1<=c1/\c1<=(2:Int)^47/\c1*c1<=(2:Int)^47] (leaf ret [str [UInt8.ofNat (u8.wrap (u32.wrap ((48:Int)+(↑((5:Nat)%Int.toNat (1000000000:Int)):Int).tmod (10:Int)))).toNat]]))))):=ag
theorem aa2:bW T zh [] 60 nQ (aA nQ) ⟨aQ 0 [.agg [.bool false,.mag 3,.mag 5]],[],0⟩=
  some (leaf ret [str [(51:UInt8),(47:UInt8),(53:UInt8)]]):=ag
theorem abx:bW T zh [] 60 nQ (aA nQ) ⟨aQ 0 [.agg [.bool false,.mag 4,.mag 5]],[],0⟩=
  some (leaf ret [str [(52:UInt8),(47:UInt8),(53:UInt8)]]):=ag
theorem aha:bW T zh [] 60 nQ (aA nQ) ⟨aQ 0 [.agg [.bool false,.mag 3,.mag 2]],[],0⟩=
  some (leaf ret [str [(51:UInt8),(47:UInt8),(50:UInt8)]]):=ag
theorem ahc:bW T MI [100024,100028,100032,100038,100044,100050] 200 Bz (aA Bz) ⟨aQ 0 [],[],0⟩=
  let c10:Rat:=(↑(1:Int):Rat)/(↑(2:Int):Rat);let c9:Int:=(2:Int)^63;let c8:List UInt8:=[(47:UInt8),(53:UInt8)];let c6:AV:=agg [AV.bool (decide ((0:Rat)<0)),mag (↑(nat_lit 0):Int).natAbs,mag (if 1=1 then 0 else 1)];let c5:AV:=rat 0 1;let c4:AV:=rat (↑(1:Int):Rat) (Max.max 1 (bN (Int.natAbs (1:Int))));let c7:AV:=agg [agg [c5,c5,c5],c5];let c3:List AV:=[agg [agg [c4,c5,c5],c4],agg [agg [c4,c4,c5],c4],agg [agg [c6,c4,c5],rat (↑(2:Int):Rat) (Max.max 1 (bN (Int.natAbs (2:Int))))]];let c2:List AV:=[c6,c6,c6,c4,c4,c4];let c1:Cu:=Cu.mk (2:Int) 6 (fun i=>aR (nth c2 c5 (i+0))) 3 fun i=>gG (nth c3 c7 (i+0));some (aj [(0:Nat)<1] (aj [-c9<=(1:Int),(1:Int)<c9,-c9<=(2:Int),(2:Int)<c9] (aj [bP (fun i=>nth c2 c5 (i+0)) 6 sJ,fT (fun i=>nth c3 c7 (i+0)) 3 sJ,(64:Nat)<=sK,fe c1] (aj [bP (fun i=>nth c2 c5 (i+0)) 6 2000,fT (fun i=>nth c3 c7 (i+0)) 3 2000,(64:Nat)<=2000,fe c1] (aj [bP (fun i=>nth c2 c5 (i+0)) 6 2048,fT (fun i=>nth c3 c7 (i+0)) 3 2048,fe c1,∀(i:Nat),i<3->0<(gG (nth c3 c7 (i+0))).d,((0:Int)==(0:Int))=true,(bif true then fE 6 (fun i=>aR (nth c2 c5 (i+0))) c10==(0:Int)else false)=true,(bif true then fR c1 c10==(0:Int)else false)=true,(bif true then(51:UInt8)::c8==(51:UInt8)::c8 else false)=true,(bif true then(52:UInt8)::c8==(52:UInt8)::c8 else false)=true,(bif true then(↑((6:Nat)+1-Int.toNat (2:Int)-1):Int)==(4:Int)else false)=true] (leaf ret [AV.bool true])))))):=ag
theorem ajL:∀K args pre r,O8 K args pre=some r->aE P F5 K args pre r:=by
 refine cK fun K args r hk hs _=>?_
 have fin:∀{N:Nat} {t:ah (List AV)} {l:List UInt8},bW T vS [] 60 lR (aA lR) ⟨aQ 0 [.mag N],[],0⟩=some t->(t.all fun _ us=>eF us (.str l))->aE P F5 K [.mag N] [] (aK (.str l) []):=fun h1 h2=>
  cj (r:=aK _ []) hT adf hm Vj rfl aX rfl 60 h1 (fun _=>h2) K []
 split at hs<;>simp only[ay,reduceCtorEq]at hs
 all_goals subst hs
 ·exact fin TD (by simp only[ah.all,az];exact⟨by decide,by decide,by decide,by decide,.refl _⟩)
 ·exact fin ahv (by simp only[ah.all,az];exact⟨by decide,by decide,by decide,by decide,.refl _⟩)
 ·exact fin aiN (by simp only[ah.all,az];exact⟨by decide,by decide,by decide,by decide,.refl _⟩)
 ·exact fin agF (by simp only[ah.all,az];exact⟨by decide,by decide,by decide,by decide,.refl _⟩)
theorem akH:bz P zh:=qm (aL ajL bO)
theorem VT:∀K args pre r,MY K args pre=some r->aE P FA K args pre r:=by
 refine cK fun K args r hk hs _=>?_
 have fin:∀{q:Rat} {n a b:Nat} {t:ah (List AV)} {l:List UInt8},kids (.rat q n)=[.bool false,.mag a,.mag b]->bW T zh [] 60 nQ (aA nQ) ⟨aQ 0 [.agg [.bool false,.mag a,.mag b]],[],0⟩=some t->(t.all fun _ us=>eF us (.str l))->aE P FA K [.rat q n] [] (aK (.str l) []):=fun h0 h1 h2=>
  gD (cj (r:=aK _ []) hT akH hm WY rfl aX rfl 60 h1 (fun _=>h2) K []) rfl (show eH [_] [_]from⟨by rw[<-h0];exact N3,trivial⟩) []
 split at hs
 ·rename_i q n
  split at hs
  all_goals simp only[ay,reduceCtorEq]at hs
  all_goals subst hs
  ·obtain rfl:q=3/5:=of_decide_eq_true ‹_›
   exact fin ag aa2 (.refl _)
  ·obtain rfl:q=4/5:=of_decide_eq_true ‹decide (q=4/5)=true›
   exact fin ag abx (.refl _)
  ·obtain rfl:q=3/2:=of_decide_eq_true ‹decide (q=3/2)=true›
   exact fin ag aha (.refl _)
 ·simp at hs
theorem akw:bz P MI:=qm (aL YF (aL ai4 (aL adb (aL (sX hT (qm sA) hm (aY Proofs.Tryz.func82 ag ag ag) _ _) (aL Bd (aL VT sA))))))
theorem Xa (K:Nat):aE P FH K [] [] (aK (.bool true) []):=by
 refine cj (r:=aK (.bool true) []) hT akw hm afp rfl aX rfl 200 ahc (fun _=>?_) K []
 have hR:∀s,4<=s->bP (fun i=>nth [.agg [AV.bool (decide ((0:Rat)<0)),mag (↑(nat_lit 0):Int).natAbs,mag (if 1=1 then 0 else 1)],.agg [AV.bool (decide ((0:Rat)<0)),mag (↑(nat_lit 0):Int).natAbs,mag (if 1=1 then 0 else 1)],.agg [AV.bool (decide ((0:Rat)<0)),mag (↑(nat_lit 0):Int).natAbs,mag (if 1=1 then 0 else 1)],.rat (↑(1:Int):Rat) (Max.max 1 (bN (Int.natAbs (1:Int)))),.rat (↑(1:Int):Rat) (Max.max 1 (bN (Int.natAbs (1:Int)))),.rat (↑(1:Int):Rat) (Max.max 1 (bN (Int.natAbs (1:Int))))] (.rat 0 1) (i+0)) 6 s:=fun s hs i hi=>by
  obtain⟨s,rfl⟩:∃s',s=s'+1:=⟨s-1,aa⟩
  match i,hi with
  |0,_|1,_|2,_=>exact lT
  |3,_|4,_|5,_=>exact fK (Nat.le_trans (by decide) hs)
 simp only[ah.all,az]
 (repeat' with_reducible first|refine And.intro ?_ ?_)
 all_goals first|omega|decide|exact hR _ (by decide)|skip
 all_goals first|decide+kernel|exact .refl _|skip
 all_goals first|refine⟨agD fun i hi=>?_,by decide,by decide,by decide,by decide⟩|intro i hi
 all_goals first
  |match i,hi with
   |0,_|1,_|2,_|3,_|4,_|5,_=>decide+kernel
  |match i,hi with
   |0,_|1,_|2,_=>decide+kernel
  |skip
 all_goals match i,hi with
  |0,_|1,_=>exact cC ⟨cC ⟨fK (by decide),fK (by decide),fK (by decide),trivial⟩,fK (by decide),trivial⟩
  |2,_=>exact cC ⟨cC ⟨lT,fK (by decide),fK (by decide),trivial⟩,fK (by decide),trivial⟩
def NF:Spec:=bX fun l=>match l with
 |[]=>some (aK (.bool true) [])
 |_=>none
theorem ald:∀K args pre r,NF K args pre=some r->aE P FH K args pre r:=by
 refine cK fun K args r hk hs _=>?_
 split at hs
 ·simp only[ay]at hs
  subst hs
  exact fun need=>Xa K need
 ·simp at hs
def ec (k:Nat->Rat) (j:Nat):Nat->Int
 |0=>-1
 |l+1=>if k (j+l)=k (j+l+1)then ec k j l else(j+l:Nat)
theorem NT {k:Nat->Rat} {j:Nat}:∀{l:Nat},k j≠k (j+l)->∃P:Nat,ec k j l=(P:Int)/\j<=P/\P<j+l/\k P≠k (P+1)
 |0,h=>absurd rfl h
 |l+1,h=>by
  unfold ec
  by_cases he:k (j+l)=k (j+l+1)
  ·rw[if_pos he]
   obtain⟨P,h1,h2,h3,h4⟩:=NT (k:=k) (j:=j) (l:=l) (by rw[he];exact h)
   exact⟨P,h1,h2,by omega,h4⟩
  ·rw[if_neg he]
   exact⟨j+l,rfl,by omega,by omega,he⟩
theorem Kn.piece {n p:Nat} {k:Nat->Rat} (h:Kn n p k) {j:Nat} (hj:j+p+1<n):∃P:Nat,ec k j (p+1)=(P:Int)/\j<=P/\P<=j+p/\k P<k (P+1)/\p<=P/\P+p+1<n:=by
 have hp:=h.p1
 have hne:k j≠k (j+(p+1)):=by
  have hlt:k j<k (j+(p+1)):=by
   by_cases h0:j=0
   ·subst h0
    have hl:=h.len
    have a1:=h.mult 1 (by omega) (by omega)
    rw[h.first 1 (by omega),show 1+p=0+(p+1) by omega]at a1
    exact a1
   ·have a1:=h.mult j (by omega) (by omega)
    have a2:=h.mono (show j+p<=j+(p+1) by omega) (by omega)
    grind
  grind
 obtain⟨P,h1,h2,h3,h4⟩:=NT hne
 have hs:=h.sorted P (by omega)
 refine⟨P,h1,h2,by omega,by grind,?_,?_⟩
 ·rcases Nat.lt_or_ge P p with hh|hh
  ·exact absurd (by rw[h.first P (by omega),h.first (P+1) (by omega)]) h4
  ·exact hh
 ·rcases Nat.lt_or_ge (P+p+1) n with hh|hh
  ·exact hh
  ·exact absurd (by rw[h.last P (by omega) (by omega),h.last (P+1) (by omega) (by omega)]) h4
theorem G3 {k:Nat->Rat} {c:Nat}:∀{l a:Nat},b9 (fun i=>k (c+i)) a l=b9 k (c+a) l
 |0,_=>rfl
 |l+1,a=>by rw[b9,b9,G3];rfl
theorem yA {f g:Nat->Rat}:∀{l a:Nat},(∀i,a<=i->i<a+l->f i=g i)->b9 f a l=b9 g a l
 |0,_,_=>rfl
 |l+1,a,h=>by rw[b9,b9,h a (by omega) (by omega),yA fun i h1 h2=>h i (by omega) (by omega)]
end Go.Am.B
