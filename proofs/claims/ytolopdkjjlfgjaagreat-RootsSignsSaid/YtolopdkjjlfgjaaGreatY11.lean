/- The ja hold: sizes of Euclid's and Sturm's sequences of short products. -/
import Derived.Test.YtolopdkjjlfgjaaGreatY9
import Derived.Test.YtolopdkjjlfgjaaGreatY10
import Derived.Test.YtolopdkjjlfgjaaGreatY7
import Derived.Test.YtolopdkjjlfgjaaGreatZ2
import Derived.Test.YtolopdkjjlfgjaaGreatY8
set_option linter.unusedVariables false
noncomputable section
namespace Go.Am.B
open Go Go.Am.N AV ag au IntKind Proofs.Tryz
theorem kQ {n s:Nat} {k:Nat->Rat} (h:dF n k s) (hs:2*s+2<=af):cU n k:=fun i hi=>(h.sz hi).more hs
theorem AU {a d:PP} {B M:Nat} (ha:Bd a B) (hd:Bd d B) (h0:0<d.1) (td:Trim d) (hM:a.1-(d.1-1)<=M) (hB:2*((M+1)*(B+1))+2<=af):nk a d:=by
 obtain⟨h1,h2⟩:=XA ha hd h0 td hM
 exact⟨fun j hj i hi=>(h1 j hj i hi).more hB,fun k hk=>(h2 k hk).more hB⟩
theorem B7 {a d:PP} {B M:Nat} (ha:Bd a B) (hd:Bd d B) (h0:0<d.1) (td:Trim d) (hM:a.1-(d.1-1)<=M):Bd (dj a d) ((M+1)*(B+1))/\Bd (fE a d) ((M+1)*(B+1)):=by
 obtain⟨h1,h2,_⟩:=ha.rem hd h0 td
 have:B+(a.1-(d.1-1))*(B+1)<=(M+1)*(B+1):=by
  have:=Nat.mul_le_mul_right (B+1) hM
  rw[Nat.add_mul];omega
 exact⟨h1.more this,h2.more this⟩
theorem xW {a b:PP} {u M:Nat} (ta:Trim a) (tb:Trim b) (la:a.1<=M) (lb:b.1<=M) (h1M:1<=M) (ha:Bd a u) (hb:Bd b u) (hX:2*((M+1)*(2*(u+1)*3^(M-1)))+2<=af):oB (a,b):=by
 have hle:∀{B l:Nat},B+1<=2*(u+1)*3^(M-l)->1<=l->B+1<=2*(u+1)*3^(M-1):=fun h1 h2=>Nat.le_trans h1 (Nat.mul_le_mul_left _ (s7 aa))
 have hX2:∀{B:Nat},B+1<=2*(u+1)*3^(M-1)->2*((M+1)*(B+1))+2<=af:=fun h=>by
  have:=Nat.mul_le_mul_left (M+1) h
  omega
 refine⟨fun j hj=>?_,fun i hi=>?_⟩
 ·obtain⟨B,b1,b2,b3,b4,b5,b6⟩:=Ey ta tb la lb ha hb j
  have ht:=lC (s:=(a,b)) ta tb j
  have hB:B+1<=2*(u+1)*3^(M-1):=by
   rcases b6 with h|⟨_,rfl⟩|h
   ·exact hle b1 aa
   ·have h3:=BK (M-1)
    have:=Nat.mul_le_mul_left (2*(B+1)) h3
    omega
   ·exact absurd h hj
  refine⟨AU b2 b3 aa ht.2 aa (hX2 hB),?_⟩
  have hm:=(B7 b2 b3 aa ht.2 (show _<=M by omega)).1.cN qI
  exact kQ hm (hX2 hB)
 ·obtain⟨B,b1,b2⟩:=KU ta tb la lb ha hb
  have hi:i<(bN a b).1:=hi
  have hB:=hle b1 aa
  have:=hX2 hB
  have h1:B+1<=(M+1)*(B+1):=Nat.le_mul_of_pos_left _ aa
  exact(dF.sz b2 hi).more aa
theorem Cg {c:PP} (h:kG c):Bd (bz c) 162:=Bd.more (h.bd.cV (by have:=h.len;omega)) aa
theorem CG {c:PP}:(bz c).1<=c.1-1:=fK
theorem F5 {c:PP} (h:kG c) (h0:0<c.1):Bd (bN c (bz c)) 237653/\c.1-(bN c (bz c)).1<=6/\0<(bN c (bz c)).1/\(bN c (bz c)).1<=c.1:=by
 obtain⟨hh,f,s1,s2⟩:=h.sq
 have hl:=h.len
 obtain⟨l1,l2,l3⟩:=rm (a:=cz hh) (b:=cz f) (fun t=>by rw[s1.eq,eI,eI]) h0 h.tr fJ fJ
 have hd:Dv hh c:=⟨f,s1.eq⟩
 have hg:Dv (cz hh) (bN c (bz c)):=(wG hd s1.dv).imp fun w hw t=>by rw[hw,eI]
 have hl2:=hg.len (mh h0) (j9 h.tr eC) fJ
 have hd2:c.1-(bN c (bz c)).1<=6:=aa
 obtain⟨B,b1,b2⟩:=KU (M:=c.1) h.tr eC aX (Nat.le_trans CG aa) (h.bd.more (show 156<=162 by omega)) (Cg h)
 have h3:3^(c.1-(bN c (bz c)).1)<=3^6:=s7 hd2
 have h4:2*(162+1)*3^(c.1-(bN c (bz c)).1)<=2*(162+1)*3^6:=Nat.mul_le_mul_left _ h3
 exact⟨b2.more aa,hd2,mh h0,C9 h.tr⟩
theorem Eu {c:PP} (h:kG c) (h0:0<c.1):Bd (bg c) 1901232/\(bg c).1<=7:=by
 obtain⟨g1,g2,g3,g4⟩:=F5 h h0
 have hq:=(B7 (M:=7) (h.bd.more (show 156<=237653 by omega)) g1 g3 (j9 h.tr eC) aa).2.cN yz
 unfold bg
 rw[if_neg aa]
 refine⟨Bd.more hq aa,?_⟩
 show bO _ _<=7
 exact Nat.le_trans fK aa
theorem CE {c:PP} (h:kG c) (h0:0<c.1):CA c/\vJ c:=by
 have hW:=cP
 have hl:=h.len
 obtain⟨g1,g2,g3,g4⟩:=F5 h h0
 obtain⟨f1,f2⟩:=Eu h h0
 have hd:=AU (M:=7) (h.bd.more (show 156<=237653 by omega)) g1 g3 (j9 h.tr eC) aa aa
 have hf:cU (bg c).1 (bg c).2:=kQ f1 aa
 have hder:cU (c.1-1) (cV c.2):=kQ (Ak h.bd aa) aa
 have h13:2*((13+1)*(2*(162+1)*3^(13-1)))+2<=af:=by rw[hW];decide
 have b1:=h.bd.more (show 156<=162 by omega)
 have hdl:(bz c).1<=13:=Nat.le_trans CG aa
 refine⟨⟨aa,h.tr,hder,fun _=>⟨xW h.tr eC hl hdl aa b1 (Cg h) h13,hd,hf⟩⟩,⟨aa,aa,h.tr,hder,fun _=>⟨⟨kQ (b1.cN h.tr) aa,kQ ((Cg h).cN eC) aa,xW (mO h.tr) (mO eC) hl hdl aa (b1.cN h.tr) ((Cg h).cN eC) h13⟩,hd,hf⟩⟩⟩
theorem PI {c:PP} (h:kG c) (h0:0<c.1):∀j,j<=eo (eG c)->∃B,B+1<=2772006462/\Bd (bH (eG c) j).1 B/\Bd (bH (eG c) j).2 B/\(bH (eG c) j).1.1<=7/\(bH (eG c) j).2.1<(bH (eG c) j).1.1:=fun j hj=>by
 obtain⟨f1,f2⟩:=Eu h h0
 have hfp:0<(bg c).1:=by
  obtain⟨g1,g2,g3,g4⟩:=F5 h h0
  rcases Nat.eq_zero_or_pos (bg c).1 with h9|h9
  ·exfalso
   unfold bg at h9
   rw[if_neg aa]at h9
   have h9:(fE c (bN c (bz c))).1=0:=h9
   have h10:=fun t=>qo (a:=c) (d:=bN c (bz c)) g3 t
   have:=yT h.tr (b:=dj c (bN c (bz c))) (vi fun t=>by rw[h10,jl h9,Rat.zero_mul,Rat.zero_add])
   have:=oA (a:=c) g3 (j9 h.tr eC)
   omega
  ·exact h9
 have hfd:Bd (bz (bg c)) 1901238:=f1.cV aa
 have hdl:(bz (bg c)).1<=(bg c).1-1:=fK
 obtain⟨B,b1,b2,b3,b4,b5⟩:=Ap (a:=bg c) (b:=bz (bg c)) iI eC f2 aa (f1.more (show 1901232<=1901238 by omega)) hfd j hj
 have h3:3^(7-(bH (bg c,bz (bg c)) j).1.1)<=3^6:=s7 aa
 have h4:=Nat.mul_le_mul_left (2*(1901238+1)) h3
 exact⟨B,aa,b2,b3,b4,b5⟩
theorem Nf {c:PP} (h:kG c) (h0:0<c.1):A6 (eG c):=fun j hj=>by
 have hW:=cP
 obtain⟨B,b1,b2,b3,b4,b5⟩:=PI h h0 j aa
 have ht:=mU (s:=eG c) iI eC j
 have hn:=(lS (s:=eG c) iI eC).2.2 j hj
 refine⟨AU (M:=7) b2 b3 aa ht.2 aa aa,?_⟩
 have hr:=(B7 (M:=7) b2 b3 aa ht.2 aa).1.neg
 exact kQ hr aa
theorem B5 {c:PP} (h:kG c) (h0:0<c.1):kX c/\jJ c:=by
 have hW:=cP
 obtain⟨f1,f2⟩:=Eu h h0
 have hder:cU ((bg c).1-1) (cV (bg c).2):=kQ (Ak f1 aa) aa
 exact⟨⟨(CE h h0).1,hder,Nf h h0⟩,⟨(CE h h0).2,hder,Nf h h0⟩⟩
theorem C1 {c:PP} (h:kG c) (h0:0<c.1):aS c<=8:=by
 obtain⟨f1,f2⟩:=Eu h h0
 have:=(lS (s:=eG c) iI eC).1
 have h2:(eG c).2.1<=(bg c).1-1:=fK
 show eo (eG c)+1<=8
 omega
theorem afX {c:PP} (h:kG c) (h0:0<c.1) {i:Nat} (hi:i<aS c):Bd (aQ c i) 2772006461/\(aQ c i).1<=7:=by
 obtain⟨B,b1,b2,b3,b4,b5⟩:=PI h h0 i (by have hi:i<eo (eG c)+1:=hi;omega)
 exact⟨b2.more aa,b4⟩
theorem Ml {a:PP} {s τ:Nat} {T:Int} {t:Rat} (h:Bd a s) (ht:ct T τ t) (hT:T.natAbs<=2^τ) (hT0:T≠0) (hl:a.1<=7) (hs:2*(s+7*(τ+1))+2<=af):fF a t:=by
 obtain⟨D,d1,d2,d3⟩:=h
 intro m hm
 have h1:=EZ d3 ht hT m hm
 have h2:=nU d2 (A2 hT m)
 have h3:m*(τ+1)<=7*(τ+1):=Nat.mul_le_mul_right _ aa
 have h4:m*τ<=7*(τ+1):=Nat.mul_le_mul aa aa
 exact((h1.more (show s+m*(τ+1)<=s+7*(τ+1) by omega)).sz (Int.mul_ne_zero d1 (Int.pow_ne_zero hT0)) (Nat.le_trans h2 (Nat.pow_le_pow_right (by decide) (show s+m*τ<=s+7*(τ+1) by omega)))).more aa
theorem xd {c:PP} (h:kG c) (h0:0<c.1) {τ:Nat} {T:Int} {t:Rat} (ht:ct T τ t) (hT:T.natAbs<=2^τ) (hT0:T≠0) (hs:τ<=2^31):cj (aS c) (aQ c) t:=fun i hi=>by
 have hW:=cP
 obtain⟨b1,b2⟩:=afX h h0 hi
 exact⟨aa,Ml b1 ht hT hT0 b2 aa⟩
abbrev qE (n:Nat) (z:Nat->Int) (a:Int):aA:=kZ n (fun i=>.int .i64 (z i)) a
structure xK where
 k:Nat->Rat
 t:Rat
 a:Int
def Jg (n:Nat) (f:Nat->AV) (t:Rat) (a:Int):Rat:=t+((1+dm n f a 3:Int):Rat)/((1+dm n f (bV n a) 2:Int):Rat)
def QD (n:Nat) (f:Nat->AV) (p j:Nat) (s:xK):xK:=
 if j=0\/0<dm n f s.a 3\/s.t=s.k (j+1)then
  ⟨zT s.k (p+1+j) (Jg n f s.t (if j=0 then s.a else bV n s.a)),Jg n f s.t (if j=0 then s.a else bV n s.a),bV n (bV n (if j=0 then s.a else bV n s.a))⟩
 else⟨zT s.k (p+1+j) s.t,s.t,if j=0 then s.a else bV n s.a⟩
def u9 (n:Nat) (f:Nat->AV) (p:Nat) (s0:xK):Nat->xK
 |0=>s0
 |j+1=>QD n f p j (u9 n f p s0 j)
def yC (n:Nat) (f:Nat->AV) (a:Int):xK:=⟨fun _=>((dm n f a 4-2:Int):Rat),((dm n f a 4-2:Int):Rat),bV n (bV n a)⟩
def knJ (n:Nat) (f:Nat->AV) (a:Int) (m:Nat):Nat:=(dm n f (bV n a) (m+1)).toNat
def knE (n:Nat) (f:Nat->AV) (a:Int) (p m:Nat):xK:=u9 n f p (yC n f a) (knJ n f a m)
def knA (n:Nat) (f:Nat->AV) (a:Int) (p m:Nat):Int:=(knE n f a p m).a
theorem Qm {n:Nat} {f:Nat->AV} {a:Int} {p:Nat} (hd:dL n f a) (hp:1<=p):∀j,KG p j (u9 n f p (yC n f a) j).k (u9 n f p (yC n f a) j).t/\dL n f (u9 n f p (yC n f a) j).a
 |0=>by
  have h1:=kj (n:=n) (f:=f) (a:=a) (m:=4) aa
  have h2:=ko (n:=n) (f:=f) (a:=a) (m:=4) aa
  exact⟨KG.start hp aa aa,hd.next.next⟩
 |j+1=>by
  obtain⟨h1,h2⟩:=Qm hd hp j
  unfold u9 QD Jg
  generalize u9 n f p (yC n f a) j=s at*
  obtain⟨k,t,b⟩:=s
  simp only at h1 h2 ⊢
  have hb:dL n f (if j=0 then b else bV n b):=by split;exact h2;exact h2.next
  generalize (if j=0 then b else bV n b)=a1 at*
  split
  ·have x1:=kj (n:=n) (f:=f) (a:=a1) (m:=3) aa
   have x2:=ko (n:=n) (f:=f) (a:=a1) (m:=3) aa
   have y1:=kj (n:=n) (f:=f) (a:=bV n a1) (m:=2) aa
   have y2:=ko (n:=n) (f:=f) (a:=bV n a1) (m:=2) aa
   refine⟨h1.next (.inl ?_),hb.next.next⟩
   generalize dm n f a1 3=x at*
   generalize dm n f (bV n a1) 2=y at*
   have key:∃z:Int,((1+x:Int):Rat)/((1+y:Int):Rat)=(z:Rat)/2/\1<=z/\z<=6:=by
    rcases(show y=0\/y=1 by omega)with h|h
    ·subst h
     refine⟨2*(1+x),?_,aa,aa⟩
     have:((2*(1+x):Int):Rat)=2*((1+x:Int):Rat):=by simp
     rw[this]
     generalize ((1+x:Int):Rat)=w
     simp;grind
    ·subst h
     exact⟨1+x,by simp,aa,aa⟩
   obtain⟨z,e,z1,z2⟩:=key
   rw[e]
   refine⟨?_,z,rfl,z2⟩
   have:(1:Rat)<=(z:Rat):=by exact_mod_cast z1
   grind
  ·rename_i hc
   have hc1:¬j=0:=fun h=>hc (.inl h)
   have hc2:¬t=k (j+1):=fun h=>hc (.inr (.inr h))
   exact⟨h1.next (.inr ⟨rfl,aa,hc2⟩),hb⟩
theorem abJ {z:Int} (h1:-2^63<=z) (h2:z<2^63):Sz ((z:Rat)/2) 64:=by
 have:=Q6 h1 h2 (y:=2) aa aa aa
 simpa using this
theorem KG.sz {p j:Nat} {k:Nat->Rat} {t:Rat} (h:KG p j k t) (hj:j<2^50):Sz t 64:=by
 obtain⟨z,e,h1,h2⟩:=h.half (p+j) aX
 rw[h.top]at e
 rw[e]
 exact abJ aa aa
open Go Go.Am.N AV Proofs.Tryz
structure Cu where
 p:Int
 n:Nat
 k:Nat->Rat
 m:Nat
 f:Nat->Pl
open Go Go.Am.N AV ag au IntKind Proofs.Tryz
def afV (n:Nat) (f:Nat->AV) (a:Int):Int:=bV n (QO n f a)
def JO (n:Nat) (f:Nat->AV) (a:Int):Nat->Int
 |0=>a
 |j+1=>afV n f (JO n f a j)
theorem dL.Hj {n:Nat} {f:Nat->AV} {a:Int} (h:dL n f a):∀j,dL n f (JO n f a j)
 |0=>h
 |j+1=>(h.Hj j).aa6.next
theorem dL.oZ {n:Nat} {f:Nat->AV} {a:Int} {p m:Nat} (h:dL n f a) (hp:1<=p):dL n f (knA n f a p m):=(Qm h hp _).2
def qL:bE:=zG::(91,Cw)::(93,jU kR kR yA pW)::iH
abbrev Ch:Code:=aK f31
abbrev yb:Code:=part Ch [1,1,1,1,0,1,0,0]
abbrev Ag:Code:=part yb [1,0,0]
abbrev uf:Code:=part Ch [1,1,1,1,1]
abbrev uH:List Nat:=[0,1,6,7,8,9]
abbrev Ea (m n:Nat) (p q:Nat->Rat) (i:Nat):List AV:=[bG p (m+1) af,bG q (n+1) af,.int .i64 m,.int .i64 n,.own 0 3 0 (m+n+1),.int .i64 i]
abbrev yt:List Nat:=[0,1,6,7,8,9,10]
abbrev Jp (m n:Nat) (p q:Nat->Rat) (i j:Nat):List AV:=[bG p (m+1) af,bG q (n+1) af,.int .i64 m,.int .i64 n,.own 0 3 0 (m+n+1),.int .i64 i,.int .i64 j]
abbrev A3:List Nat:=[6,7,8,12]
abbrev Gc (m n k:Nat):List AV:=[.int .i64 m,.int .i64 n,.own 0 3 0 (m+n+1),.int .i64 k]
abbrev pq (m n:Nat) (x:Nat->Rat):aI:=[(0,cI (m+n+1) x af)]
theorem Mj:bu 31 f31:=bC func31
theorem Z8 {m n:Nat} {p q:Nat->Rat}:aL T qL [200022] 60 uH (before Ch [1,1,1,1,0,1]) ⟨aZ 0 [bG p (m+1) af,bG q (n+1) af],[],0⟩=
  let f:=(↑(m+1):Int)-1;let e:=(↑(n+1):Int)-1;let a:=(2:Int)^63;let d:=f+e;let b:=d+1;some (aj [-a<=f/\f<a,-a<=e/\e<a] (aj [-a<=d/\d<a] (aj [decide (d>40)=false] (aj [-a<=d/\d<a,-a<=b/\b<a,(0:Int)<=b/\b<=b/\b<=2^47/\b*(↑(56:Nat):Int)<=2^47] (leaf normal ([aq 3 (m+1) fun i=>rat (p i) af,aq 3 (n+1) fun i=>rat (q i) af,int i64 f,int i64 e,own 73728 3 0 b.toNat,int i64 0],[(73728,aA.mk true true 3 b.toNat fun x=>rat 0 1)])))))):=ah
theorem WG {m n i:Nat} {p q x:Nat->Rat}:aL T qL [30] 60 uH (before yb [1,0]) ⟨aH uH (Ea m n p q i),pq m n x,1⟩=
  let a:List AV×aI:=([aq 3 (m+1) fun i=>rat (p i) af,aq 3 (n+1) fun i=>rat (q i) af,int i64 (↑m:Int),int i64 (↑n:Int),own 0 3 0 (m+n+1),int i64 (↑i:Int)],[(0,aA.mk true true 3 (m+n+1) fun i=>rat (x i) af)]);some (fork (decide ((↑i:Int)<=(↑m:Int))) (leaf normal a) (leaf (exit 0) a)):=ah
theorem acI {m n i:Nat} {p q x:Nat->Rat}:aL T qL [] 60 yt (before Ag [1]) ⟨aH uH (Ea m n p q i),pq m n x,1⟩=
  some (leaf normal ([aq 3 (m+1) fun i=>rat (p i) af,aq 3 (n+1) fun i=>rat (q i) af,int i64 (↑m:Int),int i64 (↑n:Int),own 0 3 0 (m+n+1),int i64 (↑i:Int),int i64 0],[(0,aA.mk true true 3 (m+n+1) fun i=>rat (x i) af)])):=ah
theorem adb {m n i j:Nat} {p q x:Nat->Rat}:aL T qL [35] 60 yt [part Ag [1,0,0]] ⟨aH yt (Jp m n p q i j),pq m n x,1⟩=
  let b:=(↑m:Int);let h:=64+64;let a:=(↑n:Int);let e:=(↑i:Int);let v:=aq 3 (n+1) fun i=>rat (q i) af;let u:=aq 3 (m+1) fun i=>rat (p i) af;let d:=(↑j:Int);let o:=(2:Int)^63;let l:=m+n+1;let f:=2^41;let k:=d+1;let r:=own 0 3 0 l;let g:=e+d;let s:=(0:Int)<=g/\g.toNat<l;let t:=g.toNat+0;some (fork (decide (d<=a)) (aj [(0:Int)<=e,e<=b,b<=40,(0:Int)<=d,d<=a,a<=40,(64:Nat)<f,(64:Nat)<f,(0:Nat)<1] (aj [-o<=g/\g<o,-o<=g/\g<o,s,t<l,(0:Nat)<1,(0:Int)<=e/\e.toNat<m+1,(0:Int)<=d/\d.toNat<n+1,af<f,af<f,h<f,af+af<f,af<f,h+(af+af)<f,s,t<l] (aj [-o<=k/\k<o] (leaf normal ([u,v,int i64 b,int i64 a,r,int i64 e,int i64 k],[(0,aA.mk true true 3 l fun j=>rat (bif j==t then x t+(↑(↑(bn b.toNat e.toNat):Int):Rat)*(↑(↑(bn a.toNat d.toNat):Int):Rat)*(p e.toNat*q d.toNat)else x j) (bif j==t then af+(h+(af+af))+1 else af))]))))) (leaf (exit 2) ([u,v,int i64 b,int i64 a,r,int i64 e,int i64 d],[(0,aA.mk true true 3 l fun i=>rat (x i) af)]))):=ah
theorem YA {m n i j:Nat} {p q x:Nat->Rat}:aL T qL [] 60 uH (behind Ag [1]++[part yb [1,1]]) ⟨aH yt (Jp m n p q i j),pq m n x,1⟩=
  let a:=(↑i:Int)+1;some (aj [-(2:Int)^63<=a/\a<2^63] (leaf normal ([aq 3 (m+1) fun i=>rat (p i) af,aq 3 (n+1) fun i=>rat (q i) af,int i64 (↑m:Int),int i64 (↑n:Int),own 0 3 0 (m+n+1),int i64 a],[(0,aA.mk true true 3 (m+n+1) fun i=>rat (x i) af)]))):=ah
theorem agF {m n i:Nat} {p q x:Nat->Rat}:aL T qL [] 60 A3 (before uf [0,1]) ⟨aH uH (Ea m n p q i),pq m n x,1⟩=
  some (leaf normal ([int i64 (↑m:Int),int i64 (↑n:Int),own 0 3 0 (m+n+1),int i64 0],[(0,aA.mk true true 3 (m+n+1) fun i=>rat (x i) af)])):=ah
theorem acr {m n k:Nat} {x:Nat->Rat}:aL T qL [72] 60 A3 [part uf [0,1,0,0]] ⟨aH A3 (Gc m n k),pq m n x,1⟩=
  let e:=(2:Int)^63;let d:=m+n+1;let a:=(↑k:Int);let b:=(↑m:Int)+(↑n:Int);let g:=a+1;let l:=(0:Int)<=a/\a.toNat<d;let h:=own 0 3 0 d;let f:=a.toNat+0;some (aj [-e<=b/\b<e] (fork (decide (a<=b)) (aj [l,f<d,-e<=b/\b<e,(0:Int)<=a,a<=b,b<=40,af<2^41,(64:Nat)<2^41,l,f<d] (aj [-e<=g/\g<e] (leaf normal ([int i64 (↑m:Int),int i64 (↑n:Int),h,int i64 g],[(0,aA.mk true true 3 d fun j=>rat (bif j==f then x f/(↑(↑(bn b.toNat a.toNat):Int):Rat)else x j) (bif j==f then af+64 else af))])))) (leaf (exit 4) ([int i64 (↑m:Int),int i64 (↑n:Int),h,int i64 a],[(0,aA.mk true true 3 d fun i=>rat (x i) af)])))):=ah
theorem Tk {m n k:Nat} {x:Nat->Rat}:dc T qL [] 60 f31 [part uf [1]] ⟨aH A3 (Gc m n k),pq m n x,1⟩=
  some (leaf ret [aq 3 (m+n+1) fun i=>rat (x (i+0)) af,int i64 0]):=ah
theorem GP:bY P qL:=iu (aM HH (aM (jX fun _ _ K hn=>BN hn.1 hn.2 K) iE))
def mz (m n:Nat) (p q:Nat->Rat) (i j k:Nat):Rat:=sg (fun i=>sg (fun j=>if i+j=k then bq m i*p i*(bq n j*q j)else 0) (n+1)) i+sg (fun j=>if i+j=k then bq m i*p i*(bq n j*q j)else 0) j
theorem agE {m n i k:Nat} {p q:Nat->Rat}:mz m n p q i (n+1) k=mz m n p q (i+1) 0 k:=(Rat.add_zero _).symm
theorem ago {m n i j:Nat} {p q:Nat->Rat}:mz m n p q i j (i+j)+bq m i*bq n j*(p i*q j)=mz m n p q i (j+1) (i+j):=by
 unfold mz
 show _=_+(sg _ j+(if i+j=i+j then bq m i*p i*(bq n j*q j)else 0))
 rw[if_pos rfl];grind
theorem aby {m n i j k:Nat} {p q:Nat->Rat} (h:k≠i+j):mz m n p q i j k=mz m n p q i (j+1) k:=by
 unfold mz
 show _=_+(sg _ j+(if i+j=k then bq m i*p i*(bq n j*q j)else 0))
 rw[if_neg (fun e=>h e.symm),Rat.add_zero]
theorem ajP {m n k:Nat} {p q:Nat->Rat}:mz m n p q (m+1) 0 k/bq (m+n) k=kY m n p q k:=by
 unfold kY
 rw[show mz m n p q (m+1) 0 k=kM m n (fun i=>bq m i*p i) (fun j=>bq n j*q j) k from Rat.add_zero _]
def qT (m n:Nat) (p q:Nat->Rat) (k t:Nat):Rat:=if t<k then kY m n p q t else mz m n p q (m+1) 0 t
theorem ER {m n k t:Nat} {p q:Nat->Rat} (h:t<k):qT m n p q k t=kY m n p q t:=if_pos h
theorem ack {m n k:Nat} {p q:Nat->Rat}:qT m n p q k k/bq (m+n) k=qT m n p q (k+1) k:=by
 rw[ER (Nat.lt_succ_self _)];unfold qT;rw[if_neg (Nat.lt_irrefl _)];exact ajP
theorem aiD {m n k t:Nat} {p q:Nat->Rat} (h:t≠k):qT m n p q k t=qT m n p q (k+1) t:=by
 unfold qT
 by_cases h3:t<k
 ·rw[if_pos h3,if_pos aa]
 ·rw[if_neg h3,if_neg aa]
def Cf (m n:Nat) (p q:Nat->Rat):Prop:=(∀i j k,i<=m+1->j<=n+1->k<m+n+1->Sz (mz m n p q i j k) af)/\∀k,k<m+n+1->Sz (kY m n p q k) af
theorem Wx {m n:Nat} {p q:Nat->Rat} (hmn:m+n<=40) (hz:Cf m n p q) (K:Nat):aW P 31 K [bG p (m+1) af,bG q (n+1) af] [] (aO (.tuple [bG (kY m n p q) (m+n+1) af,.int .i64 0]) []):=by
 refine jj (r:=aO (.tuple [bG (kY m n p q) (m+n+1) af,.int .i64 0]) []) hT Mj rfl bh rfl (fun _ cx h0=>?_) K []
 have hk:=nr h0
 have hW:=cP
 refine az.rI hT GP hm (x:=Ch) [1,1,1,1,0,1] (i:=0) (y:=yb) (z:=uf) ah ah ah Mj.dst [1,0] (j:=1) (x1:=Ag) (zb:=part yb [1,1]) ah ah ah [1] (i2:=2) (y2:=part Ag [1,0,0]) ah ah rfl hk
  (f1:=[200022]) (f2:=[30]) (f3:=[]) (f4:=[35]) (f5:=[]) 60 uH yt 1 1 (fun i:Nat=>Ea m n p q i) (fun i=>pq m n (mz m n p q i 0)) (fun i=>i<=m+1) (fun i=>i=m+1) (fun i=>m+1-i) (fun i=>i<m+1) (fun _=>False) (fun _=>False)
  (fun i (j:Nat)=>Jp m n p q i j) (fun i j=>pq m n (mz m n p q i j)) (fun _ j=>j<=n+1) (fun _ j=>j=n+1) (fun _ j=>n+1-j)
  ⟨_,Z8,?_⟩ (fun i hi=>⟨_,WG,?_⟩) (fun i hi hG=>⟨_,acI,?_⟩) (fun i hi hG j hj=>⟨_,adb,?_⟩) (fun i hi hG j hj=>⟨_,YA,?_⟩) (fun i hi=>?_) (fun _ _ h=>h.elim) (fun _ _ h=>h.elim)
 ·have e1:((m+1:Nat):Int)-1=(m:Nat):=aa
  have e2:((n+1:Nat):Int)-1=(n:Nat):=aa
  have e3:((m:Int)+(n:Int)+1).toNat=m+n+1:=aa
  simp only[ag.all,aC,e1,e2,e3,bR]
  exact⟨aa,aa,aa,aa,0,Nat.zero_le _,[(0,73728)],rfl,rfl,rfl,bF rfl rfl rfl (fun k hk=>.inr ⟨rfl,dG (by show(0:Rat)=0+0;rw[Rat.add_zero]) aa⟩) trivial⟩
 ·simp only[ag.all,aC,bI,bR]
  exact⟨fun h=>⟨aa,[(0,0)],rfl,rfl,rfl,bF rfl rfl rfl (fun i hi=>bT rfl rfl) trivial⟩,fun h=>⟨rfl,i,aa,[(0,0)],rfl,rfl,rfl,bF rfl rfl rfl (fun i hi=>bT rfl rfl) trivial⟩⟩
 ·simp only[ag.all,aC]
  exact⟨0,Nat.zero_le _,[(0,0)],rfl,rfl,rfl,bF rfl rfl rfl (fun i hi=>bT rfl rfl) trivial⟩
 ·have e1:((i:Int)+(j:Int)).toNat=i+j:=aa
  simp only[ag.all,aC,e1,bI,bR,bS,Nat.add_zero]
  refine⟨fun h=>⟨⟨aa,aa,aa,aa,aa,aa,aa,aa,aa⟩,⟨aa,aa,aa,aa,aa,aa,aa,aa,aa,aa,aa,aa,aa,aa,aa⟩,aa,j+1,aa,by dsimp only;omega,[(0,0)],rfl,by rw[show(j:Int)+1=((j+1:Nat):Int) by omega];rfl,rfl,bF rfl rfl rfl (fun k hk=>nS (eM ago (hz.1 i (j+1) _ aa aa aa)) fun hne=>dG (aby hne) aX) trivial⟩,
   fun h=>⟨rfl,j,aa,[(0,0)],rfl,rfl,rfl,bF rfl rfl rfl (fun i hi=>bT rfl rfl) trivial⟩⟩
 ·subst hj
  simp only[ag.all,aC]
  exact⟨aa,i+1,aa,by dsimp only;omega,[(0,0)],rfl,by rw[show(i:Int)+1=((i+1:Nat):Int) by omega];rfl,rfl,bF rfl rfl rfl (fun k hk=>bT rfl (by rw[agE])) trivial⟩
 ·subst hi
  refine az.qZ hT GP hm (x:=uf) [0,1] (i:=4) (y:=part uf [0,1,0,0]) (z:=part uf [1]) ah ah ah ah hk (f1:=[]) (f2:=[72]) 60 A3 1 (fun k:Nat=>Gc m n k) (fun k=>pq m n (qT m n p q k))
   (fun k=>k<=m+n+1) (fun k=>k=m+n+1) (fun k=>m+n+1-k) (fun _=>False) ⟨_,agF,?_⟩ (fun k hk=>⟨_,acr,?_⟩) (fun k hk=>?_) (fun _ _ h=>h.elim)
  ·simp only[ag.all,aC]
   exact⟨0,Nat.zero_le _,[(0,0)],rfl,rfl,rfl,bF rfl rfl rfl (fun i hi=>bT rfl rfl) trivial⟩
  ·have e1:((m:Int)+(n:Int)).toNat=m+n:=aa
   simp only[ag.all,aC,e1,bI,bR,bS,Nat.add_zero]
   refine⟨aa,fun h=>⟨⟨aa,aa,aa,aa,aa,aa,aa,aa,aa,aa⟩,aa,k+1,aa,by dsimp only;omega,[(0,0)],rfl,by rw[show(k:Int)+1=((k+1:Nat):Int) by omega];rfl,rfl,bF rfl rfl rfl (fun t ht=>nS (y:=qT m n p q (k+1)) (eM ack (by rw[ER (Nat.lt_succ_self _)];exact hz.2 k aa)) fun hne=>dG (aiD hne) aX) trivial⟩,
    fun h=>⟨rfl,k,aa,[(0,0)],rfl,rfl,rfl,bF rfl rfl rfl (fun i hi=>bT rfl rfl) trivial⟩⟩
  ·subst hk
   refine az.nR ((aJ.fin hT GP hm 60 Tk ah ?_).mono fun _ _ h=>.inl h)
   exact⟨jk fun i hi=>dG (by rw[Nat.add_zero];exact ER hi) aX,.refl _,trivial⟩
def Km:Spec:=ef (kC (kL af) (kC (kL af) kN)) (fun a=>.tuple [bG (kY (a.1.1-1) (a.2.1.1-1) a.1.2 a.2.1.2) (a.1.1-1+(a.2.1.1-1)+1) af,.int .i64 0]) fun a=>[1<=a.1.1,1<=a.2.1.1,a.1.1+a.2.1.1<=42,Cf (a.1.1-1) (a.2.1.1-1) a.1.2 a.2.1.2]
theorem ZW:bp P Km 31:=dy fun⟨⟨m,p⟩,⟨n,q⟩,_⟩ K hn=>by
 obtain⟨h1,h2,h3,h4⟩:=hn
 have h1:1<=m:=h1
 have h2:1<=n:=h2
 have h3:m+n<=42:=h3
 obtain⟨m,rfl⟩:∃x,m=x+1:=⟨m-1,aa⟩
 obtain⟨n,rfl⟩:∃x,n=x+1:=⟨n-1,aa⟩
 exact Wx aa h4 K
def CF:bE:=nG::(44,lH yH)::(87,lH DC)::[]
abbrev yX:Code:=aK f28
abbrev Bb:List Nat:=[0,5,6]
abbrev Es (j:Nat) (t:Int):List AV:=[.ptr 0 0 2 0 [],.own 1 3 0 j,.int .i64 t]
abbrev HI (n:Nat) (z:Nat->Int) (a:Int) (k:Nat->Rat) (j:Nat):aI:=[(1,cI j k 64),(0,qE n z a)]
def Cy:bE:=nG::(96,Lh)::iH
abbrev Af:Code:=aK f55
abbrev AF:List Nat:=[0,3,4]
abbrev Ho (n:Nat) (z:Nat->Int) (i:Nat):List AV:=[.aq 1 n fun i=>.int .i64 (z i),.own 0 3 0 i,.int .i64 i]
theorem Pt:bu 28 f28:=bC func28
theorem afb:bu 55 f55:=bC func55
theorem abE {n:Nat} {z:Nat->Int} {a d:Int}:aL T CF [] 60 Bb (before yX [1,1,0,1]) ⟨aZ 0 [.ptr 0 0 2 0 [],.int .i64 d],[(0,qE n z a)],1⟩=
  let b:=d+1;some (aj [-(2:Int)^63<=b/\b<2^63,dL n (fun i=>int i64 (z i)) a,(0:Int)<b,b<2^62] (leaf normal ([ptr 0 0 2 0 [],nil,int i64 (dm n (fun i=>int i64 (z i)) a b)],[(0,aA.mk false true 2 1 fun x=>agg [aq 1 n fun i=>int i64 (z i),int i64 (bV n a)])]))):=ah
theorem akC {n j:Nat} {z:Nat->Int} {a t:Int} {k:Nat->Rat}:aL T CF [12] 60 Bb [part yX [1,1,0,1,0,0]] ⟨aH Bb (Es j t),HI n z a k j,2⟩=
  let d:=aq 1 n fun i=>int i64 (z i);let b:=ptr 0 0 2 0 [];some (fork (decide (t>=0)) (aj [dL n (fun i=>int i64 (z i)) a,(1:Nat)*3<=2^24,(j+1)*((56:Nat)+1)*2<=2^47] (aj [-(2:Int)^63<=t-1/\t-1<(2:Int)^63] (leaf normal ([b,own 24578 3 0 (j+1),int i64 (t-1)],[(24578,aA.mk true true 3 (j+1) fun i=>if i<j then rat (k i) 64 else nth [rat (ku n (fun i=>int i64 (z i)) a) 64] (rat 0 1) (i-j+0)),(0,aA.mk false true 2 1 fun x=>agg [d,int i64 (jO n (fun i=>int i64 (z i)) a)])])))) (leaf (exit 0) ([b,own 1 3 0 j,int i64 t],[(1,aA.mk true true 3 j fun i=>rat (k i) 64),(0,aA.mk false true 2 1 fun x=>agg [d,int i64 a])]))):=ah
theorem Zr {n j:Nat} {z:Nat->Int} {a t:Int} {k:Nat->Rat}:BD T CF [] 60 f28 [part yX [1,1,1]] ⟨aH Bb (Es j t),HI n z a k j,2⟩=
  some (leaf ret ([aq 3 j fun i=>rat (k (i+0)) 64],some (aA.mk false true 2 1 fun x=>agg [aq 1 n fun i=>int i64 (z i),int i64 a]))):=ah
theorem ajn {n:Nat} {z:Nat->Int}:aL T Cy [] 60 AF (before Af [1,1,0,1]) ⟨aZ 0 [.aq 1 n fun i=>.int .i64 (z i)],[],0⟩=
  some (leaf normal ([aq 1 n fun i=>int i64 (z i),nil,int i64 0],[])):=ah
theorem acj {n i:Nat} {z:Nat->Int} {k:Nat->Rat}:aL T Cy [10] 60 AF [part Af [1,1,0,1,0,0]] ⟨aH AF (Ho n z i),[(0,cI i k 64)],1⟩=
  let f:=aq 1 n fun i=>int i64 (z i);let b:=(2:Int)^63;let a:=(↑i:Int);let d:=z a.toNat;let e:=a+1;some (fork (decide (a<(↑n:Int))) (aj [(0:Int)<=a/\a.toNat<n,-b<=d,d<b,(1:Nat)*3<=2^24,(i+1)*((56:Nat)+1)*2<=2^47] (aj [-b<=e/\e<b] (leaf normal ([f,own 45057 3 0 (i+1),int i64 e],[(45057,aA.mk true true 3 (i+1) fun i_1=>if i_1<i then rat (k i_1) 64 else nth [rat (↑d:Rat) (Max.max 1 (ck d.natAbs))] (rat 0 1) (i_1-i+0))])))) (leaf (exit 0) ([f,own 0 3 0 i,int i64 a],[(0,aA.mk true true 3 i fun i=>rat (k i) 64)]))):=ah
theorem Y6 {n i:Nat} {z:Nat->Int} {k:Nat->Rat}:dc T Cy [] 60 f55 [part Af [1,1,1]] ⟨aH AF (Ho n z i),[(0,cI i k 64)],1⟩=
  some (aj [cL (fun i=>.rat (k (i+0)) 64) i af,(1:Nat)<=i,i<=41,ki i fun i=>aN (.rat (k (i+0)) 64)] (leaf ret [bG (gE i fun i=>aN (.rat (k (i+0)) 64)) i af])):=ah
theorem J7 {rl:List (Nat×Nat)} {l i s s' s2:Nat} {x y:Nat->Rat} {t:Rat} {z:AV} (hx:∀i,i<l->x i=y i) (ht:bf (.rat t s') (.rat (y l) s2)) (h1:s<=s2) (hi:i<l+1):oy rl (if i<l then .rat (x i) s else nth [.rat t s'] z (i-l+0)) (.rat (y i) s2):=by
 by_cases h:i<l
 ·rw[if_pos h,hx i h];exact .inr ⟨rfl,dG rfl h1⟩
 ·obtain rfl:i=l:=aa
  rw[if_neg h,Nat.sub_self]
  exact .inr ⟨rfl,ht⟩
def zQ (n:Nat) (f:Nat->AV) (a:Int):Nat->Int
 |0=>a
 |j+1=>jO n f (zQ n f a j)
theorem dL.numbers {n:Nat} {f:Nat->AV} {a:Int} (h:dL n f a):∀j,dL n f (zQ n f a j)
 |0=>h
 |j+1=>(h.numbers j).number
def sI (n:Nat) (f:Nat->AV) (a d:Int):Nat:=(dm n f a (d+1)).toNat+1
def tK (n:Nat) (f:Nat->AV) (a:Int) (i:Nat):Rat:=ku n f (zQ n f (bV n a) i)
def uL (n:Nat) (f:Nat->AV) (a d:Int):Int:=zQ n f (bV n a) (sI n f a d)
def Ig (n:Nat) (f:Nat->AV) (a:Int) (l:List AV):Option (AV×Int×List Prop):=match l with
 |[.int .i64 d]=>some (bG (tK n f a) (sI n f a d) 64,uL n f a d,[0<=d,d<900])
 |_=>none
theorem LJ:bY P CF:=gM (aM Jk (aM MR cJ))
theorem ahV {k n:Nat} {z:Nat->Int} {a d:Int} {o:aA} (ho:∀ρ,eA ρ o (qE n z a)) (h:dL n (fun i=>.int .i64 (z i)) a) (hd1:0<=d) (hd2:d<900) (K:Nat):
  aW P 28 K [.ptr k 0 2 0 [],.int .i64 d] [(k,o)] ⟨bG (tK n (fun i=>.int .i64 (z i)) a) (sI n (fun i=>.int .i64 (z i)) a d) 64,[(k,qE n z (uL n (fun i=>.int .i64 (z i)) a d))],[]⟩:=by
 refine Kz hT Pt rfl rfl bh ho (fun _ c hk=>?_) K
 have a1:=kj (n:=n) (f:=fun i=>.int .i64 (z i)) (a:=a) (m:=d+1) aa
 have a2:=ko (n:=n) (f:=fun i=>.int .i64 (z i)) (a:=a) (m:=d+1) aa
 unfold uL
 obtain⟨N,hN⟩:∃N,N=sI n (fun i=>.int .i64 (z i)) a d:=⟨_,rfl⟩
 have hN2:dm n (fun i=>.int .i64 (z i)) a (d+1)=(N:Int)-1:=by rw[hN];unfold sI;omega
 rw[<-hN]
 refine az.qZ hT LJ hm [1,1,0,1] (i:=0) (y:=part yX [1,1,0,1,0,0]) (z:=part yX [1,1,1]) ah ah ah Pt.dst hk (f1:=[]) (f2:=[12]) 60 Bb 2 (fun j:Nat=>Es j ((N:Int)-1-j))
  (fun j=>HI n z (zQ n (fun i=>.int .i64 (z i)) (bV n a) j) (tK n (fun i=>.int .i64 (z i)) a) j) (fun j=>j<=N) (fun j=>j=N) (fun j=>N-j) (fun _=>False) ⟨_,abE,?_⟩ (fun j hj=>⟨_,akC,?_⟩) (fun j hj=>?_) (fun _ _ h=>h.elim)
 ·simp only[ag.all,aC,hN2]
  exact⟨⟨aa,h,aa,aa⟩,0,Nat.zero_le _,[(0,0)],rfl,by show _=List.map (mD [(0,0)]) (Es 0 ((N:Int)-1-((0:Nat):Int)));rw[show(N:Int)-1-((0:Nat):Int)=N-1 by omega];rfl,rfl,l6 rfl aa aa (dD trivial)⟩
 ·simp only[ag.all,aC,bI,bR]
  refine⟨fun h2=>⟨⟨h.next.numbers j,aa,aa⟩,aa,j+1,aa,by dsimp only;omega,[(0,0),(1,24578)],rfl,by rw[show(N:Int)-1-(j:Int)-1=(N:Int)-1-((j+1:Nat):Int) by omega];rfl,rfl,
   bF rfl rfl rfl (fun i hi=>J7 (fun _ _=>rfl) (.refl _) aX hi) (dD trivial)⟩,
   fun h2=>⟨rfl,j,aa,[(0,0),(1,1)],rfl,rfl,rfl,oM (dD trivial)⟩⟩
 ·subst hj
  refine az.nR (aJ.Pc hT LJ hm 60 Zr ah ?_)
  simp only[ag.all,aC]
  exact⟨.refl _,_,rfl,rfl,uo rfl rfl⟩
theorem aa2:bp P (lH Ig) 28:=by
 refine Az fun {k n z a l v b q o} K hg ho hd hq=>?_
 unfold Ig at hg
 split at hg
 ·rename_i d
  simp only[aB,Prod.mk.injEq]at hg
  obtain⟨rfl,rfl,rfl⟩:=hg
  exact ahV ho hd hq.1 hq.2 K
 ·simp at hg
theorem ahd:bY P Cy:=gM (aM Zc iE)
def fz (z:Nat->Int) (i:Nat):Rat:=(z i:Int)
theorem Iv {n:Nat} {z:Nat->Int} (h1:1<=n) (h2:n<=41) (hz:∀i,i<n->-2^62<=z i/\z i<2^62) (hf:ki n (fz z)) (K:Nat):aW P 55 K [.aq 1 n fun i=>.int .i64 (z i)] [] (aO (bG (gE n (fz z)) n af) []):=by
 have hW:=cP
 refine jA (r:=aO (bG (gE n (fz z)) n af) []) hT ahd hm afb rfl bh rfl [1,1,0,1] (i:=0) (y:=part Af [1,1,0,1,0,0]) (z:=part Af [1,1,1]) ah ah ah (f1:=[]) (f2:=[10]) (f3:=[]) 60 AF 1
  (fun i:Nat=>Ho n z i) (fun i=>[(0,cI i (fz z) 64)]) (fun i=>i<=n) (fun i=>i=n) (fun i=>n-i) (fun _=>⟨⟨_,ajn,?_⟩,fun i hi=>⟨_,acj,?_⟩,fun i hi=>⟨_,Y6,?_⟩⟩) K []
 ·simp only[ag.all,aC]
  exact⟨0,Nat.zero_le _,[],rfl,rfl,rfl,l6 rfl aa aa trivial⟩
 ·simp only[ag.all,aC,bI,bR,bS]
  refine⟨fun h=>⟨⟨aa,by have:=hz i aa;omega,by have:=hz i aa;omega,aa,aa⟩,aa,i+1,aa,by dsimp only;omega,[(0,45057)],rfl,by rw[show(i:Int)+1=((i+1:Nat):Int) by omega];rfl,rfl,bF rfl rfl rfl (fun j hj=>J7 (fun _ _=>rfl) (eM rfl (AG (y:=0) (by have:=hz i aa;omega) (by have:=hz i aa;omega))) aX hj) trivial⟩,
   fun h=>⟨rfl,i,aa,[(0,0)],rfl,rfl,rfl,oM trivial⟩⟩
 ·subst hi
  simp only[ag.all,aC]
  exact⟨⟨eO aa,h1,h2,hf⟩,.refl _⟩
def OV:Spec:=cD fun l=>match l with
 |[.aq 1 n f]=>some (aO (bG (gE n (fz fun i=>intOf (f i))) n af) [1<=n,n<=41,∀i,i<n->f i=.int .i64 (intOf (f i)),∀i,i<n->-2^62<=intOf (f i)/\intOf (f i)<2^62,ki n (fz fun i=>intOf (f i))])
 |_=>none
def qV:bE:=nG::(44,lH yH)::(28,lH Ig)::(55,OV)::(51,J2)::(52,AR)::(31,Km)::iH
abbrev uE:Code:=aK f13
abbrev qY:Code:=part uE [1,1,0,1,0,0]
abbrev sJ:Code:=part qY [1,0,0]
abbrev mV:List Nat:=[0,3,4]
abbrev rE (p:PP) (t:Int):List AV:=[.ptr 0 0 2 0 [],aD p,.int .i64 t]
abbrev jV (n:Nat) (z:Nat->Int) (a:Int):aI:=[(0,qE n z a)]
abbrev pQ:List Nat:=[0,3,4,5,7]
abbrev qF (p q:PP) (t r:Int):List AV:=[.ptr 0 0 2 0 [],aD p,.int .i64 t,aD q,.int .i64 r]
def gI (n:Nat) (f:Nat->AV) (b:Int) (i:Nat):Int:=if i=0 then-dm n f b 4 else if i=1 then 0 else 1+dm n f (bV n b) 5
def uj (n:Nat) (f:Nat->AV) (a:Int):PP:=if dm n f a 4=0 then(sI n f (bV n a) 2,tK n f (bV n a))else if dm n f a 4=1 then(3,gE 3 (fz (gI n f (bV n a))))else
 (2,fun i=>if i=0 then-mM (dm n f (bV n a) 400)else 1-mM (dm n f (bV n a) 400))
def kH (n:Nat) (f:Nat->AV) (a:Int):Int:=if dm n f a 4=0 then uL n f (bV n a) 2 else if dm n f a 4=1 then bV n (bV n (bV n a))else bV n (bV n a)
def sw (n:Nat) (f:Nat->AV) (a:Int):Nat:=1+(dm n f (kH n f a) 3).toNat/2
def qd (n:Nat) (f:Nat->AV) (a:Int):Int:=bV n (kH n f a)
def fI (n:Nat) (f:Nat->AV) (a:Int):Nat->PP×Int
 |0=>((1,fun _=>1),bV n a)
 |i+1=>(iM (fI n f a i).1 (uj n f (fI n f a i).2) (sw n f (fI n f a i).2),qd n f (fI n f a i).2)
def qG (n:Nat) (f:Nat->AV) (a:Int):Nat:=(dm n f a 4).toNat
def jd (n:Nat) (f:Nat->AV) (a:Int):PP:=(fI n f a (qG n f a)).1
def mG (n:Nat) (f:Nat->AV) (a:Int):Int:=(fI n f a (qG n f a)).2
def Mh (p q:PP):Prop:=1<=p.1/\1<=q.1/\p.1+q.1<=42/\Cf (p.1-1) (q.1-1) p.2 q.2
def yQ (n:Nat) (f:Nat->AV) (a:Int):Prop:=∀i,i<qG n f a->(dm n f (fI n f a i).2 4=1->ki 3 (fz (gI n f (bV n (fI n f a i).2))))/\∀j,j<sw n f (fI n f a i).2->Mh (iM (fI n f a i).1 (uj n f (fI n f a i).2) j) (uj n f (fI n f a i).2)
def Gr (n:Nat) (f:Nat->AV) (a:Int) (l:List AV):Option (AV×Int×List Prop):=match l with
 |[]=>some (aD (jd n f a),mG n f a,[yQ n f a])
 |_=>none
theorem MV:bu 13 f13:=bC func13
theorem ae1 {n:Nat} {z:Nat->Int} {a:Int}:aL T qV [] 60 [0,3] (before uE [1,1]) ⟨aZ 0 [.ptr 0 0 2 0 []],jV n z a,1⟩=
  some (aj [-(2:Int)^63<=(1:Int),(1:Int)<2^63,(1:Nat)*3<=2^24] (leaf normal ([ptr 0 0 2 0 [],own 8193 3 0 1],[(8193,aA.mk true true 3 1 fun i=>nth [rat (↑(1:Int):Rat) (Max.max 1 (ck (Int.natAbs (1:Int))))] (rat 0 1) i),(0,aA.mk false true 2 1 fun x=>agg [aq 1 n fun i=>int i64 (z i),int i64 a])]))):=ah
theorem ag3 {n:Nat} {z:Nat->Int} {a t r:Int} {p q:PP}:aL T qV [] 60 pQ (before (part sJ [1,1,1]) []) ⟨aH pQ (qF p q t r),jV n z a,1⟩=
  some (leaf normal ([ptr 0 0 2 0 [],aq 3 p.fst fun i=>rat (p.snd i) af,int i64 t,aq 3 q.fst fun i=>rat (q.snd i) af,int i64 r],[(0,aA.mk false true 2 1 fun x=>agg [aq 1 n fun i=>int i64 (z i),int i64 a])])):=ah
theorem Vo {n:Nat} {z:Nat->Int} {a:Int} {p:PP}:aL T qV [] 60 mV (before (part uE [1,1]) [0,1]) ⟨aH [0,3] [.ptr 0 0 2 0 [],aD p],jV n z a,1⟩=
  some (aj [dL n (fun i=>int i64 (z i)) a,(0:Int)<4,(4:Int)<2^62] (leaf normal ([ptr 0 0 2 0 [],aq 3 p.fst fun i=>rat (p.snd i) af,int i64 (dm n (fun i=>int i64 (z i)) a (4:Int))],[(0,aA.mk false true 2 1 fun x=>agg [aq 1 n fun i=>int i64 (z i),int i64 (bV n a)])]))):=ah
theorem ail {n:Nat} {z:Nat->Int} {a t:Int} {p:PP}:aL T qV [13] 60 mV (before qY [1,0]) ⟨aH mV (rE p t),jV n z a,1⟩=
  let b:List AV×aI:=([ptr 0 0 2 0 [],aq 3 p.fst fun i=>rat (p.snd i) af,int i64 t],[(0,aA.mk false true 2 1 fun x=>agg [aq 1 n fun i=>int i64 (z i),int i64 a])]);some (fork (decide (t>0)) (leaf normal b) (leaf (exit 0) b)):=ah
theorem acM {n:Nat} {z:Nat->Int} {a t:Int} {p:PP}:aL T qV [27,31] 60 pQ (before sJ [1,1,1]) ⟨aH mV (rE p t),jV n z a,1⟩=
  let d:=int i64 0;let o:=(0:Int)<3;let m:=0<1;let l:=(2:Int)≠(0:Int);let b:=bV n a;let w:=dm n (fun i=>int i64 (z i)) a (4:Int);let v:=Max.max 1 (ck (Int.natAbs (1:Int)));let k:=aq 1 n fun i=>int i64 (z i);let h:=ptr 0 0 2 0 [];let r:=(2:Int)^62;let E:=aq 3 p.fst fun i=>rat (p.snd i) af;let e:=(2:Int)^63;let q:=(3:Int)<r;let u:=mM (dm n (fun i=>int i64 (z i)) b (400:Int));let j:=dL n (fun i=>int i64 (z i)) b;let g:=uL n (fun i=>int i64 (z i)) b (2:Int);let A:=bV n b;let f:=bV n A;let y:=dL n (fun i=>int i64 (z i)) A;let F:=(1:Int)+dm n (fun i=>int i64 (z i)) A (5:Int);let D:=(1:Int)+i64.wrap ((dm n (fun i=>int i64 (z i)) A (3:Int)).tdiv (2:Int));let B:=(1:Int)+i64.wrap ((dm n (fun i=>int i64 (z i)) g (3:Int)).tdiv (2:Int));let s:=[int i64 (i64.wrap ((0:Int)-dm n (fun i=>int i64 (z i)) b (4:Int))),d,int i64 F];let C:=(1:Int)+i64.wrap ((dm n (fun i=>int i64 (z i)) f (3:Int)).tdiv (2:Int));some (aj [dL n (fun i=>int i64 (z i)) a,(0:Int)<4,(4:Int)<r] (fork (w==0) (aj [j,(0:Int)<=2,(2:Int)<900] (aj [dL n (fun i=>int i64 (z i)) g,o,q,l,-e<=B/\B<e] (leaf normal ([h,E,int i64 t,aq 3 (sI n (fun i=>int i64 (z i)) b (2:Int)) fun i=>rat (tK n (fun i=>int i64 (z i)) b i) 64,int i64 B],[(0,aA.mk false true 2 1 fun x=>agg [k,int i64 (bV n g)])])))) (fork (w==1) (aj [j,(0:Int)<4,(4:Int)<r,y,(0:Int)<5,(5:Int)<r,-e<=F/\F<e,(3:Nat)*1<=2^24,(1:Nat)<=3,(3:Nat)<=41,∀(i:Nat),i<3->nth s d (i+0)=int i64 (intOf (nth s d (i+0))),∀(i:Nat),i<3->-r<=intOf (nth s d (i+0))/\intOf (nth s d (i+0))<r,ki 3 (fz fun i=>intOf (nth s d (i+0)))] (aj [dL n (fun i=>int i64 (z i)) f,o,q,l,-e<=C/\C<e] (leaf normal ([h,E,int i64 t,aq 3 3 fun i=>rat (gE 3 (fz fun i=>intOf (nth s d (i+0))) i) af,int i64 C],[(0,aA.mk false true 2 1 fun x=>agg [k,int i64 (bV n f)])])))) (aj [j,(0:Int)<400,(400:Int)<r,m] (aj [m,-e<=1,(1:Int)<e,m,v<2^41,(64:Nat)<2^41,(2:Nat)*3<=2^24] (aj [y,o,q,l,-e<=D/\D<e] (leaf normal ([h,E,int i64 t,own 69633 3 0 2,int i64 D],[(69633,aA.mk true true 3 2 fun i=>nth [rat (-u) 64,rat ((↑(1:Int):Rat)-u) (v+64+1)] (rat 0 1) i),(0,aA.mk false true 2 1 fun x=>agg [k,int i64 f])])))))))):=ah
theorem Ww {n:Nat} {z:Nat->Int} {a t r:Int} {p q:PP}:aL T qV [46] 60 pQ [part sJ [1,1,1,0,0]] ⟨aH pQ (qF p q t r),jV n z a,1⟩=
  let d:=q.fst-1;let b:=p.fst-1;let g:=ptr 0 0 2 0 [];let f:=aq 3 q.fst fun i=>rat (q.snd i) af;let e:Nat×aA:=(0,aA.mk false true 2 1 fun x=>agg [aq 1 n fun i=>int i64 (z i),int i64 a]);some (fork (decide (r>0)) (aj [cL (fun i=>rat (p.snd i) af) p.fst af,cL (fun i=>rat (q.snd i) af) q.fst af,(1:Nat)<=p.fst,(1:Nat)<=q.fst,p.fst+q.fst<=42,Cf b d (fun i=>aN (rat (p.snd i) af)) fun i=>aN (rat (q.snd i) af)] (aj [-(2:Int)^63<=r-1/\r-1<(2:Int)^63] (leaf normal ([g,aq 3 (b+d+1) fun i=>rat (kY b d (fun i=>aN (rat (p.snd i) af)) (fun i=>aN (rat (q.snd i) af)) i) af,int i64 t,f,int i64 (r-1)],[e])))) (leaf (exit 3) ([g,aq 3 p.fst fun i=>rat (p.snd i) af,int i64 t,f,int i64 r],[e]))):=ah
theorem ah9 {n:Nat} {z:Nat->Int} {a t r:Int} {p q:PP}:aL T qV [] 60 mV [part qY [1,1]] ⟨aH pQ (qF p q t r),jV n z a,1⟩=
  some (aj [-(2:Int)^63<=t-1/\t-1<(2:Int)^63] (leaf normal ([ptr 0 0 2 0 [],aq 3 p.fst fun i=>rat (p.snd i) af,int i64 (t-1)],[(0,aA.mk false true 2 1 fun x=>agg [aq 1 n fun i=>int i64 (z i),int i64 a])]))):=ah
theorem Wh {n:Nat} {z:Nat->Int} {a t:Int} {p:PP}:BD T qV [] 60 f13 [part uE [1,1,1]] ⟨aH mV (rE p t),jV n z a,1⟩=
  some (leaf ret ([aq 3 p.fst fun i=>rat (p.snd i) af],some (aA.mk false true 2 1 fun x=>agg [aq 1 n fun i=>int i64 (z i),int i64 a]))):=ah
theorem aiF:bp P OV 55:=by
 refine cZ fun K args r hk hs _=>?_
 split at hs
 ·rename_i n f
  simp only[aB]at hs
  subst hs
  intro need
  obtain⟨h1,h2,h3,h4,h5⟩:=need
  exact iz (Iv h1 h2 h4 h5 K) hk ⟨wN rfl h3,trivial⟩ [] trivial
 ·simp at hs
theorem ug:bY P qV:=gM (aM Jk (aM aa2 (aM aiF (aM SD (aM Df (aM ZW iE))))))
theorem dL.poly {n:Nat} {f:Nat->AV} {a d:Int} (h:dL n f a):dL n f (uL n f a d):=h.next.numbers _
theorem dL.kH {n:Nat} {f:Nat->AV} {a:Int} (h:dL n f a):dL n f (kH n f a):=by
 unfold Go.Am.B.kH
 split
 ·exact h.next.poly
 ·split
  ·exact h.next.next.next
  ·exact h.next.next
theorem dL.fI {n:Nat} {f:Nat->AV} {a:Int} (h:dL n f a):∀i,dL n f (fI n f a i).2
 |0=>h.next
 |i+1=>(h.fI i).kH.next
theorem Gj {n i:Nat} {c d:Nat->Rat}:∀{k:Nat},(∀j,j<k->c j=d j)->lU n c i k=lU n d i k
 |0,_=>rfl
 |k+1,h=>by
  show lU n c i k+_*c k=lU n d i k+_*d k
  rw[Gj fun j hj=>h j aa,h k aa]
theorem Vd {n i:Nat} {c d:Nat->Rat} (hi:i<n) (h:∀j,j<n->c j=d j):gE n c i=gE n d i:=Gj fun j hj=>h j aa
theorem ki.congr {n:Nat} {c d:Nat->Rat} (hz:ki n c) (h:∀j,j<n->c j=d j):ki n d:=fun i k hi hk=>by rw[<-Gj (c:=c) fun j hj=>h j aa];exact hz i k hi hk
theorem Jd {x:Int} (h1:0<=x) (h2:x<3):i64.wrap (x.tdiv 2)=x/2:=by
 rw[Int.tdiv_eq_ediv_of_nonneg h1]
 exact wrap_i64 aa aa
theorem ag4 {k n:Nat} {z:Nat->Int} {a:Int} {o:aA} (ho:∀ρ,eA ρ o (qE n z a)) (h:dL n (fun i=>.int .i64 (z i)) a) (hz:yQ n (fun i=>.int .i64 (z i)) a) (K:Nat):
  aW P 13 K [.ptr k 0 2 0 []] [(k,o)] ⟨aD (jd n (fun i=>.int .i64 (z i)) a),[(k,qE n z (mG n (fun i=>.int .i64 (z i)) a))],[]⟩:=by
 have hW:=cP
 refine Kz hT MV rfl rfl bh ho (fun _ c hk=>?_) K
 obtain⟨f,hf⟩:∃f:Nat->AV,f=fun i=>.int .i64 (z i):=⟨_,rfl⟩
 rw[<-hf]at h hz ⊢
 refine az.MF hT ug hm (x:=uE) [1,1] ah ah MV.dst (f1:=[]) 60 [0,3] ⟨_,ae1,?_⟩
 simp only[ag.all,aC]
 refine⟨aa,fun s1 hv1=>?_⟩
 refine az.wo (kp:=[0]) hk (vs:=[.ptr 0 0 2 0 [],.own 1 3 0 1]) (ps:=[(1,⟨true,true,3,1,fun _=>.rat ((1:Int):Rat) (max 1 (ck (Int.natAbs 1)))⟩),(0,qE n z a)]) (nx:=2) [(0,0),(1,8193)] hv1 rfl ⟨⟨rfl,iY rfl⟩,⟨rfl,eR rfl rfl rfl⟩,trivial⟩ (bF rfl rfl rfl (fun i hi=>by obtain rfl:i=0:=aa;exact bT rfl rfl) (dD trivial)) ?_
 refine az.dS (t:=3) (k:=1) rfl rfl rfl rfl ?_
 refine az.wo (kp:=[0]) hk (L:=[0,3]) (vs:=[.ptr 0 0 2 0 [],aD (fI n f a 0).1]) (ps:=jV n z a) (nx:=1) [(0,0)] rfl rfl ⟨⟨rfl,iY rfl⟩,⟨rfl,jD rfl (jk fun i hi=>dG rfl (by rw[hW];decide))⟩,trivial⟩ (dD trivial) ?_
 obtain⟨N,hN⟩:∃N,N=qG n f a:=⟨_,rfl⟩
 have a1:=kj (n:=n) (f:=f) (a:=a) (m:=4) aa
 have a2:=ko (n:=n) (f:=f) (a:=a) (m:=4) aa
 have hN2:dm n f a 4=(N:Int)-((0:Nat):Int):=by rw[hN];unfold qG;omega
 have hN3:N<=3:=aa
 refine az.aix hT ug hm (x:=part uE [1,1]) [0,1] (i:=0) (y:=qY) (z:=part uE [1,1,1]) ah ah ah ah hk (f1:=[]) 60 mV 1 (fun i:Nat=>rE (fI n f a i).1 ((N:Int)-i)) (fun i=>jV n z (fI n f a i).2) (fun i=>i<=N) (fun i=>i=N) (fun i=>N-i) (fun _=>False)
  ⟨_,Vo,?_⟩ (fun i hi=>?_) (fun i hi=>?_) (fun _ _ h=>h.elim)
 ·have hN4:dm n (fun i=>.int .i64 (z i)) a 4=(N:Int)-((0:Nat):Int):=by rw[<-hf];exact hN2
  simp only[ag.all,aC,hN4]
  exact⟨⟨hf▸h,aa,aa⟩,0,Nat.zero_le _,[(0,0)],rfl,rfl,rfl,dD trivial⟩
 ·have hS:=h.fI i
  obtain⟨b,hb⟩:∃b,b=(fI n f a i).2:=⟨_,rfl⟩
  obtain⟨p,hp⟩:∃p,p=(fI n f a i).1:=⟨_,rfl⟩
  rw[<-hb]at hS
  refine az.Gy hT ug hm (y:=qY) [1,0] (j:=1) (x1:=sJ) (zb:=part qY [1,1]) ah ah ah ah hk (f1:=[13]) 60 mV 1 (fun _:Unit=>rE p ((N:Int)-i)) (fun _=>jV n z b) (fun _=>i<N) ⟨_,ail,?_⟩ (fun _ hG=>?_)
  ·simp only[ag.all,bI,bR]
   rw[hp,hb]
   refine⟨fun h2=>⟨(),aa,[(0,0)],rfl,rfl,rfl,dD trivial⟩,fun h2 s' hv=>⟨rfl,i,aa,en.le ⟨[(0,0)],rfl,rfl,rfl,dD trivial⟩ hv hk⟩⟩
  ·obtain⟨z1,z2⟩:=hz i aa
   rw[<-hb,<-hp]at z2
   rw[<-hb]at z1
   obtain⟨q,hq⟩:∃q,q=uj n f b:=⟨_,rfl⟩
   obtain⟨r,hr⟩:∃r,r=sw n f b:=⟨_,rfl⟩
   rw[<-hq,<-hr]at z2
   have b1:=kj (n:=n) (f:=f) (a:=kH n f b) (m:=3) aa
   have b2:=ko (n:=n) (f:=f) (a:=kH n f b) (m:=3) aa
   have hr2:(r:Int)=1+dm n f (kH n f b) 3/2:=by rw[hr];unfold sw;omega
   have key:az P c f13.ntmps (part sJ [1,1,1]) ⟨aH pQ (qF p q ((N:Int)-i) r),jV n z (qd n f b),1⟩ (inBlock 1 (fW (fun s'=>az P c f13.ntmps (part qY [1,1]) s' (pZ c mV (fun i:Nat=>rE (fI n f a i).1 ((N:Int)-i)) (fun i=>jV n z (fI n f a i).2) 1 (fun i=>i<=N) (fun i=>i=N) (fun i=>N-i) 0 (fun s'=>∃v,False/\bJ mV s'=some v) i)) (pZ c mV (fun i:Nat=>rE (fI n f a i).1 ((N:Int)-i)) (fun i=>jV n z (fI n f a i).2) 1 (fun i=>i<=N) (fun i=>i=N) (fun i=>N-i) 0 (fun s'=>∃v,False/\bJ mV s'=some v) i))):=by
    refine az.yP hT ug hm (x:=part sJ [1,1,1]) [] (i:=3) (y:=part sJ [1,1,1,0,0]) ah ah ah hk (f1:=[]) (f2:=[46]) 60 pQ 1 (fun j:Nat=>qF (iM p q j) q ((N:Int)-i) ((r:Int)-j)) (fun _=>jV n z (qd n f b)) (fun j=>j<=r) (fun j=>j=r) (fun j=>r-j) (fun _=>False) ⟨_,ag3,?_⟩ (fun j hj=>⟨_,Ww,?_⟩) (fun j s' hj hle=>?_) (fun _ _ h=>h.elim)
    ·simp only[ag.all]
     exact⟨0,Nat.zero_le _,[(0,0)],rfl,by show _=List.map (mD [(0,0)]) (qF p q ((N:Int)-i) ((r:Int)-((0:Nat):Int)));rw[show(r:Int)-((0:Nat):Int)=r by omega];rfl,rfl,dD trivial⟩
    ·simp only[ag.all,aC,bI,bR]
     refine⟨fun h2=>⟨⟨eO aX,eO aX,z2 j aa⟩,aa,j+1,aa,by dsimp only;omega,[(0,0)],rfl,?_,rfl,dD trivial⟩,fun h2=>⟨rfl,j,aa,[(0,0)],rfl,rfl,rfl,dD trivial⟩⟩
     rw[show(r:Int)-(j:Int)-1=(r:Int)-((j+1:Nat):Int) by omega];rfl
    ·subst hj
     show az P c _ (part qY [1,1]) s' _
     refine az.od hle (az.bU hT ug hm 60 mV ah9 ah ?_)
     have e1:(fI n f a (i+1)).1=iM p q j:=by show iM (fI n f a i).1 (uj n f (fI n f a i).2) (sw n f (fI n f a i).2)=_;rw[<-hb,<-hp,<-hq,<-hr]
     have e2:(fI n f a (i+1)).2=qd n f b:=by show qd n f (fI n f a i).2=_;rw[<-hb]
     simp only[ag.all,aC]
     refine⟨aa,fun s'' hv=>⟨i+1,hG,by dsimp only;omega,en.le ⟨[(0,0)],rfl,?_,rfl,?_⟩ hv hk⟩⟩
     ·show _=List.map (mD [(0,0)]) (rE (fI n f a (i+1)).1 ((N:Int)-((i+1:Nat):Int)))
      rw[e1,show(N:Int)-(i:Int)-1=(N:Int)-((i+1:Nat):Int) by omega];rfl
     ·show kq 1 [(0,0)] _ (jV n z (fI n f a (i+1)).2)
      rw[e2];exact dD trivial
   subst hf
   refine az.MF hT ug hm (x:=sJ) [1,1,1] ah ah ah (f1:=[27,31]) 60 pQ ⟨_,acM,?_⟩
   simp only[ag.all,aC,beq_iff_eq,beq_eq_false_iff_ne,ne_eq]
   refine⟨⟨hS,aa,aa⟩,fun k0=>?_,fun k0=>⟨fun k1=>?_,fun k1=>?_⟩⟩
   ·have eB:uL n (fun i=>.int .i64 (z i)) (bV n b) 2=kH n (fun i=>.int .i64 (z i)) b:=(if_pos k0).symm
    have eq:q=(sI n (fun i=>.int .i64 (z i)) (bV n b) 2,tK n (fun i=>.int .i64 (z i)) (bV n b)):=by rw[hq];exact if_pos k0
    simp only[eB,Jd b1 b2,<-hr2]
    refine⟨⟨hS.next,aa,aa⟩,⟨hS.kH,aa,aa,aa,aa⟩,fun s' hv=>?_⟩
    refine az.wo (kp:=[0]) hk (vs:=qF p q ((N:Int)-i) r) (ps:=jV n z (qd n (fun i=>.int .i64 (z i)) b)) (nx:=1) [(0,0)] hv rfl ⟨⟨rfl,iY rfl⟩,aY,aY,⟨rfl,jD rfl ?_⟩,aY,trivial⟩ (dD trivial) key
    rw[eq];exact jk fun i hi=>dG rfl aa
   ·have eB:bV n (bV n (bV n b))=kH n (fun i=>.int .i64 (z i)) b:=((if_neg k0).trans (if_pos k1)).symm
    have eq:q=(3,gE 3 (fz (gI n (fun i=>.int .i64 (z i)) (bV n b)))):=by rw[hq];exact(if_neg k0).trans (if_pos k1)
    have u1:=kj (n:=n) (f:=fun i=>.int .i64 (z i)) (a:=bV n b) (m:=4) aa
    have u2:=ko (n:=n) (f:=fun i=>.int .i64 (z i)) (a:=bV n b) (m:=4) aa
    have v1:=kj (n:=n) (f:=fun i=>.int .i64 (z i)) (a:=bV n (bV n b)) (m:=5) aa
    have v2:=ko (n:=n) (f:=fun i=>.int .i64 (z i)) (a:=bV n (bV n b)) (m:=5) aa
    have zz:∀j,j<3->intOf (nth [.int .i64 (0-dm n (fun i=>.int .i64 (z i)) (bV n b) 4),.int .i64 0,.int .i64 (1+dm n (fun i=>.int .i64 (z i)) (bV n (bV n b)) 5)] (.int .i64 0) (j+0))=gI n (fun i=>.int .i64 (z i)) (bV n b) j:=fun j hj=>by
     rcases(show j=0\/j=1\/j=2 by omega)with rfl|rfl|rfl
     ·show 0-_=-_;omega
     ·rfl
     ·rfl
    have zb:∀j,-2^62<=gI n (fun i=>.int .i64 (z i)) (bV n b) j/\gI n (fun i=>.int .i64 (z i)) (bV n b) j<2^62:=fun j=>by
     unfold gI;split
     ·omega
     ·split<;>omega
    have zc:∀j,j<3->fz (gI n (fun i=>.int .i64 (z i)) (bV n b)) j=fz (fun j=>intOf (nth [.int .i64 (0-dm n (fun i=>.int .i64 (z i)) (bV n b) 4),.int .i64 0,.int .i64 (1+dm n (fun i=>.int .i64 (z i)) (bV n (bV n b)) 5)] (.int .i64 0) (j+0))) j:=fun j hj=>by
     show((gI n _ (bV n b) j:Int):Rat)=((intOf _:Int):Rat)
     rw[zz j hj]
    simp only[eB,Jd b1 b2,<-hr2,wrap_i64 (show-2^63<=0-dm n (fun i=>.int .i64 (z i)) (bV n b) 4 by omega) aa]
    refine⟨⟨hS.next,aa,aa,hS.next.next,aa,aa,aa,aa,aa,aa,fun j hj=>?_,fun j hj=>by rw[zz j hj];exact zb j,(z1 k1).congr zc⟩,⟨hS.kH,aa,aa,aa,aa⟩,fun s' hv=>?_⟩
    ·rcases(show j=0\/j=1\/j=2 by omega)with rfl|rfl|rfl<;>rfl
    ·refine az.wo (kp:=[0]) hk (vs:=qF p q ((N:Int)-i) r) (ps:=jV n z (qd n (fun i=>.int .i64 (z i)) b)) (nx:=1) [(0,0)] hv rfl ⟨⟨rfl,iY rfl⟩,aY,aY,⟨rfl,jD rfl ?_⟩,aY,trivial⟩ (dD trivial) key
     rw[eq];exact jk fun j hj=>dG (Vd hj zc).symm aX
   ·have eB:bV n (bV n b)=kH n (fun i=>.int .i64 (z i)) b:=((if_neg k0).trans (if_neg k1)).symm
    have eq:q=(2,fun i=>if i=0 then-mM (dm n (fun i=>.int .i64 (z i)) (bV n b) 400)else 1-mM (dm n (fun i=>.int .i64 (z i)) (bV n b) 400)):=by rw[hq];exact(if_neg k0).trans (if_neg k1)
    have hb1:ck (Int.natAbs 1)=1:=by decide
    simp only[eB,Jd b1 b2,<-hr2]
    refine⟨⟨hS.next,aa,aa,aa⟩,⟨aa,aa,aa,aa,by rw[hb1];omega,aa,aa⟩,⟨hS.kH,aa,aa,aa,aa⟩,fun s' hv=>?_⟩
    refine az.wo (kp:=[0]) hk (vs:=[.ptr 0 0 2 0 [],aD p,.int .i64 ((N:Int)-i),.own 1 3 0 2,.int .i64 r]) (ps:=[(1,⟨true,true,3,2,fun j=>.rat (q.2 j) af⟩),(0,qE n z (qd n (fun i=>.int .i64 (z i)) b))]) (nx:=2) [(0,0),(1,69633)] hv rfl ⟨⟨rfl,iY rfl⟩,aY,aY,⟨rfl,eR rfl rfl rfl⟩,aY,trivial⟩ (bF rfl rfl rfl (fun j hj=>?_) (dD trivial)) ?_
    ·rw[eq]
     rcases(show j=0\/j=1 by omega)with rfl|rfl
     ·exact .inr ⟨rfl,dG rfl aa⟩
     ·exact .inr ⟨rfl,dG rfl (by rw[hb1,hW];decide)⟩
    ·refine az.dS (t:=5) (k:=1) rfl rfl rfl rfl ?_
     refine az.wo (kp:=[0]) hk (L:=pQ) (vs:=qF p q ((N:Int)-i) r) (ps:=jV n z (qd n (fun i=>.int .i64 (z i)) b)) (nx:=1) [(0,0)] rfl rfl ⟨⟨rfl,iY rfl⟩,aY,aY,⟨rfl,jD rfl ?_⟩,aY,trivial⟩ (dD trivial) key
     have e1:q.1=2:=by rw[eq]
     show bf (.aq 3 2 fun j=>.rat (q.2 (j+0)) af) (.aq 3 q.1 fun j=>.rat (q.2 j) af)
     rw[e1];exact jk fun j hj=>.refl _
 ·subst hi
  refine az.nR (aJ.Pc hT ug hm 60 Wh ah ?_)
  simp only[ag.all,aC]
  exact⟨by unfold jd;rw[<-hN];exact .refl _,_,rfl,rfl,uo rfl (by unfold mG;rw[<-hN])⟩
theorem akp:bp P (lH Gr) 13:=by
 refine Az fun {k n z a l v b q o} K hg ho hd hq=>?_
 unfold Gr at hg
 split at hg
 ·simp only[aB,Prod.mk.injEq]at hg
  obtain⟨rfl,rfl,rfl⟩:=hg
  exact ag4 ho hd hq K
 ·simp at hg
theorem FK {n:Nat} {f:Nat->AV} {a:Int}:ct 12 7 (ku n f a):=by
 have x1:=kj (n:=n) (f:=f) (a:=a) (m:=13) aa
 have x2:=ko (n:=n) (f:=f) (a:=a) (m:=13) aa
 unfold ku
 generalize dm n f a 13=x at*
 split
 ·have w1:=kj (n:=n) (f:=f) (a:=bV n (bV n a)) (m:=4) aa
  have w2:=ko (n:=n) (f:=f) (a:=bV n (bV n a)) (m:=4) aa
  generalize dm n f (bV n (bV n a)) 4=w at*
  rcases(show w=0\/w=1\/w=2\/w=3 by omega)with rfl|rfl|rfl|rfl
  ·refine⟨(x-6)*12,?_,aa⟩
   rw[Rat.intCast_mul,Rat.div_def,Rat.mul_assoc,show(((1+0:Int):Rat)⁻¹*((12:Int):Rat))=((12:Int):Rat) by decide+kernel]
  ·refine⟨(x-6)*6,?_,aa⟩
   rw[Rat.intCast_mul,Rat.div_def,Rat.mul_assoc,show(((1+1:Int):Rat)⁻¹*((12:Int):Rat))=((6:Int):Rat) by decide+kernel]
  ·refine⟨(x-6)*4,?_,aa⟩
   rw[Rat.intCast_mul,Rat.div_def,Rat.mul_assoc,show(((1+2:Int):Rat)⁻¹*((12:Int):Rat))=((4:Int):Rat) by decide+kernel]
  ·refine⟨(x-6)*3,?_,aa⟩
   rw[Rat.intCast_mul,Rat.div_def,Rat.mul_assoc,show(((1+3:Int):Rat)⁻¹*((12:Int):Rat))=((3:Int):Rat) by decide+kernel]
 ·exact⟨(x-6)*12,by rw[Rat.intCast_mul],aa⟩
theorem aiZ {n:Nat} {f:Nat->AV} {a:Int} {m:Nat}:dF m (tK n f a) 7:=⟨12,by decide,by decide,fun _ _=>FK⟩
theorem FM {n:Nat} {f:Nat->AV} {b:Int} (i:Nat):-5<=gI n f b i/\gI n f b i<=5:=by
 have u1:=kj (n:=n) (f:=f) (a:=b) (m:=4) aa
 have u2:=ko (n:=n) (f:=f) (a:=b) (m:=4) aa
 have v1:=kj (n:=n) (f:=f) (a:=bV n b) (m:=5) aa
 have v2:=ko (n:=n) (f:=f) (a:=bV n b) (m:=5) aa
 unfold gI
 split
 ·omega
 ·split<;>omega
theorem SV {n:Nat} {f:Nat->AV} {b:Int} {m:Nat}:dF m (fz (gI n f b)) 3:=⟨1,by decide,by decide,fun i _=>ct.int (by have:=FM (n:=n) (f:=f) (b:=b) i;omega)⟩
theorem aio {n:Nat} {f:Nat->AV} {b:Int}:ki 3 (fz (gI n f b)):=fun i k hi hk=>(NO SV hi aa).more (by have:=cP;omega)
theorem UM {n:Nat} {f:Nat->AV} {b:Int}:dF 3 (gE 3 (fz (gI n f b))) 7:=by
 have h1:gI n f b 1=0:=rfl
 have e0:gE 3 (fz (gI n f b)) 0=((gI n f b 0:Int):Rat):=by
  show 0+bq 0 0/bq 2 0*fz (gI n f b) 0=_
  rw[show bq 0 0/bq 2 0=1 by decide+kernel];unfold fz;grind
 have e1:gE 3 (fz (gI n f b)) 1=((gI n f b 0:Int):Rat):=by
  show 0+bq 1 0/bq 2 0*fz (gI n f b) 0+bq 1 1/bq 2 1*fz (gI n f b) 1=_
  rw[show bq 1 0/bq 2 0=1 by decide+kernel,show fz (gI n f b) 1=0 from by unfold fz;rw[h1];rfl];unfold fz;grind
 have e2:gE 3 (fz (gI n f b)) 2=((gI n f b 0+gI n f b 2:Int):Rat):=by
  show 0+bq 2 0/bq 2 0*fz (gI n f b) 0+bq 2 1/bq 2 1*fz (gI n f b) 1+bq 2 2/bq 2 2*fz (gI n f b) 2=_
  rw[show bq 2 0/bq 2 0=1 by decide+kernel,show bq 2 2/bq 2 2=1 by decide+kernel,show fz (gI n f b) 1=0 from by unfold fz;rw[h1];rfl,Rat.intCast_add];unfold fz;grind
 have z0:=FM (n:=n) (f:=f) (b:=b) 0
 have z2:=FM (n:=n) (f:=f) (b:=b) 2
 refine⟨1,by decide,by decide,fun i hi=>?_⟩
 rcases(show i=0\/i=1\/i=2 by omega)with rfl|rfl|rfl
 ·rw[e0];exact ct.int aa
 ·rw[e1];exact ct.int aa
 ·rw[e2];exact ct.int aa
theorem ah8 {d:Int}:1<=jL d/\jL d<=12/\0<=d%(jL d+1)/\d%(jL d+1)<=jL d:=by
 have h1:0<=i64.wrap (d.tdiv 17)%12:=Int.emod_nonneg _ aa
 have h2:i64.wrap (d.tdiv 17)%12<12:=Int.emod_lt_of_pos _ aa
 have hM:jL d=1+i64.wrap (d.tdiv 17)%12:=rfl
 have h3:0<=d%(jL d+1):=Int.emod_nonneg _ aa
 have h4:d%(jL d+1)<jL d+1:=Int.emod_lt_of_pos _ aa
 omega
theorem adp {d:Int}:dF 2 (fun i=>if i=0 then-mM d else 1-mM d) 7:=by
 obtain⟨p1,p2,p3,p4⟩:=ah8 (d:=d)
 have hne:((jL d:Int):Rat)≠0:=qe aa
 have e:mM d*((jL d:Int):Rat)=((d%(jL d+1):Int):Rat):=by
  unfold mM
  rw[Rat.div_def,Rat.mul_assoc,Rat.mul_comm _ ((jL d:Int):Rat),Rat.mul_inv_cancel _ hne,Rat.mul_one]
 refine⟨jL d,aa,aa,fun i hi=>?_⟩
 rcases(show i=0\/i=1 by omega)with rfl|rfl
 ·refine⟨-(d%(jL d+1)),?_,aa⟩
  show _=-mM d*_
  rw[Rat.intCast_neg,Rat.neg_mul,e]
 ·refine⟨jL d-d%(jL d+1),?_,aa⟩
  show _=(1-mM d)*_
  rw[Rat.intCast_sub,Rat.sub_eq_add_neg,Rat.sub_eq_add_neg,Rat.add_mul,Rat.one_mul,Rat.neg_mul,e]
theorem Ay {n:Nat} {f:Nat->AV} {a:Int}:rL (uj n f a):=by
 unfold uj
 split
 ·have u1:=kj (n:=n) (f:=f) (a:=bV n a) (m:=2+1) aa
  have u2:=ko (n:=n) (f:=f) (a:=bV n a) (m:=2+1) aa
  exact⟨Nat.succ_pos _,by show(dm n f (bV n a) (2+1)).toNat+1<=3;omega,aiZ⟩
 ·split
  ·exact⟨by show 1<=3;omega,aX,UM⟩
  ·exact⟨by show 1<=2;omega,by show 2<=3;omega,adp⟩
theorem Jc {n:Nat} {f:Nat->AV} {a:Int}:1<=sw n f a/\sw n f a<=2:=by
 have u1:=kj (n:=n) (f:=f) (a:=kH n f a) (m:=3) aa
 have u2:=ko (n:=n) (f:=f) (a:=kH n f a) (m:=3) aa
 unfold sw
 omega
theorem Ah {n:Nat} {f:Nat->AV} {a:Int}:∀i,i<=3->qU i (fI n f a i).1
 |0,_=>qU.one
 |i+1,h=>(Ah i aa).step Ay aa Jc
theorem E0 {n:Nat} {f:Nat->AV} {a:Int}:qG n f a<=3:=by
 have u1:=kj (n:=n) (f:=f) (a:=a) (m:=4) aa
 have u2:=ko (n:=n) (f:=f) (a:=a) (m:=4) aa
 unfold qG;omega
theorem acE {p q:PP} {s:Nat} (hp:1<=p.1) (lp:p.1<=11) (hb:Bd p s) (hs:s<=1400) (hq:rL q):Mh p q:=by
 have hW:=cP
 have h1:=hq.lo
 have h2:=hq.hi
 have hb2:dF (p.1-1+1) p.2 s:=by rw[show p.1-1+1=p.1 by omega];exact hb
 have hb3:dF (q.1-1+1) q.2 7:=by rw[show q.1-1+1=q.1 by omega];exact hq.bd
 have h5:p.1-1+(q.1-1)<=12:=aa
 have h6:(p.1-1+(q.1-1)+1)*(p.1-1+(q.1-1))<=13*12:=Nat.mul_le_mul aa h5
 exact⟨hp,h1,aa,fun i j k hi hj hk=>(Up aa hb2 hb3 hi hj).more aa,fun k hk=>((Ok aa hb2 hb3).sz hk).more aa⟩
theorem JD {n:Nat} {f:Nat->AV} {a:Int}:yQ n f a:=fun i hi=>by
 have hN:=E0 (n:=n) (f:=f) (a:=a)
 refine⟨fun _=>aio,fun j hj=>?_⟩
 have h:=Ah (n:=n) (f:=f) (a:=a) i aa
 have hr:=Jc (n:=n) (f:=f) (a:=(fI n f a i).2)
 have h1:=h.hi
 have hl:=zh h.lo (Ay (n:=n) (f:=f) (a:=(fI n f a i).2)) j
 exact acE hl.1 aa (Ft h.lo Ay h.bd j aa) aa Ay
structure oX (p:PP):Prop where
 lo:1<=p.1
 hi:p.1<=13
 bd:Bd p 1200
 gd:kG (ak p)
theorem IU {n:Nat} {f:Nat->AV} {a:Int}:oX (jd n f a):=by
 have hN:=E0 (n:=n) (f:=f) (a:=a)
 have h:=Ah (n:=n) (f:=f) (a:=a) (qG n f a) hN
 have h1:=h.hi
 exact⟨h.lo,Nat.le_trans h1 aa,Bd.more h.bd aa,h.gd hN⟩
theorem oX.of {p:PP} (h:oX p):jx p:=by
 have hW:=cP
 have h1:=h.hi
 refine⟨h.lo,aa,fun k i hi=>?_,kQ (FP h.bd) aa⟩
 obtain⟨D,d1,d2,d3⟩:=h.bd
 exact((Dm d3 k i hi).sz d1 d2).more aa
theorem oX.pos {p:PP} (_h:oX p) (h0:(ak p).1≠0):0<(ak p).1:=Nat.pos_of_ne_zero h0
theorem oX.cnt {p:PP} (h:oX p) {a b:Rat} {A B:Int} (ha:ct A 63 a) (hA:A.natAbs<=2^63) (hA0:A≠0) (hb:ct B 63 b) (hB:B.natAbs<=2^63) (hB0:B≠0):By p a b/\acg p a b:=by
 refine⟨⟨h.of,fun h0=>?_⟩,⟨h.of,fun h0=>?_⟩⟩
 ·have hp:=h.pos h0
  have hl:=C1 h.gd hp
  exact⟨(B5 h.gd hp).1,aa,xd h.gd hp ha hA hA0 aa,xd h.gd hp hb hB hB0 aa⟩
 ·have hp:=h.pos h0
  have hl:=C1 h.gd hp
  exact⟨(B5 h.gd hp).2,aa,xd h.gd hp ha hA hA0 aa,xd h.gd hp hb hB hB0 aa⟩
def CT:bE:=[sG,(156,Jm)]
theorem aeE:bY P CT:=BV (aM LS cJ)
theorem Kn.congr {n p:Nat} {k k':Nat->Rat} (h:Kn n p k) (e:∀i,i<n->k i=k' i):Kn n p k':=by
 have hp:=h.p1
 have hl:=h.len
 refine⟨h.p1,h.len,fun i hi=>?_,fun i hi=>?_,fun i h1 h2=>?_,fun i h1 h2=>?_⟩
 ·rw[<-e i aa,<-e (i+1) hi];exact h.sorted i hi
 ·rw[<-e i aa,<-e 0 aa];exact h.first i hi
 ·rw[<-e i h2,<-e (n-1) aa];exact h.last i h1 h2
 ·rw[<-e i aa,<-e (i+p) aa];exact h.mult i h1 h2
def zA (i:Nat):Int:=if i=1 then 1 else if i=2 then-4 else if i=3 then 4 else 0
def pA:PP:=(4,gE 4 (fz zA))
def AT (i:Nat):Int:=if i=0 then-2 else if i=2 then 1 else 0
def pB:PP:=(3,gE 3 (fz AT))
def PR:Spec:=cD fun l=>match l with
 |[.mag 0]=>some (aO (.str [48]) [])
 |[.mag 1]=>some (aO (.str [49]) [])
 |_=>none
def B4:bE:=[sG,(113,PR)]
def QN (q:Rat):List UInt8:=if q=0 then [48]else [49]
def K7:Spec:=cD fun l=>match l with
 |[.rat q _]=>some (aO (.str (QN q)) [q=0\/q=1])
 |_=>none
def Qk:Spec:=ef (kC (kL af) (kC (fu af) (kC (fu af) kN))) (fun a=>.tuple [.int .i64 (vO a.1 a.2.1 a.2.2.1),.int .i64 (qO a.1 a.2.1 a.2.2.1)]) fun a=>[By a.1 a.2.1 a.2.2.1]
def MP:Spec:=cD fun l=>match l with
 |[.aq 1 4 f]=>some (aO (aD pA) [f 0=.int .i64 0,f 1=.int .i64 1,f 2=.int .i64 (-4),f 3=.int .i64 4])
 |[.aq 1 3 f]=>some (aO (aD pB) [f 0=.int .i64 (-2),f 1=.int .i64 0,f 2=.int .i64 1])
 |_=>none
def KF:bE:=nG::(55,MP)::(18,PA 1)::(16,Qk)::(56,K7)::iH
theorem adK:bu 12 f12:=bC func12
theorem afR:cy T CT [] 60 f113 (aK f113) ⟨aZ 0 [.mag 0],[],0⟩=
  some (leaf ret [str [(48:UInt8)]]):=ah
theorem aai:cy T CT [] 60 f113 (aK f113) ⟨aZ 0 [.mag 1],[],0⟩=
  let a:=(↑(1:Nat):Int);some (aj [nl 1<2^40,(0:Int)<1000000000,(1000000000:Int)<2^32] (aj [(10:Int)≠(0:Int),(0:Nat)<1/\1*((1:Nat)+1)*2<=2^47] (aj [(10:Int)≠(0:Int)] (aj [(0:Int)<=a/\a<=a/\a<=2^47/\a*a<=2^47] (leaf ret [str [UInt8.ofNat (u8.wrap (u32.wrap ((48:Int)+(↑((1:Nat)%Int.toNat (1000000000:Int)):Int).tmod (10:Int)))).toNat]]))))):=ah
theorem ajV:cy T B4 [] 60 f56 (aK f56) ⟨aZ 0 [.agg [.bool false,.mag 0,.mag 0]],[],0⟩=
  some (leaf ret [str [(48:UInt8)]]):=ah
theorem ajw:cy T B4 [] 60 f56 (aK f56) ⟨aZ 0 [.agg [.bool false,.mag 1,.mag 0]],[],0⟩=
  some (leaf ret [str [(49:UInt8)]]):=ah
theorem ajr:cy T KF [100021,100025,100029,100034,100041,100048,100057] 200 f12 (aK f12) ⟨aZ 0 [],[],0⟩=
  let h:=fl 0 1;let g:=(↑(2:Int):Rat);let f:=fk 0 1;let b:=int i64 1;let d:=(-2:Int);let l:=(2:Int)^63;let p:=bO (fj 4 fun i=>aN (rat (gE 4 (fz zA) i) af)) 4;let n:Nat×(Nat->Rat):=((3:Nat),fun i=>aN (rat (gE 3 (fz AT) i) af));let a:=int i64 0;let j:Nat×(Nat->Rat):=((4:Nat),fun i=>aN (rat (gE 4 (fz zA) i) af));let e:=(ji 1 j).length;let o:=[int i64 d,a,b];let k:=[a,b,int i64 (-4:Int),int i64 4];let m:=(0:Int)<=1/\Int.toNat (1:Int)<e;some (aj [(4:Nat)*1<=2^24,nth k a ((0:Nat)+0)=a,nth k a ((1:Nat)+0)=b,nth k a ((2:Nat)+0)=int i64 (-4:Int),nth k a ((3:Nat)+0)=int i64 4,cL (fun i=>rat (gE 4 (fz zA) i) af) 4 af,Dr 1 j] (aj [(3:Nat)*1<=2^24,nth o a ((0:Nat)+0)=int i64 d,nth o a ((1:Nat)+0)=a,nth o a ((2:Nat)+0)=b,-l<=d,d<l,-l<=2,(2:Int)<l,cL (fun i=>rat (gE 3 (fz AT) i) af) 3 af,Max.max 1 (ck d.natAbs)<=af,Max.max 1 (ck (Int.natAbs (2:Int)))<=af,By n (↑d:Rat) g] (aj [((if p=0 then(3:Int)else(0:Int))==0)=true,(bif true then qO n (↑d:Rat) g==0 else false)=true,(bif true then vO n (↑d:Rat) g==2 else false)=true,(bif true then(↑e:Int)==2 else false)=true,(0:Int)<=0/\Int.toNat (0:Int)<e,(bif true then(↑(sS 1 j (Int.toNat (0:Int))):Int)==1 else false)=true,m,(bif true then(↑(sS 1 j (Int.toNat (1:Int))):Int)==2 else false)=true,m,f=0\/f=1,(bif true then QN f==[(48:UInt8)]else false)=true,m,h=0\/h=1] (leaf ret [AV.bool true])))):=ah
theorem aco:bp P PR 113:=by
 refine cZ fun K args r hk hs _=>?_
 have fin:∀{N:Nat} {t:ag (List AV)} {l:List UInt8},cy T CT [] 60 f113 (aK f113) ⟨aZ 0 [.mag N],[],0⟩=some t->(t.all fun _ us=>iK us (.str l))->aW P 113 K [.mag N] [] (aO (.str l) []):=fun h1 h2=>
  cB (r:=aO _ []) hT aeE hm afr rfl bh rfl 60 h1 (fun _=>h2) K []
 split at hs<;>simp only[aB,reduceCtorEq]at hs
 all_goals subst hs
 ·exact fin afR (.refl _)
 ·exact fin aai (by simp only[ag.all,aC];exact⟨by decide,by decide,by decide,by decide,.refl _⟩)
theorem ady:bY P B4:=BV (aM aco cJ)
theorem adP:bp P K7 56:=by
 refine cZ fun K args r hk hs _=>?_
 have fin:∀{q:Rat} {n a b:Nat} {t:ag (List AV)} {l:List UInt8},kids (.rat q n)=[.bool false,.mag a,.mag b]->cy T B4 [] 60 f56 (aK f56) ⟨aZ 0 [.agg [.bool false,.mag a,.mag b]],[],0⟩=some t->(t.all fun _ us=>iK us (.str l))->aW P 56 K [.rat q n] [] (aO (.str l) []):=fun h0 h1 h2=>
  iz (cB (r:=aO _ []) hT ady hm Vy rfl bh rfl 60 h1 (fun _=>h2) K []) rfl (show iR [_] [_]from⟨by rw[<-h0];exact Np,trivial⟩) []
 split at hs
 ·rename_i q n
  simp only[aB]at hs
  subst hs
  intro need
  have need:q=0\/q=1:=need
  rcases need with rfl|rfl
  ·exact fin (l:=[48]) ah ajV (.refl _) trivial
  ·exact fin (l:=[49]) ah ajw (.refl _) trivial
 ·simp at hs
theorem ai6:bp P Qk 16:=dy fun⟨_,_,_,_⟩ K hn=>Zw hn K
theorem Q4 {n s:Nat} {c:Nat->Rat} (h:dF n c s):dF n (gE n c) (s+n*n+2*n):=by
 obtain⟨D,d1,d2,d3⟩:=h
 have h2:=BR (N:=n-1) (n-1+1)
 rcases Nat.eq_zero_or_pos n with h0|h0
 ·exact⟨1,by decide,Nat.one_le_two_pow,fun i hi=>aa⟩
 have h3:(n-1+1)*(n-1)<=n*n:=Nat.mul_le_mul aa aa
 have h4:=nU d2 (show((jY (n-1) (n-1+1):Nat):Int).natAbs<=2^((n-1+1)*(n-1)) by rw[Int.natAbs_natCast];exact Bs _)
 exact⟨_,Int.mul_ne_zero d1 aa,Nat.le_trans h4 (Nat.pow_le_pow_right (by decide) aa),fun i hi=>(I7 d3 hi (i+1) aa).more aa⟩
theorem Rh {c:PP} (t:Trim c) (hl:c.1<=7) (hb:Bd c 156):kG c:=⟨t,aa,hb,gY,c,⟨fun t=>by rw[jo,Rat.one_mul],⟨bz c,fun t=>by rw[jo,Rat.one_mul]⟩⟩,Nat.le_trans mb hl⟩
theorem MA {p:PP} (h1:1<=p.1) (h2:p.1<=7) (hb:Bd p 100):oX p:=
 ⟨h1,aa,hb.more aa,Rh mI (Nat.le_trans fK h2) (dF.short ((FP hb).more aa) fK)⟩
theorem Oq:dF 4 (fz zA) 3:=⟨1,by decide,by decide,fun i hi=>ct.int (by
 rcases(show i=0\/i=1\/i=2\/i=3 by omega)with rfl|rfl|rfl|rfl<;>decide)⟩
theorem Jv:dF 3 (fz AT) 3:=⟨1,by decide,by decide,fun i hi=>ct.int (by
 rcases(show i=0\/i=1\/i=2 by omega)with rfl|rfl|rfl<;>decide)⟩
theorem IW:oX pA:=MA (by show 1<=4;omega) (by show 4<=7;omega) (dF.more (n:=4) (Q4 Oq) (by decide))
theorem ae6:oX pB:=MA (by show 1<=3;omega) (by show 3<=7;omega) (dF.more (n:=3) (Q4 Jv) (by decide))
theorem Lf {n s:Nat} {c:Nat->Rat} (h:dF n c s) (hs:2*(s+n*n+2*n)+2<=af):ki n c:=fun i k hi hk=>(NO h hi aa).more hs
theorem aaB:bp P MP 55:=by
 have hW:=cP
 refine cZ fun K args r hk hs _=>?_
 split at hs
 ·rename_i f
  simp only[aB]at hs
  subst hs
  intro need
  obtain⟨n0,n1,n2,n3⟩:=need
  refine iz (Iv (z:=zA) aa aa (fun i hi=>?_) (Lf Oq aa) K) hk ⟨wN rfl fun i hi=>?_,trivial⟩ [] trivial
  ·rcases(show i=0\/i=1\/i=2\/i=3 by omega)with rfl|rfl|rfl|rfl<;>decide
  ·rcases(show i=0\/i=1\/i=2\/i=3 by omega)with rfl|rfl|rfl|rfl
   ·exact n0
   ·exact n1
   ·exact n2
   ·exact n3
 ·rename_i f
  simp only[aB]at hs
  subst hs
  intro need
  obtain⟨n0,n1,n2⟩:=need
  refine iz (Iv (z:=AT) aa aa (fun i hi=>?_) (Lf Jv aa) K) hk ⟨wN rfl fun i hi=>?_,trivial⟩ [] trivial
  ·rcases(show i=0\/i=1\/i=2 by omega)with rfl|rfl|rfl<;>decide
  ·rcases(show i=0\/i=1\/i=2 by omega)with rfl|rfl|rfl
   ·exact n0
   ·exact n1
   ·exact n2
 ·simp at hs
theorem acS {τ:Nat}:ct 1 τ 0:=.zero
theorem afq {τ:Nat}:ct 1 τ 1:=⟨1,by decide+kernel,Nat.one_le_two_pow⟩
theorem zC {c:PP} (h:kG c) (h0:0<c.1):cj (aS c) (aQ c) 0:=xd h h0 (τ:=1) acS (by decide) (by decide) aa
theorem EP {c:PP} (h:kG c) (h0:0<c.1):cj (aS c) (aQ c) 1:=xd h h0 (τ:=1) afq (by decide) (by decide) aa
theorem P2 {c:PP} (h:kG c) (h0:0<c.1):Jf c:=⟨(CE h h0).1.2.2.1,((CE h h0).1.2.2.2 aa).1⟩
theorem ad4:Dr 1 pA:=by
 refine⟨IW.of,fun h0=>?_⟩
 have hp:=IW.pos h0
 have hg:=IW.gd
 have hl:ji 1 pA=[(0,0),(0,1)]:=by decide+kernel
 have hb:dn (aS (ak pA)) (aQ (ak pA)) 0 1=1:=by decide+kernel
 have hs:=C1 hg hp
 refine⟨(B5 hg hp).1,aa,zC hg hp,EP hg hp,⟨zC hg hp,EP hg hp,fun _ h1=>absurd hb h1⟩,by rw[hl];decide,P2 hg hp,fun j hj=>?_⟩
 have h1:∀j,(gu (ak pA) (j+1)).1<=1:=by
  intro j
  induction j with
  |zero=>decide+kernel
  |succ j ih=>exact Nat.le_trans (C9 (xX mI _)) ih
 cases j with
 |succ j=>exact absurd (h1 j) aa
 |zero=>
  have hgd:kG (gu (ak pA) 0):=Rh (xX mI 0) (by decide+kernel) ⟨2,by decide,by decide,fun i hi=>by
   have hi:i<2:=Nat.lt_of_lt_of_le hi (by decide+kernel)
   rcases(show i=0\/i=1 by omega)with rfl|rfl
   ·exact⟨-1,by decide+kernel,by decide⟩
   ·exact⟨2,by decide+kernel,by decide⟩⟩
  have hp2:0<(gu (ak pA) 0).1:=aa
  have hs2:=C1 hgd hp2
  refine⟨P2 hgd hp2,(B5 hgd hp2).1,aa,fun i hi=>?_⟩
  rw[hl]at hi ⊢
  have hi:i<2:=hi
  rcases(show i=0\/i=1 by omega)with rfl|rfl
  ·exact⟨zC hgd hp2,zC hgd hp2⟩
  ·exact⟨zC hgd hp2,EP hgd hp2⟩
theorem aae:bY P KF:=gM (aM aaB (aM (aat 1) (aM ai6 (aM adP iE))))
theorem Zs (K:Nat):aW P 12 K [] [] (aO (.bool true) []):=by
 have hW:=cP
 refine cB (r:=aO (.bool true) []) hT aae hm adK rfl bh rfl 200 ajr (fun _=>?_) K []
 simp only[ag.all,aC]
 refine⟨⟨aa,rfl,rfl,rfl,rfl,eO aX,ad4⟩,⟨aa,rfl,rfl,rfl,aa,aa,aa,aa,eO aX,by rw[hW];decide,by rw[hW];decide,?_⟩,⟨by decide+kernel,by decide+kernel,by decide+kernel,by decide+kernel,by decide+kernel,by decide+kernel,by decide+kernel,by decide+kernel,by decide+kernel,by decide+kernel,by decide+kernel,by decide+kernel,by decide+kernel⟩,.refl _⟩
 exact(ae6.cnt (A:=1) (B:=1) ⟨-2,by decide+kernel,by decide⟩ (by decide) (by decide) ⟨2,by decide+kernel,by decide⟩ (by decide) (by decide)).1
def Pe:Spec:=cD fun l=>match l with
 |[]=>some (aO (.bool true) [])
 |_=>none
theorem ad5:bp P Pe 12:=by
 refine cZ fun K args r hk hs _=>?_
 split at hs
 ·simp only[aB]at hs
  subst hs
  exact Zs K
 ·simp at hs
end Go.Am.B
namespace Go.Am
def Bz (g a b:PP):Prop:=∃u v:PP,∀t,aE g t=aE u t*aE a t+aE v t*aE b t
def uO:PP:=(0,fun _=>0)
theorem BQ {t:Rat}:aE uO t=0:=rfl
theorem Bz.left (a b:PP):Bz a a b:=⟨gY,uO,fun t=>by rw[jo,BQ];grind⟩
theorem Bz.right (a b:PP):Bz b a b:=⟨uO,gY,fun t=>by rw[jo,BQ];grind⟩
theorem Bz.rem {x y a b:PP} (hx:Bz x a b) (hy:Bz y a b) (h0:0<y.1):Bz (dj x y) a b:=by
 obtain⟨u,v,h1⟩:=hx
 obtain⟨w,z,h2⟩:=hy
 refine⟨iB u (gv (-1) (bZ (fE x y) w)),iB v (gv (-1) (bZ (fE x y) z)),fun t=>?_⟩
 have h3:=qo (a:=x) (d:=y) h0 t
 rw[ju,ju,gb,gb,cA,cA]
 rw[h1,h2]at h3
 grind
theorem Bz.tM {x y a b:PP} (hx:Bz x a b) {r:Rat} (e:∀t,aE y t=r*aE x t):Bz y a b:=by
 obtain⟨u,v,h1⟩:=hx
 exact⟨gv r u,gv r v,fun t=>by rw[e,gb,gb,h1];grind⟩
theorem OT {a b:PP}:∀j,Bz (bW (a,b) j).1 a b/\Bz (bW (a,b) j).2 a b
 |0=>⟨.left a b,.right a b⟩
 |j+1=>by
  obtain⟨i1,i2⟩:=OT (a:=a) (b:=b) j
  show Bz (fZ _).1 a b/\Bz (fZ _).2 a b
  unfold fZ
  by_cases h0:(bW (a,b) j).2.1=0
  ·rw[if_pos h0];exact⟨i1,i2⟩
  ·rw[if_neg h0];exact⟨i2,(i1.rem i2 (by omega)).tM fun _=>AS⟩
theorem Pm (a b:PP):Bz (bN a b) a b:=(OT (a:=a) (b:=b) _).1.tM fun _=>AS
def gA (a b:PP):Prop:=∃u v:PP,∀t,aE u t*aE a t+aE v t*aE b t=1
theorem gA.symm {a b:PP} (h:gA a b):gA b a:=by
 obtain⟨u,v,h⟩:=h
 exact⟨v,u,fun t=>by rw[Rat.add_comm];exact h t⟩
theorem gA.dv {a b c w:PP} (h:gA a b) (hd:∀t,aE b t*aE c t=aE a t*aE w t):Dv a c:=by
 obtain⟨u,v,h⟩:=h
 refine⟨iB (bZ c u) (bZ v w),fun t=>?_⟩
 have h1:=h t
 have h2:=hd t
 rw[ju,cA,cA]
 grind
theorem gA.rK {a b d:PP} (h:gA a b) (hd:Dv d a):gA d b:=by
 obtain⟨u,v,h⟩:=h
 obtain⟨w,hw⟩:=hd
 exact⟨bZ u w,v,fun t=>by rw[cA,<-h t,hw];grind⟩
theorem qv {a:PP} (ha:Trim a) (h:∀t,aE a t=0):a.1=0:=by
 have h1:=yT (b:=uO) ha (vi fun t=>by rw[h];rfl)
 exact Nat.le_zero.1 h1
theorem Ot {g d:PP} (h0:0<g.1) (tg:Trim g) (h:∀t,aE g t*aE d t=0) (t:Rat):aE d t=0:=by
 rw[<-eI]
 rcases Nat.eq_zero_or_pos (cz d).1 with h1|h1
 ·exact jl h1 t
 ·have h2:=OS h0 h1 tg fJ
  refine absurd ?_ h2
  rw[vi (b:=uO) fun t=>by rw[cA,eI,h];rfl];rfl
theorem A7 {g a b:PP} (h0:0<g.1) (tg:Trim g) (h:∀t,aE g t*aE a t=aE g t*aE b t) (t:Rat):aE a t=aE b t:=by
 have h1:=Ot (d:=iB a (gv (-1) b)) h0 tg (fun t=>by rw[ju,gb];have:=h t;grind) t
 rw[ju,gb]at h1;grind
theorem Em {a b:PP} (ta:Trim a) (tb:Trim b) (h0:0<a.1):∃a1 b1:PP,(∀t,aE a t=aE (bN a b) t*aE a1 t)/\(∀t,aE b t=aE (bN a b) t*aE b1 t)/\gA a1 b1:=by
 obtain⟨⟨a1,h1⟩,⟨b1,h2⟩⟩:=nj ta tb
 obtain⟨u,v,h3⟩:=Pm a b
 refine⟨a1,b1,h1,h2,u,v,fun t=>?_⟩
 have:=A7 (g:=bN a b) (a:=iB (bZ u a1) (bZ v b1)) (b:=gY) (mh h0) (j9 ta tb) (fun t=>by
  rw[ju,cA,cA,jo,Rat.mul_one]
  have e1:=h1 t
  have e2:=h2 t
  have e3:=h3 t
  generalize aE (bN a b) t=G at*
  rw[e1,e2]at e3
  grind) t
 rw[ju,cA,cA,jo]at this
 exact this
theorem RZ {c:PP} (tc:Trim c) (h0:0<c.1):∃(f e:PP) (l:Rat),l≠0/\(∀t,aE c t=aE (bN c (bz c)) t*aE f t)/\(∀t,dP c t=aE (bN c (bz c)) t*aE e t)/\gA f e/\∀t,aE (bg c) t=l*aE f t:=by
 obtain⟨f,e,h1,h2,h3⟩:=Em tc eC h0
 have hg:=mh (b:=bz c) h0
 have tg:=j9 tc (eC (a:=c))
 have hr:∀t,aE (dj c (bN c (bz c))) t=0:=fun t=>by
  have h4:=oA (a:=c) hg tg
  have h5:=(nj tc (eC (a:=c))).1.rem hg (Dv.refl _)
  rcases Nat.eq_zero_or_pos (dj c (bN c (bz c))).1 with h6|h6
  ·exact jl h6 t
  ·have:=h5.len h6 qI tg;omega
 have hq:∀t,aE (fE c (bN c (bz c))) t=aE f t:=A7 hg tg fun t=>by
  have:=qo (a:=c) hg t
  rw[hr,Rat.add_zero]at this
  rw[<-h1,this,Rat.mul_comm]
 have tq:Trim (fE c (bN c (bz c))):=yz
 have hq0:0<(fE c (bN c (bz c))).1:=by
  rcases Nat.eq_zero_or_pos (fE c (bN c (bz c))).1 with h6|h6
  ·have:=qv tc fun t=>by rw[h1,<-hq,jl h6,Rat.mul_zero]
   omega
  ·exact h6
 refine⟨f,e,_,?_,h1,fun t=>by rw[<-gN];exact h2 t,h3,fun t=>by
  unfold bg
  rw[if_neg (by omega),AS,hq]⟩
 rcases tq with h|h
 ·omega
 ·intro hi
  have:((fE c (bN c (bz c))).2 ((fE c (bN c (bz c))).1-1))⁻¹⁻¹=0:=by rw[hi,Rat.inv_zero]
  rw[Rat.inv_inv]at this
  exact h this
def iD (d:PP):Nat->PP
 |0=>gY
 |k+1=>bZ d (iD d k)
theorem oV {d:PP} {t:Rat}:∀k,aE (iD d k) t=aE d t^k
 |0=>by rw[Rat.pow_zero];exact jo
 |k+1=>by rw[iD,cA,oV k,Rat.pow_succ,Rat.mul_comm]
theorem ai8 {t:Rat}:dP gY t=0:=by
 show 0+1*(((0:Nat):Int)*t^(0-1):Rat)=0
 rw[show(((0:Nat):Int):Rat)=0 from rfl];grind
theorem Da {d:PP} {t:Rat}:∀k:Nat,aE d t*dP (iD d k) t=((k:Int):Rat)*(dP d t*aE d t^k)
 |0=>by rw[iD,ai8,show(((0:Nat):Int):Rat)=0 from rfl];grind
 |k+1=>by
  have h1:=Da (d:=d) (t:=t) k
  have h2:=kV (a:=d) (b:=iD d k) (c:=iD d (k+1)) (fun t=>cA) t
  rw[h2,oV,Rat.pow_succ,show(((k+1:Nat):Int):Rat)=((k:Int):Rat)+1 by rw[Int.natCast_add,Rat.intCast_add];rfl]
  generalize dP (iD d k) t=x at*
  generalize aE d t^k=y at*
  generalize ((k:Int):Rat)=K at*
  grind
theorem I3 {d:PP} (h0:0<d.1) (td:Trim d):∀k,(cz (iD d k)).1=k*(d.1-1)+1
 |0=>by
  show bO (fun _=>(1:Rat)) 1=_
  rw[qj (.inr (by decide))];omega
 |k+1=>by
  have ih:=I3 h0 td k
  have hp:0<(cz (iD d (k+1))).1:=by
   rcases Nat.eq_zero_or_pos (cz (iD d (k+1))).1 with h|h
   ·have h1:∀t,aE (cz (iD d k)) t=0:=Ot h0 td fun t=>by
     rw[eI,<-cA,show aE (bZ d (iD d k)) t=aE (cz (iD d (k+1))) t from(eI t).symm,jl h]
    have:=qv fJ h1
    omega
   ·exact h
  have:=(rm (a:=d) (b:=cz (iD d k)) (c:=cz (iD d (k+1))) (fun t=>by rw[eI,eI];exact cA) hp fJ td fJ).2.2
  rw[Nat.add_mul];omega
theorem EL {g d:PP} (hg:0<g.1) (tg:Trim g) (td:Trim d) (h1:1<d.1) (h:∀k:Nat,∃m:PP,∀t,aE g t=aE d t^k*aE m t):False:=by
 obtain⟨m,hm⟩:=h g.1
 have hd:Dv (cz (iD d g.1)) g:=⟨m,fun t=>by rw[hm,eI,oV]⟩
 have:=hd.len hg tg fJ
 rw[I3 (by omega) td]at this
 have:=Nat.le_mul_of_pos_right g.1 (show 0<d.1-1 by omega)
 omega
theorem Ez {d a b:PP} (h0:0<d.1) (td:Trim d) (k:Nat) (h:∀t,aE d t^k*aE a t=aE d t^k*aE b t) (t:Rat):aE a t=aE b t:=
 A7 (g:=cz (iD d k)) (by rw[I3 h0 td];omega) fJ (fun t=>by rw[eI,oV];exact h t) t
theorem uB {a:PP} (h0:0<a.1) (ta:Trim a):(dM a).2 (a.1-1)=1:=by
 show a.2 (a.1-1)/a.2 (a.1-1)=1
 have:a.2 (a.1-1)≠0:=by rcases ta with h|h;omega;exact h
 rw[Rat.div_def,Rat.mul_inv_cancel _ this]
theorem gcd_one {a b:PP} (ta:Trim a) (tb:Trim b) (h0:0<a.1) (h1:(bN a b).1=1) (t:Rat):aE (bN a b) t=1:=by
 have h2:=uB (a:=(bW (a,b) b.1).1) (uN (s:=(a,b)) h0 _) (lC (s:=(a,b)) ta tb _).1
 have h3:(bW (a,b) b.1).1.1=1:=h1
 rw[h3]at h2
 show ev (bN a b).1 (bN a b).2 t=1
 rw[h1]
 show 0+(bN a b).2 0*t^0=1
 rw[show(bN a b).2 0=1 from h2,Rat.pow_zero];grind
theorem ux {c:PP} (tc:Trim c) (h0:0<c.1):0<(bg c).1:=by
 obtain⟨f,e,l,hl,h1,h2,h3,h4⟩:=RZ tc h0
 rcases Nat.eq_zero_or_pos (bg c).1 with h|h
 ·have:=qv tc fun t=>by
   have h5:=h4 t
   rw[jl h]at h5
   rcases Rat.mul_eq_zero.1 h5.symm with h7|h7
   ·exact absurd h7 hl
   ·rw[h1,h7,Rat.mul_zero]
  omega
 ·exact h
theorem oH {c:PP} (tc:Trim c) (h0:0<c.1):∃G e:PP,0<G.1/\Trim G/\(∀t,aE c t=aE G t*aE (bg c) t)/\(∀t,dP c t=aE G t*aE e t)/\gA (bg c) e/\(∀t,aE G t=0->aE (bN c (bz c)) t=0)/\∀t,aE (bN c (bz c)) t=0->aE G t=0:=by
 obtain⟨f,e,l,hl,h1,h2,⟨u,v,h3⟩,h4⟩:=RZ tc h0
 have hl2:l⁻¹*l=1:=Rat.inv_mul_cancel _ hl
 have hli:l⁻¹≠0:=fun h=>by rw[h,Rat.zero_mul]at hl2;exact absurd hl2 (by decide)
 refine⟨gv l⁻¹ (bN c (bz c)),gv l e,mh h0,xk (j9 tc eC) hli,fun t=>?_,fun t=>?_,⟨gv l⁻¹ u,gv l⁻¹ v,fun t=>?_⟩,fun t h=>?_,fun t h=>?_⟩
 ·rw[gb,h4,h1];grind
 ·rw[gb,gb,h2];grind
 ·have:=h3 t
  rw[gb,gb,gb,h4];grind
 ·rw[gb]at h
  rcases Rat.mul_eq_zero.1 h with h|h
  ·exact absurd h hli
  ·exact h
 ·rw[gb,h,Rat.mul_zero]
theorem AO {c:PP} (tc:Trim c) (h0:0<c.1):gA (bg c) (bz (bg c)):=by
 obtain⟨g,e,hg,tg,h1,h2,h3,_⟩:=oH tc h0
 have tF:Trim (bg c):=iI
 have hF:=ux tc h0
 generalize bg c=F at*
 have td:Trim (bN F (bz F)):=j9 tF eC
 have hd0:0<(bN F (bz F)).1:=mh hF
 obtain⟨⟨f1,e1⟩,⟨f2,e2⟩⟩:=nj tF (eC (a:=F))
 rcases Nat.lt_or_ge 1 (bN F (bz F)).1 with hd1|hd1
 ·have hcop:=h3.rK (d:=bN F (bz F)) ⟨f1,e1⟩
  generalize bN F (bz F)=d at*
  refine(EL hg tg td hd1 fun k=>?_).elim
  induction k with
  |zero=>exact⟨g,fun t=>by rw[Rat.pow_zero,Rat.one_mul]⟩
  |succ k ih=>
   obtain⟨m,hm⟩:=ih
   have k1:∀t,dP c t=dP g t*aE F t+aE g t*dP F t:=fun t=>kV h1 t
   have k2:∀t,dP g t=dP (iD d k) t*aE m t+aE (iD d k) t*dP m t:=fun t=>kV (fun t=>by rw[hm,oV]) t
   have k3:∀t,dP F t=dP d t*aE f1 t+aE d t*dP f1 t:=fun t=>kV e1 t
   have key:=Ez hd0 td k (a:=bZ e m) (b:=bZ d (iB (gv ((k:Int):Rat) (bZ m (iB f2 (gv (-1) (bz f1))))) (iB (bZ (bz m) f1) (bZ m f2)))) fun t=>by
    rw[cA,cA,ju,gb,cA,ju,gb,ju,cA,cA,gN,gN]
    have a1:=k1 t
    have a2:=k2 t
    have a3:=k3 t
    have a4:=Da (d:=d) (t:=t) k
    have a5:=h2 t
    have a6:=hm t
    have a8:=e1 t
    have a9:=e2 t
    rw[gN]at a9
    rw[oV]at a2
    generalize dP (iD d k) t=P at*
    generalize aE d t^k=D at*
    generalize ((k:Int):Rat)=K at*
    generalize aE d t=dd at*
    generalize dP d t=d' at*
    generalize aE f1 t=x1 at*
    generalize dP f1 t=y1 at*
    generalize aE f2 t=x2 at*
    generalize aE m t=mm at*
    generalize dP m t=m' at*
    generalize aE e t=ee at*
    rw[a5,a6,a2,a9,a8]at a1
    have s2:d'*x1=dd*x2-dd*y1:=by rw[a9]at a3;grind
    calc D*(ee*mm)=D*mm*ee:=by grind
     _=mm*x1*(dd*P)+D*dd*(m'*x1+mm*x2):=by rw[a1];grind
     _=mm*x1*(K*(d'*D))+D*dd*(m'*x1+mm*x2):=by rw[a4]
     _=K*mm*D*(d'*x1)+D*dd*(m'*x1+mm*x2):=by grind
     _=K*mm*D*(dd*x2-dd*y1)+D*dd*(m'*x1+mm*x2):=by rw[s2]
     _=_:=by grind
   obtain⟨w,hw⟩:=hcop.dv (c:=m) (w:=iB (gv ((k:Int):Rat) (bZ m (iB f2 (gv (-1) (bz f1))))) (iB (bZ (bz m) f1) (bZ m f2))) fun t=>by rw[<-cA,key t,cA]
   exact⟨w,fun t=>by rw[hm,hw,Rat.pow_succ];grind⟩
 ·obtain⟨u,v,h5⟩:=Pm F (bz F)
  exact⟨u,v,fun t=>by rw[<-h5,gcd_one tF eC hF (by omega)]⟩
def mZ (x:Rat):PP:=(2,fun i=>if i=0 then-x else 1)
theorem DT {x t:Rat}:aE (mZ x) t=t-x:=by
 show 0+(if(0:Nat)=0 then-x else 1)*t^0+(if(1:Nat)=0 then-x else 1)*t^1=_
 rw[if_pos rfl,if_neg (by decide),Rat.pow_zero,Rat.pow_succ,Rat.pow_zero];grind
theorem O6 {x t:Rat}:dP (mZ x) t=1:=by
 show 0+(if(0:Nat)=0 then-x else 1)*(((0:Nat):Int)*t^(0-1):Rat)+(if(1:Nat)=0 then-x else 1)*(((1:Nat):Int)*t^(1-1):Rat)=1
 rw[if_pos rfl,if_neg (by decide),show(((0:Nat):Int):Rat)=0 from rfl,show(((1:Nat):Int):Rat)=1 from rfl,show 1-1=0 from rfl,Rat.pow_zero];grind
theorem PL {x:Rat}:Trim (mZ x):=.inr (by show(if(1:Nat)=0 then-x else(1:Rat))≠0;rw[if_neg (by decide)];decide)
theorem St {m:PP} {x:Rat} (h:aE m x=0):Dv (mZ x) m:=by
 rcases Nat.eq_zero_or_pos m.1 with h0|h0
 ·exact⟨uO,fun t=>by rw[jl h0,BQ,Rat.mul_zero]⟩
 ·obtain⟨n,hn⟩:∃n,m.1=n+1:=⟨m.1-1,by omega⟩
  refine⟨(n,kn (n+1) m.2 x),fun t=>?_⟩
  have h1:=we (k:=m.2) (c:=x) (t:=t) n
  have h2:ev (n+1) m.2 x=0:=by rw[<-hn];exact h
  rw[DT]
  show ev m.1 m.2 t=_
  rw[hn,h1,h2,Rat.add_zero];rfl
theorem OD {c:PP} (tc:Trim c) (h0:0<c.1) {x:Rat} (hx:aE c x=0):aE (bg c) x=0:=by
 obtain⟨g,e,hg,tg,h1,h2,h3,_⟩:=oH tc h0
 generalize bg c=F at*
 refine Decidable.byContradiction fun hF=>?_
 refine EL hg tg (PL (x:=x)) (show 1<2 by decide) fun k=>?_
 induction k with
 |zero=>exact⟨g,fun t=>by rw[Rat.pow_zero,Rat.one_mul]⟩
 |succ k ih=>
  obtain⟨m,hm⟩:=ih
  have hmx:aE m x=0:=by
   rcases Nat.eq_zero_or_pos k with hk|hk
   ·subst hk
    have:=hm x
    rw[Rat.pow_zero,Rat.one_mul]at this
    rw[h1,this]at hx
    rcases Rat.mul_eq_zero.1 hx with h|h
    ·exact h
    ·exact absurd h hF
   ·have k1:∀t,dP c t=dP g t*aE F t+aE g t*dP F t:=fun t=>kV h1 t
    have k2:∀t,dP g t=dP (iD (mZ x) k) t*aE m t+aE (iD (mZ x) k) t*dP m t:=fun t=>kV (fun t=>by rw[hm,oV]) t
    have key:=Ez (show 0<2 by decide) (PL (x:=x)) k (a:=gv ((k:Int):Rat) (bZ m F)) (b:=bZ (mZ x) (iB (bZ e m) (gv (-1) (iB (bZ (bz m) F) (bZ m (bz F)))))) fun t=>by
     rw[gb,cA,cA,ju,cA,gb,ju,cA,cA,gN,gN]
     have a1:=k1 t
     have a2:=k2 t
     have a4:=Da (d:=mZ x) (t:=t) k
     have a5:=h2 t
     have a6:=hm t
     rw[oV]at a2
     rw[O6]at a4
     generalize dP (iD (mZ x) k) t=P at*
     generalize aE (mZ x) t^k=D at*
     generalize ((k:Int):Rat)=K at*
     generalize aE (mZ x) t=dd at*
     generalize aE F t=ff at*
     generalize dP F t=f' at*
     generalize aE m t=mm at*
     generalize dP m t=m' at*
     generalize aE e t=ee at*
     rw[a5,a6,a2]at a1
     calc D*(K*(mm*ff))=mm*ff*(K*(1*D)):=by grind
      _=mm*ff*(dd*P):=by rw[a4]
      _=dd*(P*mm*ff):=by grind
      _=dd*(D*mm*ee-D*m'*ff-D*mm*f'):=by rw[a1];grind
      _=_:=by grind
    have h5:=key x
    rw[cA,DT,show x-x=0 by grind,Rat.zero_mul,gb,cA]at h5
    rcases Rat.mul_eq_zero.1 h5 with h|h
    ·have:((k:Int):Rat)=((0:Nat):Int):=h
     have:=JF this
     omega
    ·rcases Rat.mul_eq_zero.1 h with h|h
     ·exact h
     ·exact absurd h hF
  obtain⟨w,hw⟩:=St hmx
  exact⟨w,fun t=>by rw[hm,hw,Rat.pow_succ];grind⟩
theorem W4 {y:Rat} {b c:Int} (h:y*y+(b:Rat)*y+(c:Rat)=0):y.den=1:=by
 have hd:((y.den:Int):Rat)≠0:=qe (D:=(y.den:Int)) (by have:=y.den_pos;omega)
 have e1:y*((y.den:Int):Rat)=(y.num:Rat):=by
  have:=Rat.num_divInt_den y
  rw[Rat.divInt_eq_div]at this
  have h2:=Rat.div_mul_cancel (a:=(y.num:Rat)) hd
  rwa [this]at h2
 have e2:(y.num:Rat)*(y.num:Rat)+(b:Rat)*(y.num:Rat)*((y.den:Int):Rat)+(c:Rat)*((y.den:Int):Rat)*((y.den:Int):Rat)=0:=by
  rw[<-e1]
  generalize ((y.den:Int):Rat)=d at*
  have:y*d*(y*d)+(b:Rat)*(y*d)*d+(c:Rat)*d*d=d*d*(y*y+(b:Rat)*y+(c:Rat)):=by grind
  rw[this,h,Rat.mul_zero]
 have e3:y.num*y.num+b*y.num*(y.den:Int)+c*(y.den:Int)*(y.den:Int)=0:=by
  have:((y.num*y.num+b*y.num*(y.den:Int)+c*(y.den:Int)*(y.den:Int):Int):Rat)=((0:Int):Rat):=by
   rw[Rat.intCast_add,Rat.intCast_add,Rat.intCast_mul,Rat.intCast_mul,Rat.intCast_mul,Rat.intCast_mul,Rat.intCast_mul];exact e2
  exact_mod_cast this
 have e4:(y.den:Int)∣y.num*y.num:=⟨-(b*y.num+c*y.den),by grind⟩
 have e5:y.den∣y.num.natAbs*y.num.natAbs:=by
  have:=Int.natAbs_dvd_natAbs.2 e4
  rwa [Int.natAbs_mul,Int.natAbs_natCast]at this
 have e6:Nat.Coprime y.den y.num.natAbs:=Nat.Coprime.symm y.reduced
 have e7:=Nat.Coprime.dvd_of_dvd_mul_left e6 e5
 exact e6.eq_one_of_dvd e7
theorem akx:(1:Rat)⁻¹=1:=by decide+kernel
theorem E6 {q d:PP} (hb:Bd q 13) (tq:Trim q) (q0:0<q.1) (lq:q.1<=3) (td:Trim d) (d0:0<d.1) (d1:d.2 (d.1-1)=1) (hd:Dv d q):Bd d 27/\d.1<=3:=by
 have hl:=hd.len q0 tq td
 refine⟨?_,aa⟩
 have one:∀s,ct 1 s 1:=fun s=>⟨1,(Rat.one_mul _).symm,Nat.one_le_two_pow⟩
 rcases(show d.1=1\/d.1=q.1\/(d.1=2/\q.1=3) by omega)with h|h|⟨h,h'⟩
 ·refine⟨1,by decide,Nat.one_le_two_pow,fun i hi=>?_⟩
  obtain rfl:i=0:=aa
  rw[h]at d1
  rw[show d.2 0=1 from d1];exact one _
 ·obtain⟨w,hw⟩:=hd
  have hw1:(cz w).1=1:=by
   have:=(rm (b:=cz w) (fun t=>by rw[hw,eI]) q0 tq td fJ).2.2
   have:=(rm (b:=cz w) (fun t=>by rw[hw,eI]) q0 tq td fJ).2.1
   omega
  have e:∀t,aE q t=w.2 0*aE d t:=fun t=>by
   rw[hw,<-eI (a:=w)]
   show _*ev (cz w).1 w.2 t=_
   rw[hw1]
   show _*(0+w.2 0*t^0)=_
   rw[Rat.pow_zero];grind
  have hl0:w.2 0≠0:=fun h0=>by
   have:=qv tq fun t=>by rw[e,h0,Rat.zero_mul]
   omega
  have hp:gO q (gv (w.2 0) d):=C2 tq (xk td hl0) fun t=>by rw[e,gb]
  have hs:ng q d:=⟨w.2 0,hl0,h.symm,fun i hi=>hp.2 i hi⟩
  have h2:gO (dM d) d:=⟨rfl,fun i _=>by show d.2 i/d.2 (d.1-1)=d.2 i;rw[d1,Rat.div_def,akx,Rat.mul_one]⟩
  exact((hb.cN tq).D3 (hs.cN.trans h2)).more aa
 ·obtain⟨D,hD,hD2,hz⟩:=hb
  obtain⟨z0,a0,b0⟩:=hz 0 aa
  obtain⟨z1,a1,b1⟩:=hz 1 aa
  obtain⟨z2,a2,b2⟩:=hz 2 aa
  have hq2:q.2 2≠0:=by rcases tq with h3|h3;omega;rw[h']at h3;exact h3
  have hDr:=qe hD
  have hz2:z2≠0:=fun h0=>by
   rw[h0]at a2
   rcases Rat.mul_eq_zero.1 (show q.2 2*(D:Rat)=0 from a2.symm)with h3|h3
   ·exact hq2 h3
   ·exact hDr h3
  obtain⟨w,hw⟩:=hd
  have ed:∀t,aE d t=d.2 0+t:=fun t=>by
   show ev d.1 d.2 t=_
   rw[h]at d1 ⊢
   show 0+d.2 0*t^0+d.2 1*t^1=_
   rw[show d.2 1=1 from d1,Rat.pow_succ,Rat.pow_zero];grind
  have eq0:aE q (-d.2 0)=0:=by rw[hw,ed];grind
  have eq1:q.2 0+q.2 1*(-d.2 0)+q.2 2*(d.2 0*d.2 0)=0:=by
   have:ev q.1 q.2 (-d.2 0)=0:=eq0
   rw[h']at this
   have this:0+q.2 0*(-d.2 0)^0+q.2 1*(-d.2 0)^1+q.2 2*(-d.2 0)^2=0:=this
   rw[Rat.pow_succ,Rat.pow_succ,Rat.pow_succ,Rat.pow_zero]at this
   grind
  -- y = - z2 d0
  have ey:(z2:Rat)*d.2 0*((z2:Rat)*d.2 0)+((-z1:Int):Rat)*((z2:Rat)*d.2 0)+((z0*z2:Int):Rat)=0:=by
   rw[Rat.intCast_neg,Rat.intCast_mul]
   have:(z2:Rat)*d.2 0*((z2:Rat)*d.2 0)+-(z1:Rat)*((z2:Rat)*d.2 0)+(z0:Rat)*(z2:Rat)=(z2:Rat)*((z0:Rat)+(z1:Rat)*(-d.2 0)+(z2:Rat)*(d.2 0*d.2 0)):=by grind
   rw[this,a0,a1,a2]
   have:q.2 0*(D:Rat)+q.2 1*(D:Rat)*(-d.2 0)+q.2 2*(D:Rat)*(d.2 0*d.2 0)=(D:Rat)*(q.2 0+q.2 1*(-d.2 0)+q.2 2*(d.2 0*d.2 0)):=by grind
   rw[this,eq1];grind
  have hden:=W4 ey
  obtain⟨y,hy⟩:∃y:Int,(y:Rat)=(z2:Rat)*d.2 0:=⟨((z2:Rat)*d.2 0).num,Rat.ext rfl (id (Eq.symm hden))⟩
  rw[<-hy]at ey
  have ez:y*(y-z1)=-(z0*z2):=by
   have:((y*y+(-z1)*y+z0*z2:Int):Rat)=((0:Int):Rat):=by
    rw[Rat.intCast_add,Rat.intCast_add,Rat.intCast_mul,Rat.intCast_mul];exact ey
   have:y*y+(-z1)*y+z0*z2=0:=by exact_mod_cast this
   grind
  have hyb:y.natAbs<=2^27:=by
   have n1:y.natAbs*(y-z1).natAbs=z0.natAbs*z2.natAbs:=by rw[<-Int.natAbs_mul,ez,Int.natAbs_neg,Int.natAbs_mul]
   have n2:z0.natAbs*z2.natAbs<=2^13*2^13:=Nat.mul_le_mul b0 b2
   refine Decidable.byContradiction fun hn=>?_
   have n3:2^26+1<=(y-z1).natAbs:=aa
   have n4:1*(2^26+1)<=y.natAbs*(y-z1).natAbs:=Nat.mul_le_mul aa n3
   omega
  refine⟨z2,hz2,Nat.le_trans b2 (by decide),fun i hi=>?_⟩
  rcases(show i=0\/i=1 by omega)with rfl|rfl
  ·exact⟨y,by rw[hy,Rat.mul_comm],hyb⟩
  ·rw[h]at d1
   rw[show d.2 1=1 from d1]
   exact⟨z2,(Rat.one_mul _).symm,Nat.le_trans b2 (by decide)⟩
def kK (i:Nat) (c:PP):Prop:=∀g:PP,Trim g->0<g.1->Dv g c->∃(l:Rat) (w h f:PP),l≠0/\(∀t,aE g t=l*aE w t)/\Bd w (120*i)/\Trim w/\j6 w h f/\(cz f).1<=2*i+1
theorem kK.of_eq {i:Nat} {c c':PP} (h:kK i c) (e:∀t,aE c t=aE c' t):kK i c':=fun g tg g0 hd=>h g tg g0 (hd.of_eq fun t=>(e t).symm)
theorem UR {s:Nat}:Bd gY s:=⟨1,by decide,Nat.one_le_two_pow,fun i _=>⟨1,(Rat.one_mul _).symm,Nat.one_le_two_pow⟩⟩
theorem Cc:Trim gY:=.inr (by decide)
theorem kK.one:kK 0 gY:=fun g tg g0 hd=>by
 have hl:=hd.len (show 0<1 by decide) Cc tg
 have hl:g.1<=1:=hl
 have h1:g.1=1:=aa
 have e:∀t,aE g t=g.2 0:=fun t=>by
  show ev g.1 g.2 t=_
  rw[h1]
  show 0+g.2 0*t^0=_
  rw[Rat.pow_zero];grind
 refine⟨g.2 0,gY,gY,gY,fun h0=>?_,fun t=>by rw[e,jo,Rat.mul_one],UR,Cc,j6.one,mb⟩
 have:=qv tg fun t=>by rw[e,h0]
 omega
theorem PZ {g w:PP} {l:Rat} (tg:Trim g) (tw:Trim w) (hl:l≠0) (e:∀t,aE g t=l*aE w t):g.1=w.1:=
 (C2 (b:=gv l w) tg (xk tw hl) fun t=>by rw[e,gb]).1
theorem FN {g q c c':PP} (tg:Trim g) (g0:0<g.1) (tq:Trim q) (e:∀t,aE c' t=aE c t*aE q t) (hd:Dv g c'):
  ∃d g1:PP,Trim d/\0<d.1/\d.2 (d.1-1)=1/\Dv d q/\Trim g1/\0<g1.1/\(∀t,aE g t=aE d t*aE g1 t)/\Dv g1 c/\∀h,Dv h g->Dv h q->Dv h d:=by
 obtain⟨a1,b1,h1,h2,h3⟩:=Em tg tq g0
 obtain⟨w,hw⟩:=hd
 have td:=j9 tg tq
 have d0:=mh (b:=q) g0
 have hc:∀t,aE (bZ b1 c) t=aE (bZ a1 w) t:=A7 d0 td fun t=>by
  have k1:=h1 t
  have k2:=h2 t
  have k3:=hw t
  have k4:=e t
  rw[cA,cA]
  generalize aE (bN g q) t=x at*
  rw[k4,k1,k2]at k3
  grind
 have hd1:Dv a1 c:=h3.dv (w:=w) fun t=>by rw[<-cA,hc,cA]
 refine⟨bN g q,cz a1,td,d0,uB (a:=(bW (g,q) q.1).1) (uN (s:=(g,q)) g0 _) (lC (s:=(g,q)) tg tq _).1,⟨b1,h2⟩,fJ,?_,fun t=>by rw[eI];exact h1 t,hd1.imp fun w hw t=>by rw[hw,eI],fun h k1 k2=>wG k1 k2⟩
 rcases Nat.eq_zero_or_pos (cz a1).1 with h|h
 ·have:=qv tg fun t=>by rw[h1,<-eI (a:=a1),jl h,Rat.mul_zero]
  omega
 ·exact h
theorem kK.ab3 {i:Nat} {c c' q:PP} (h:kK i c) (hc:0<(cz c').1/\(cz c').1<=30) (hb:Bd q 13) (tq:Trim q) (q0:0<q.1) (lq:q.1<=3) (e:∀t,aE c' t=aE c t*aE q t):kK (i+1) c':=fun g tg g0 hd=>by
 have lg:g.1<=30:=Nat.le_trans ((hd.of_eq fun t=>(eI t).symm).len hc.1 fJ tg) hc.2
 obtain⟨d,g1,td,d0,d1,dq,t1,p1,e1,k1,_⟩:=FN tg g0 tq e hd
 obtain⟨bd,ld⟩:=E6 hb tq q0 lq td d0 d1 dq
 obtain⟨l,w,hh,f,hl,ew,bw,tw,sq,lf⟩:=h g1 t1 p1 k1
 have lg1:=Dv.len (h:=g1) (g:=g) ⟨d,fun t=>by rw[e1,Rat.mul_comm]⟩ g0 tg t1
 have lw:=PZ t1 tw hl ew
 refine⟨l,cz (bZ w d),hh,bZ f d,hl,fun t=>by rw[e1,ew,eI,cA];grind,dF.short ((xg bw bd aa aa).more aa) mb,fJ,(sq.HQ (c':=bZ w d) fun t=>cA).of_eq fun t=>(eI t).symm,?_⟩
 have c1:=CV (a:=f) (b:=d)
 have c2:=mb (a:=d)
 omega
theorem kK.acP {i:Nat} {c c' q:PP} (h:kK i c) (hc:0<(cz c').1/\(cz c').1<=30) (hb:Bd q 13) (tq:Trim q) (q0:0<q.1) (lq:q.1<=3) (e:∀t,aE c' t=aE c t*aE q t*aE q t):kK (i+1) c':=fun g tg g0 hd=>by
 have lg:g.1<=30:=Nat.le_trans ((hd.of_eq fun t=>(eI t).symm).len hc.1 fJ tg) hc.2
 obtain⟨d1,g1,td1,d10,d11,dq1,t1,p1,e1,k1,u1⟩:=FN (c:=bZ c q) tg g0 tq (fun t=>by rw[cA,e]) hd
 obtain⟨d2,g2,td2,d20,d21,dq2,t2,p2,e2,k2,_⟩:=FN (c:=c) t1 p1 tq (fun t=>cA) k1
 have dg:Dv d2 d1:=u1 d2 ⟨bZ d1 g2,fun t=>by rw[e1,e2,cA];grind⟩ dq2
 obtain⟨x,hx⟩:=dg
 have x0:0<(cz x).1/\d1.1=d2.1-1+((cz x).1-1)+1:=by
  have:=rm (a:=d2) (b:=cz x) (fun t=>by rw[eI];exact hx t) d10 td1 td2 fJ
  exact⟨this.2.1,this.2.2⟩
 have ll:=dq1.len q0 tq td1
 have xm:Dv (dM (cz x)) q:=by
  obtain⟨v,hv⟩:=dq1
  refine⟨gv ((cz x).2 ((cz x).1-1)) (bZ d2 v),fun t=>?_⟩
  rw[hv,hx,<-eI (a:=x),DO fJ,gb,cA];grind
 obtain⟨bx,lx⟩:=E6 hb tq q0 lq (mO fJ) x0.1 (uB x0.1 fJ) xm
 obtain⟨b2,l2⟩:=E6 hb tq q0 lq td2 d20 d21 dq2
 obtain⟨l,w,hh,f,hl,ew,bw,tw,sq,lf⟩:=h g2 t2 p2 k2
 have lg2:=Dv.len (h:=g2) (g:=g) ⟨bZ d1 d2,fun t=>by rw[e1,e2,cA];grind⟩ g0 tg t2
 have lw:=PZ t2 tw hl ew
 have hxl:(cz x).2 ((cz x).1-1)≠0:=by rcases fJ (a:=x)with h|h;omega;exact h
 have lx':(dM (cz x)).1=(cz x).1:=rfl
 have y1:=xg bw bx aa aa
 have y2:=xg y1 b2 (by show w.1+(cz x).1+1<=_;omega) aa
 have y3:=xg y2 b2 (by show w.1+(cz x).1+1+d2.1+1<=_;omega) aa
 refine⟨l*(cz x).2 ((cz x).1-1),cz (bZ (bZ (bZ w (dM (cz x))) d2) d2),bZ hh d2,bZ (bZ f (dM (cz x))) d2,fun h0=>(Rat.mul_eq_zero.1 h0).elim hl hxl,fun t=>?_,dF.short (y3.more aa) mb,fJ,((sq.HQ (c':=bZ w (dM (cz x))) fun t=>cA).Nm (c':=bZ (bZ (bZ w (dM (cz x))) d2) d2) fun t=>by rw[cA,cA]).of_eq fun t=>(eI t).symm,?_⟩
 ·rw[e1,e2,ew,hx,<-eI (a:=x),DO fJ,eI,cA,cA,cA];grind
 ·have c1:=CV (a:=bZ f (dM (cz x))) (b:=d2)
  have c2:=CV (a:=f) (b:=dM (cz x))
  have c3:=mb (a:=d2)
  have c4:=mb (a:=dM (cz x))
  omega
def tv (i:Nat) (p:PP):Prop:=(∃t,jI p t≠0)->kK i (ig p)
theorem tv.one:tv 0 (1,fun _=>1):=fun _=>kK.one.of_eq fun t=>by rw[mH (show 1<=1 by decide),jo];rfl
theorem tv.step {i r:Nat} {p q:PP} (h:tv i p) (hp:1<=p.1) (hq:rL q) (hr:1<=r/\r<=2) (hl30:(iM p q r).1<=30):tv (i+1) (iM p q r):=fun⟨t0,h0⟩=>by
 have hl:=zh hp hq r
 have bq:Bd (cz (ig q)) 13:=dF.short hq.pw mb
 have lq:(cz (ig q)).1<=3:=Nat.le_trans mb hq.hi
 have key:jI p t0≠0->jI q t0≠0->kK i (ig p)/\0<(cz (ig q)).1:=fun h1 h2=>⟨h ⟨t0,h1⟩,by
  rcases Nat.eq_zero_or_pos (cz (ig q)).1 with h3|h3
  ·exact absurd (by rw[<-mH hq.lo,<-eI,jl h3]) h2
  ·exact h3⟩
 have hc:0<(cz (ig (iM p q r))).1/\(cz (ig (iM p q r))).1<=30:=⟨by
  rcases Nat.eq_zero_or_pos (cz (ig (iM p q r))).1 with h3|h3
  ·exact absurd (by rw[<-mH hl.1,<-eI,jl h3]) h0
  ·exact h3,Nat.le_trans mb hl30⟩
 rcases(show r=1\/r=2 by omega)with rfl|rfl
 ·have e:∀t,jI (iM p q 1) t=jI p t*jI q t:=fun t=>wj t
  rw[e]at h0
  obtain⟨k1,k2⟩:=key (fun h=>h0 (by rw[h,Rat.zero_mul])) (fun h=>h0 (by rw[h,Rat.mul_zero]))
  exact k1.ab3 hc bq fJ k2 lq fun t=>by rw[mH hl.1,e,eI,mH hp,mH hq.lo]
 ·have e:∀t,jI (iM p q 2) t=jI p t*jI q t*jI q t:=fun t=>by
   show jI (sO (sO p q) q) t=_
   rw[wj,wj]
  rw[e]at h0
  obtain⟨k1,k2⟩:=key (fun h=>h0 (by rw[h,Rat.zero_mul,Rat.zero_mul])) (fun h=>h0 (by rw[h,Rat.mul_zero]))
  exact k1.acP hc bq fJ k2 lq fun t=>by rw[mH hl.1,e,eI,mH hp,mH hq.lo]
structure cW (c:PP):Prop where
 tr:Trim c
 p0:0<c.1
 len:c.1<=13
 bd:Bd c 800
 dv:∀g:PP,Trim g->0<g.1->Dv g c->Bd (dM g) 800/\∃h f:PP,j6 g h f/\(cz f).1<=7
theorem aeh {g:PP} (h:g.2 (g.1-1)=1):gO (dM g) g:=⟨rfl,fun i _=>by
 show g.2 i/g.2 (g.1-1)=g.2 i
 have:(1:Rat)⁻¹=1:=by decide+kernel
 rw[h,Rat.div_def,this,Rat.mul_one]⟩
theorem cW.rK {c g:PP} (h:cW c) (tg:Trim g) (g0:0<g.1) (hd:Dv g c) (hm:g.2 (g.1-1)=1):cW g where
 tr:=tg
 p0:=g0
 len:=Nat.le_trans (hd.len h.p0 h.tr tg) h.len
 bd:=(h.dv g tg g0 hd).1.D3 (aeh hm)
 dv:=fun k tk k0 kd=>h.dv k tk k0 (kd.trans hd)
theorem kK.gd {i:Nat} {c:PP} (h:kK i c) (hi:i<=6) (hf:i<=3\/c.1<=7) (tc:Trim c) (c0:0<c.1) (lc:c.1<=13) (bc:Bd c 800):cW c where
 tr:=tc
 p0:=c0
 len:=lc
 bd:=bc
 dv:=fun g tg g0 hd=>by
  obtain⟨l,w,hh,f,hl,ew,bw,tw,sq,lf⟩:=h g tg g0 hd
  have hp:gO g (gv l w):=C2 tg (xk tw hl) fun t=>by rw[ew,gb]
  have hs:ng g w:=⟨l,hl,hp.1,fun i hi=>hp.2 i hi⟩
  have bw2:Bd w 800:=bw.more aa
  refine⟨(bw2.cN tw).D3 hs.cN.symm,?_⟩
  rcases hf with hf|hf
  ·refine⟨hh,gv l f,⟨fun t=>by rw[ew,sq.eq,gb];grind,sq.dv.tM l fun t=>?_⟩,?_⟩
   ·have:=kV (a:=(1,fun _=>l)) (b:=w) (c:=g) (fun t=>by rw[ew];congr 1;show l=0+l*t^0;rw[Rat.pow_zero];grind) t
    rw[gN,gN,this]
    have z:dP (1,fun _=>l) t=0:=by
     show 0+l*(((0:Nat):Int)*t^(0-1):Rat)=0
     rw[show(((0:Nat):Int):Rat)=0 from rfl];grind
    have z2:aE (1,fun _=>l) t=l:=by show 0+l*t^0=l;rw[Rat.pow_zero];grind
    rw[z,z2];grind
   ·show bO (fun i=>l*f.2 i) f.1<=7
    rw[Jq hl]
    have:bO f.2 f.1<=2*i+1:=lf
    omega
  ·have:=hd.len c0 tc tg
   exact⟨gY,g,⟨fun t=>by rw[jo,Rat.one_mul],⟨bz g,fun t=>by rw[jo,Rat.one_mul]⟩⟩,Nat.le_trans mb aa⟩
theorem cW.gcd {c:PP} (h:cW c):cW (bN c (bz c)):=
 h.rK (j9 h.tr eC) (mh h.p0) (nj h.tr eC).1 (uB (a:=(bW (c,bz c) (bz c).1).1) (uN (s:=(c,bz c)) h.p0 _) (lC (s:=(c,bz c)) h.tr eC _).1)
theorem Zz {c:PP} (tc:Trim c) (c0:0<c.1):(bg c).2 ((bg c).1-1)=1:=by
 have h:=ux tc c0
 unfold bg at h ⊢
 rw[if_neg aa]at h ⊢
 exact uB h yz
theorem cW.free {c:PP} (h:cW c):cW (bg c)/\(bg c).1<=7:=by
 obtain⟨G,e,_,_,h1,_⟩:=oH h.tr h.p0
 obtain⟨_,hh,f,sq,lf⟩:=h.dv c h.tr h.p0 (.refl c)
 exact⟨h.rK iI (ux h.tr h.p0) ⟨G,fun t=>by rw[h1,Rat.mul_comm]⟩ (Zz h.tr h.p0),Nat.le_trans (ahA sq h.p0 h.tr) lf⟩
def Ab (x M:Rat):Prop:=-M<=x/\x<=M
theorem Ab.add {x y M N:Rat} (h:Ab x M) (h':Ab y N):Ab (x+y) (M+N):=by
 unfold Ab at*;constructor<;>grind
theorem Ab.sub {x y M N:Rat} (h:Ab x M) (h':Ab y N):Ab (x-y) (M+N):=by
 unfold Ab at*;constructor<;>grind
theorem Ab.mul {x y M N:Rat} (h:Ab x M) (h':Ab y N):Ab (x*y) (M*N):=by
 unfold Ab at*
 have h1:=Rat.mul_nonneg (a:=M-x) (b:=N+y) (by grind) (by grind)
 have h2:=Rat.mul_nonneg (a:=M+x) (b:=N-y) (by grind) (by grind)
 have h3:=Rat.mul_nonneg (a:=M-x) (b:=N-y) (by grind) (by grind)
 have h4:=Rat.mul_nonneg (a:=M+x) (b:=N+y) (by grind) (by grind)
 constructor<;>grind
theorem Ab.more {x M N:Rat} (h:Ab x M) (hM:M<=N):Ab x N:=by
 unfold Ab at*;constructor<;>grind
theorem Ab.pos {x M:Rat} (h:Ab x M):0<=M:=by unfold Ab at*;grind
theorem Ab.zero {M:Rat} (h:0<=M):Ab 0 M:=by unfold Ab;constructor<;>grind
def T2 (n:Nat):Rat:=2^n
theorem nK (n:Nat):T2 (n+1)=2*T2 n:=by unfold T2;rw[Rat.pow_succ,Rat.mul_comm]
theorem j8:∀n,0<T2 n
 |0=>by unfold T2;rw[Rat.pow_zero];decide
 |n+1=>by rw[nK];have:=j8 n;grind
theorem nN (m n:Nat):T2 (m+n)=T2 m*T2 n:=pow_add' 2 m n
theorem sW:∀n,1<=T2 n
 |0=>by unfold T2;rw[Rat.pow_zero];decide
 |n+1=>by rw[nK];have:=sW n;grind
theorem jS {m n:Nat} (h:m<=n):T2 m<=T2 n:=by
 obtain⟨k,rfl⟩:∃k,n=m+k:=⟨n-m,aa⟩
 rw[nN]
 have h1:=j8 m
 have h2:=sW k
 have:=Rat.mul_le_mul_of_nonneg_left (c:=T2 m) h2 (by grind)
 grind
theorem wK:∀n:Nat,T2 n=((2^n:Nat):Int)
 |0=>by unfold T2;rw[Rat.pow_zero];rfl
 |n+1=>by
  rw[nK,wK n,Nat.pow_succ,Int.natCast_mul,Rat.intCast_mul]
  show(2:Rat)*_=_*2
  rw[Rat.mul_comm]
theorem qf {a b:Int} (h:a<=b):(a:Rat)<=(b:Rat):=by exact_mod_cast h
theorem ct.ab {D:Int} {s:Nat} {x:Rat} (h:ct D s x) (hD:D≠0):Ab x (T2 s):=by
 obtain⟨z,h1,h2⟩:=h
 have z1:(z:Rat)<=T2 s:=by rw[wK];exact qf aa
 have z2:-(T2 s)<=(z:Rat):=by rw[wK,<-Rat.intCast_neg];exact qf aa
 have hT:=j8 s
 rcases(show D<=-1\/1<=D by omega)with hd|hd
 ·have d1:(D:Rat)<=-1:=qf (b:=-1) hd
  constructor
  ·refine Decidable.byContradiction fun hn=>?_
   have h3:=Rat.mul_pos (a:=-T2 s-x) (b:=T2 s) (by grind) hT
   have h4:=Rat.mul_nonneg (a:=-x) (b:=-D-1) (by grind) (by grind)
   grind
  ·refine Decidable.byContradiction fun hn=>?_
   have h4:=Rat.mul_nonneg (a:=x) (b:=-D-1) (by grind) (by grind)
   grind
 ·have d1:(1:Rat)<=(D:Rat):=qf (a:=1) hd
  constructor
  ·refine Decidable.byContradiction fun hn=>?_
   have h4:=Rat.mul_nonneg (a:=-x) (b:=D-1) (by grind) (by grind)
   grind
  ·refine Decidable.byContradiction fun hn=>?_
   have h4:=Rat.mul_nonneg (a:=x) (b:=D-1) (by grind) (by grind)
   grind
theorem ct.low {D:Int} {s e:Nat} {x:Rat} (h:ct D s x) (hD0:D≠0) (hD:D.natAbs<=2^e) (hx:x≠0):1<=x*T2 e\/x*T2 e<=-1:=by
 obtain⟨z,h1,_⟩:=h
 have hz:z≠0:=fun h0=>by
  rw[h0]at h1
  exact(Rat.mul_eq_zero.1 (show x*(D:Rat)=0 from h1.symm)).elim hx (qe hD0)
 have z1:(D:Rat)<=T2 e:=by rw[wK];exact qf aa
 have z2:-(T2 e)<=(D:Rat):=by rw[wK,<-Rat.intCast_neg];exact qf aa
 have hzz:(z:Rat)<=-1\/1<=(z:Rat):=by
  rcases(show z<=-1\/1<=z by omega)with h|h
  ·exact .inl (qf (b:=-1) h)
  ·exact .inr (qf (a:=1) h)
 rcases(show x<0\/0<x by grind)with hx|hx
 ·right
  rcases hzz with h|h
  ·have:=Rat.mul_nonneg (a:=-x) (b:=T2 e-D) (by grind) (by grind);grind
  ·have:=Rat.mul_nonneg (a:=-x) (b:=T2 e+D) (by grind) (by grind);grind
 ·left
  rcases hzz with h|h
  ·have:=Rat.mul_nonneg (a:=x) (b:=T2 e+D) (by grind) (by grind);grind
  ·have:=Rat.mul_nonneg (a:=x) (b:=T2 e-D) (by grind) (by grind);grind
theorem Ab.pow {t:Rat} {r:Nat} (h:Ab t (T2 r)):∀n:Nat,Ab (t^n) (T2 (r*n))
 |0=>by rw[Rat.pow_zero,Nat.mul_zero];exact⟨by unfold T2;rw[Rat.pow_zero];decide+kernel,by unfold T2;rw[Rat.pow_zero];decide+kernel⟩
 |n+1=>by rw[Rat.pow_succ,Nat.mul_succ,nN];exact(Ab.pow h n).mul h
def qD (n:Nat) (k:Nat->Rat) (s:Nat):Prop:=∀i,i<n->Ab (k i) (T2 s)
theorem dF.cf {n s:Nat} {k:Nat->Rat} (h:dF n k s):qD n k s:=by
 obtain⟨D,d1,d2,d3⟩:=h
 exact fun i hi=>(d3 i hi).ab d1
theorem zD {k:Nat->Rat} {s r:Nat} {t:Rat} (ht:Ab t (T2 r)):∀n,qD n k s->Ab (ev n k t) (T2 (s+n*(r+1)))
 |0,_=>Ab.zero (by have:=j8 (s+0*(r+1));grind)
 |n+1,h=>by
  rw[P0]
  have h1:=zD ht n fun i hi=>h i aa
  have h2:=(h n aa).mul (ht.pow n)
  rw[<-nN]at h2
  have h3:T2 (s+r*n)<=T2 (s+n*(r+1)):=jS (by rw[Nat.mul_add,Nat.mul_comm n r];omega)
  have h4:T2 (s+n*(r+1)+1)<=T2 (s+(n+1)*(r+1)):=jS (by rw[Nat.add_mul];omega)
  rw[nK]at h4
  exact(h1.add h2).more (by grind)
theorem VJ {n s r m:Nat} {k:Nat->Rat} {t:Rat} (ht:Ab t (T2 r)) (h:qD n k s) (hm:m<=n):Ab (gi n k t m) (T2 (s+n*(r+1))):=by
 rw[GI m hm]
 refine(zD (s:=s) ht m fun i hi=>h _ aa).more (jS ?_)
 have:=Nat.mul_le_mul_right (r+1) hm
 omega
theorem MT {n s r:Nat} {k:Nat->Rat} {x:Rat} (hx:Ab x (T2 r)) (h:qD (n+1) k s):qD n (kn (n+1) k x) (s+(n+1)*(r+1)):=fun i hi=>VJ hx h aa
theorem BF {s r:Nat} {k:Nat->Rat} {x y:Rat} (hx:Ab x (T2 r)) (hy:Ab y (T2 r)):∀n,qD n k s->∃q:Rat,ev n k y-ev n k x=(y-x)*q/\Ab q (T2 (s+2*(n*(r+1))))
 |0,_=>⟨0,by show(0:Rat)-0=_;grind,Ab.zero (by have:=j8 (s+2*(0*(r+1)));grind)⟩
 |n+1,h=>by
  refine⟨ev n (kn (n+1) k x) y,by rw[we (c:=x) (t:=y)];grind,(zD hy n (MT hx h)).more (jS ?_)⟩
  rw[Nat.add_mul];omega
theorem abU {k:Nat->Rat} {x:Rat} (n:Nat):dP (n+1,k) x=ev n (kn (n+1) k x) x:=by
 have e:∀t,aE (n+1,k) t=aE (mZ x) t*aE (n,kn (n+1) k x) t+ev (n+1) k x:=fun t=>by rw[DT];exact we n
 have e2:∀t,aE (iB (n+1,k) (1,fun _=>-ev (n+1) k x)) t=aE (mZ x) t*aE (n,kn (n+1) k x) t:=fun t=>by
  rw[ju,e]
  show _+(0+-ev (n+1) k x*t^0)=_
  rw[Rat.pow_zero];grind
 have h:=kV e2 x
 rw[DT,O6,show x-x=0 by grind,Rat.zero_mul,Rat.add_zero,Rat.one_mul]at h
 rw[show ev n (kn (n+1) k x) x=aE (n,kn (n+1) k x) x from rfl,<-h]
 show _=sg (fun i=>(fh (n+1,k) i+fh (1,fun _=>-ev (n+1) k x) i)*dX x i) (max (n+1) 1)
 rw[iN (g:=fun i=>fh (n+1,k) i*dX x i+fh (1,fun _=>-ev (n+1) k x) i*dX x i) fun i _=>by grind,tL,wJ (a:=(n+1,k)) (Nat.le_max_left _ _),wJ (a:=(1,fun _=>-ev (n+1) k x)) (Nat.le_max_right _ _)]
 have z:dP (1,fun _=>-ev (n+1) k x) x=0:=by
  show 0+-ev (n+1) k x*(((0:Nat):Int)*x^(0-1):Rat)=0
  rw[show(((0:Nat):Int):Rat)=0 from rfl];grind
 rw[z,Rat.add_zero]
theorem Vz {a:PP} {s r:Nat} {x y:Rat} (hx:Ab x (T2 r)) (hy:Ab y (T2 r)) (h:qD a.1 a.2 s):∃q:Rat,aE a y-aE a x=(y-x)*(dP a x+(y-x)*q)/\Ab q (T2 (s+3*(a.1*(r+1)))):=by
 obtain⟨m,k⟩:=a
 cases m with
 |zero=>exact⟨0,by show(0:Rat)-0=(y-x)*(0+_);grind,Ab.zero (by have:=j8 (s+3*(0*(r+1)));grind)⟩
 |succ n=>
  obtain⟨q,h1,h2⟩:=BF hx hy n (MT hx h)
  refine⟨q,?_,h2.more (jS ?_)⟩
  ·rw[abU]
   show ev (n+1) k y-ev (n+1) k x=_
   rw[we (c:=x) (t:=y)]
   have:ev n (kn (n+1) k x) y=ev n (kn (n+1) k x) x+(y-x)*q:=by grind
   rw[this];grind
  ·show s+(n+1)*(r+1)+2*(n*(r+1))<=s+3*((n+1)*(r+1))
   rw[Nat.add_mul];omega
end Go.Am
