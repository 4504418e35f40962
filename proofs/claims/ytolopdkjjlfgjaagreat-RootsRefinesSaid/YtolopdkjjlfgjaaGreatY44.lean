/- ref02: Valid, Valids, Bits; ref04.Valid; ref10: Short, shortPoles. -/
import Derived.Test.YtolopdkjjlfgjaaGreatY38
import Derived.Test.YtolopdkjjlfgjaaGreatZ2
import Derived.Test.YtolopdkjjlfgjaaGreatY40
import Derived.Test.YtolopdkjjlfgjaaGreatY37
import Derived.Test.YtolopdkjjlfgjaaGreatB332
set_option linter.unusedVariables false
namespace Go.Am.B
open Go Go.Am.N AV ag aq IntKind Proofs.Tryz
theorem TL:bf 172 f172:=bg func172
theorem ahQ:bf 144 f144:=bg func144
def Jv:Spec:=cu fun l=>match l with
 |[.mag N]=>some (aL (.bool true) [nl N<2^40])
 |_=>none
def Yp:bk:=[(172,Jv),(86,Ea),(173,Iu)]
theorem aeU {N:Nat}:b9 T [] [6] 60 f172 (aH f172) ⟨aU 0 [.mag N],[],0⟩=
  let c2:Bool:=(↑(nl N):Int)==0;let c1:Int:=i64.wrap ((↑(nl N):Int)-1);some (fork c2 (aj [c2=true] (leaf ret [AV.bool true])) (aj [c2=false,(0:Int)<=c1/\c1.toNat<nl N] (leaf ret [AV.bool (bif false then true else(↑(aD N c1.toNat):Int)!=0)]))):=ah
theorem aaa {q:Rat} {n:Nat}:b9 T Yp [19,27,32,35,42,51] 60 f144 (aH f144) ⟨aU 0 [.rat q n],[],0⟩=
  let c19:Bool:=bif !true then true else !true;let c17:Nat:=Int.toNat (0:Int);let c13:Bool:=decide (q<0);let c11:Nat:=q.num.natAbs;let c8:ag (List AV):=leaf ret [AV.bool false];let c5:Nat:=2^40;let c3:Prop:=0<1;let c2:Nat:=if q.den=1 then 0 else q.den;let c20:Int:=(↑(nl c2):Int);let c16:Prop:=nl c2<c5;let c15:Prop:=nl c11<c5;let c14:Bool:=(↑(nl (c11.gcd q.den)):Int)==1;let c10:Prop:=(0:Int)<=0/\c17<nl c2;let c9:Bool:=bif c19 then true else false;let c6:Bool:=(↑(nl c11):Int)==0;let c4:Bool:=bif c19 then true else bif true then(↑(aD c2 c17):Int)==1 else false;let c22:List Prop:=[c3,c6=true,c3,c13=true];let c18:List Prop:=[c3,c6=true,c3,c13=false,c3];let c7:Bool:=c20==1;let c1:ag (List AV):=aj [c3,c3,nl c11<2^38,nl q.den<2^38] (fork c14 (aj [c14=true,(0:Int)<=0/\c17<nl (c11.gcd q.den)] (leaf ret [AV.bool (bif true then(↑(aD (c11.gcd q.den) c17):Int)==1 else false)])) (aj [c14=false] c8));let c21:ag (List AV):=fork true c8 c1;let c12:ag (List AV):=fork (bif false then true else bif true then bif false then true else decide (c20>0)else false) c8 c1;some (fork c7 (fork c4 (aj [c3,c15,c3,c16,c3,c7=true,c3,c10,c4=true] c21) (fork c6 (fork c13 (aj (c3::c15::c3::c16::c3::(c7=true)::c3::c10::(c4=false)::c22) c21) (aj (c3::c15::c3::c16::c3::(c7=true)::c3::c10::(c4=false)::c18) c12)) (aj [c3,c15,c3,c16,c3,c7=true,c3,c10,c4=false,c3,c6=false] (fork false c8 c1)))) (fork false (aj [c3,c15,c3,c16,c3,c7=false,c9=true] c21) (fork c6 (fork c13 (aj (c3::c15::c3::c16::c3::(c7=false)::(c9=false)::c22) c21) (aj (c3::c15::c3::c16::c3::(c7=false)::(c9=false)::c18) c12)) (aj [c3,c15,c3,c16,c3,c7=false,c9=false,c3,c6=false] (fork false c8 c1))))):=ah
theorem aeB:aY P Jv 172:=by
 refine cW fun K args r hk hs _=>?_
 split at hs
 ·rename_i N
  simp only[ay]at hs
  subst hs
  refine ck (r:=aL (.bool true) [nl N<2^40]) hT cz hm TL rfl aX rfl 60 aeU (fun need=>?_) K []
  have need:nl N<2^40:=need
  have e:nl N≠0->i64.wrap ((nl N:Int)-1)=(nl N:Int)-1:=fun h=>wrap_i64 aa aa
  simp only[ag.all,az,beq_iff_eq,beq_eq_false_iff_ne,ne_eq]
  refine⟨fun h=>⟨h,.refl _⟩,fun h=>?_⟩
  have h0:nl N≠0:=aa
  have hN:N≠0:=fun h2=>h0 (by rw[h2];rfl)
  rw[e h0,show((nl N:Int)-1).toNat=nl N-1 by omega]
  refine⟨⟨h,⟨aa,aa⟩⟩,gG ?_⟩
  rw[cond_false,bne_iff_ne]
  have:=zI hN
  omega
 ·simp at hs
theorem acJ {q:Rat} {n:Nat} (hn:n<=2^36) (K:Nat):aQ P 144 K [.rat q n] [] (aL (.bool true) []):=by
 refine kS fun⟨hq,_⟩=>?_
 have hq:Sz q n:=hq
 refine ck (r:=aL (.bool true) []) hT (aJ aeB (aJ MB (aJ QU cz))) hm ahQ rfl aX rfl 60 aaa (fun _=>?_) K []
 have hg:Nat.gcd q.num.natAbs q.den=1:=q.reduced
 obtain⟨d,hd⟩:∃d,d=if q.den=1 then 0 else q.den:=⟨_,rfl⟩
 have k1:=gC (n:=n) hq.1 aa
 have k2:=gC (n:=n) hq.2 aa
 have k3:nl d<=nl q.den:=by rw[hd];exact iW JN
 have k4:nl d=1->¬(aD d 0:Int)=1:=fun h1 h2=>by
  have h3:d<2^32:=by have:=eA.1 (show nl d<=1 by omega);simpa using this
  have h4:aD d 0=d:=by unfold aD;simp;omega
  rw[h4]at h2
  have h5:d=1:=aa
  rw[hd]at h5
  split at h5<;>omega
 have k5:nl q.num.natAbs=0->¬q<0/\nl d=0:=fun h1=>by
  have h2:q.num.natAbs=0:=by
   by_cases h:q.num.natAbs=0
   ·exact h
   ·unfold nl at h1;rw[if_neg h]at h1;omega
  have h3:q=0:=Rat.num_eq_zero.1 aa
  subst h3
  rw[hd]
  exact⟨by decide,by decide⟩
 simp only[ag.all,az,hg,<-hd,show nl 1=1 from by decide,show aD 1 0=1 from by decide,Int.toNat_zero]
 by_cases h7:nl d=1
 ·have h4:=k4 h7
  have h6:nl q.num.natAbs≠0:=fun h=>by have:=(k5 h).2;omega
  simp[h7,h4,h6]
  exact⟨aa,⟨aa,aa⟩,.refl _⟩
 ·by_cases h6:nl q.num.natAbs=0
  ·obtain⟨h8,h9⟩:=k5 h6
   simp[h9,h6,h8]
   exact⟨aa,.refl _⟩
  ·simp[h7,h6]
   exact⟨fun h=>absurd h aa,fun h=>⟨⟨aa,aa,h⟩,⟨aa,aa⟩,.refl _⟩⟩
def afh (h:Pl):V3:=⟨((1:Int):Rat)/h.d*h.n.x,((1:Int):Rat)/h.d*h.n.y,((1:Int):Rat)/h.d*h.n.z⟩
def Uf (c:Cu) (x:Nat->Rat) (b j:Nat):Pl:=
 ⟨⟨AG j fun j=>x j*((c.f (b+j)).d*(c.f (b+j)).n.x),AG j fun j=>x j*((c.f (b+j)).d*(c.f (b+j)).n.y),AG j fun j=>x j*((c.f (b+j)).d*(c.f (b+j)).n.z)⟩,AG j fun j=>x j*(c.f (b+j)).d⟩
def agV (c:Cu) (t:Rat):Pl:=Uf c (vB c.k (OG c.n c.k t) t c.p.toNat) (OG c.n c.k t-c.p.toNat) (c.p.toNat+1)
def aK (c:Cu) (t:Rat):V3:=if Nq c.n c.k t then⟨0,0,0⟩else afh (agV c t)
theorem div_one {a b:Rat}:a/b=((1:Int):Rat)/b*a:=by
 rw[Rat.div_def,Rat.div_def,show((1:Int):Rat)=1 from rfl,Rat.one_mul,Rat.mul_comm]
theorem aco:bf 192 f192:=bg func192
theorem X3:bf 176 f176:=bg func176
def KW:Spec:=cu fun l=>match l with
 |[.mag N]=>some (aL (.bool true) [nl N<2^40])
 |_=>none
def IY:bk:=nG::(192,KW)::(126,cu (mZ El))::(167,cu (jw Gb))::(120,HP)::[]
def Mp:Spec:=cu fun l=>match l with
 |[.rat q n]=>some (aL (.bool true) [n<2^44])
 |_=>none
theorem Yt {N:Nat}:b9 T [nG] [6] 60 f192 (aH f192) ⟨aU 0 [.mag N],[],0⟩=
  let c2:Bool:=(↑(nl N):Int)==0;let c1:Int:=(↑(nl N):Int)-1;some (fork c2 (aj [c2=true] (leaf ret [AV.bool true])) (aj [c2=false,-(2:Int)^63<=c1/\c1<2^63,(0:Int)<=c1/\c1.toNat<nl N] (leaf ret [AV.bool (bif false then true else(↑(aD N c1.toNat):Int)!=0)]))):=ah
theorem XO {q:Rat} {n:Nat}:b9 T IY [18,25,29,33,43] 60 f176 (aH f176) ⟨aU 0 [.rat q n],[],0⟩=
  let c9:ag (List AV):=leaf ret [AV.bool false];let c7:Bool:=!decide (q<0);let c6:Nat:=q.num.natAbs;let c4:Nat:=2^40;let c3:Prop:=0<1;let c2:Nat:=if q.den=1 then 0 else q.den;let c5:Int:=(↑(nl c2):Int);let c10:Bool:=c5==1;let c8:Bool:=c5==0;let c1:ag (List AV):=aj [c3] (fork ((↑(nl c6):Int)==0) (fork c7 (aj [c3,c7=true,c3] (leaf ret [AV.bool (bif true then c8 else false)])) (aj [c3,c7=false] c9)) (fork c8 (aj [c3,c8=true] (leaf ret [AV.bool true])) (aj [c3,c8=false,c3,c3,nl c6<c4,nl c2<c4,nl (c6.gcd c2)<c4] (leaf ret [AV.bool (bif false then true else(↑(bV (c6.gcd c2)):Int)==1)]))));some (fork c10 (aj [c3,nl c6<c4,c3,nl c2<c4,c3,c10=true,c3,(0:Int)<=0/\Int.toNat (0:Int)<nl c2] (fork (bif bif !true then true else !true then true else bif true then(↑(aD c2 (Int.toNat (0:Int))):Int)==1 else false) c9 c1)) (aj [c3,nl c6<c4,c3,nl c2<c4,c3,c10=false] (fork false c9 c1))):=ah
theorem RD {N:Nat} (hn:nl N<2^40) (K:Nat):aQ P 192 K [.mag N] [] (aL (.bool true) []):=by
 refine ck hT (gi cz) hm aco rfl aX rfl 60 Yt (fun _=>?_) K []
 simp only[ag.all,az]
 refine⟨fun h=>⟨h,.refl _⟩,fun h=>?_⟩
 have h0:nl N≠0:=fun he=>by rw[he]at h;exact absurd h (by decide)
 have h1:N≠0:=fun he=>h0 (jY.2 he)
 have e1:((nl N:Int)-1).toNat=nl N-1:=aa
 have h2:=zI h1
 rw[e1]
 refine⟨⟨h,aa,aa⟩,gG ?_⟩
 rw[cond_false]
 exact bne_iff_ne.2 aa
theorem ajl:aY P KW 192:=by
 refine cW fun K args r hk hs _=>?_
 split at hs
 ·simp only[ay]at hs
  subst hs
  exact fun need=>RD need K trivial
 ·simp at hs
theorem Sl:bR P IY:=gi (aJ ajl (aJ MQ (aJ LQ (aJ Oe cz))))
theorem YE {N:Nat} (h:nl N=1) (h1:aD N 0=1):N=1:=by
 have h2:N<2^(32*1):=eA.1 aa
 unfold aD at h1
 omega
theorem ach {q:Rat} {n:Nat} (hn:n<2^44) (K:Nat):aQ P 176 K [.rat q n] [] (aL (.bool true) []):=by
 refine kS fun⟨hs1,_⟩=>?_
 obtain⟨a1,a2,a3⟩:=Sz.kU hs1 hn
 refine ck hT Sl hm X3 rfl aX rfl 60 XO (fun _=>?_) K []
 obtain⟨D,hD⟩:∃D,D=if q.den=1 then 0 else q.den:=⟨_,rfl⟩
 have hD1:D≠1:=by rw[hD];split<;>omega
 have hg:D≠0->q.num.natAbs.gcd D=1:=fun h=>by
  have:D=q.den:=by rw[hD]at h ⊢;split<;>simp_all
  rw[this];exact q.reduced
 have hz:q.num.natAbs=0->¬q<0/\D=0:=fun h=>by
  have h0:=oE.1 h
  subst h0
  exact⟨by decide,by rw[hD];rfl⟩
 rw[<-hD]at a3 ⊢
 have nneg:((nl q.num.natAbs:Int)==0)=true->(!decide (q<0))=true/\((nl D:Int)==0)=true:=fun h=>by
  obtain⟨z1,z2⟩:=hz (jY.1 (by have:=beq_iff_eq.1 h;omega))
  rw[decide_eq_false z1,z2];exact⟨rfl,rfl⟩
 have last:((nl D:Int)==0)=false->D≠0:=fun h he=>by rw[he]at h;exact absurd h (by decide)
 simp only[ag.all,az,cond_true,cond_false,Bool.not_true]
 refine⟨fun h=>⟨⟨aa,a1,aa,a3,aa,h,aa,aa,?_⟩,fun h2=>?_,fun h2=>⟨aa,fun h3=>⟨fun h4=>⟨⟨aa,h4,aa⟩,gG (nneg h3).2⟩,fun h4=>absurd (h4.symm.trans (nneg h3).1) (by decide)⟩,fun h3=>⟨fun h4=>⟨⟨aa,h4⟩,.refl _⟩,fun h4=>?_⟩⟩⟩,
  fun h=>⟨⟨aa,a1,aa,a3,aa,h⟩,fun h=>absurd h (by decide),fun _=>⟨aa,fun h3=>⟨fun h4=>⟨⟨aa,h4,aa⟩,gG (nneg h3).2⟩,fun h4=>absurd (h4.symm.trans (nneg h3).1) (by decide)⟩,fun h3=>⟨fun h4=>⟨⟨aa,h4⟩,.refl _⟩,fun h4=>?_⟩⟩⟩⟩
 ·have:=beq_iff_eq.1 h
  rw[Int.toNat_zero];omega
 ·have e1:=beq_iff_eq.1 h
  have e2:=beq_iff_eq.1 h2
  exact absurd (YE aa (by rw[Int.toNat_zero]at e2;omega)) hD1
 ·rw[hg (last h4)]
  exact⟨⟨aa,h4,aa,aa,a1,a3,by decide⟩,gG (by decide)⟩
 ·rw[hg (last h4)]
  exact⟨⟨aa,h4,aa,aa,a1,a3,by decide⟩,gG (by decide)⟩
theorem YN:aY P Mp 176:=by
 refine cW fun K args r hk hs _=>?_
 split at hs
 ·simp only[ay]at hs
  subst hs
  exact fun need=>ach need K trivial
 ·simp at hs
def AY:Nat:=2^38
def GSv:bk:=nG::(176,Mp)::gL
def IU:Spec:=cu fun l=>match l with
 |[.rat q n]=>some (aL (.bool true) [n<=2^36])
 |_=>none
def abF:bk:=nG::(144,IU)::gN
def ia (x y:Rat):Bool:=decide (fV x y<=0)
def AZ:Spec:=dD (kC (p8 af) kN) (fun a=>.bool (ia a.1.1 a.1.2)) fun _=>[]
def CC:Spec:=dD (kC (p8 af) kN) (fun a=>.rat (a.1.2-a.1.1) AY) fun _=>[]
def xC:Spec:=dD (kC (p8 af) kN) (fun a=>.rat (aV a.1.1 a.1.2) af) fun a=>[Sz (aV a.1.1 a.1.2) af]
def afq:bk:=nG::(69,H6)::[]
def Re:Spec:=dD (kC (eU af) (kC (eU af) kN)) (fun a=>.rat (aV a.1 a.2.1) af) fun a=>[Sz (aV a.1 a.2.1) af]
def Xl:bk:=nG::(136,Re)::[]
def aiT:bk:=nG::(111,xC)::(68,Ak)::[]
def Q2:Spec:=dD (kC (p8 af) kN) (fun a=>.tuple [dA (eJ a.1.1 (aV a.1.1 a.1.2)) (eI a.1.1 (aV a.1.1 a.1.2)) af,dA (eJ (aV a.1.1 a.1.2) a.1.2) (eI (aV a.1.1 a.1.2) a.1.2) af]) fun a=>[Sz (aV a.1.1 a.1.2) af]
def iC (n:Nat) (c:Nat->PP) (s:Rat×Rat):Rat×Rat:=if cr (c 0) (aV s.1 s.2)=0 then(aV s.1 s.2,aV s.1 s.2)else if dG n c s.1 (aV s.1 s.2)=1 then(s.1,aV s.1 s.2)else(aV s.1 s.2,s.2)
def wW (n:Nat) (c:Nat->PP) (s:Rat×Rat):Prop:=0<n/\n<2^30/\s.1<s.2/\cq n c s.1/\cq n c (aV s.1 s.2)/\Sz (aV s.1 s.2) af
def Dg:Spec:=dD (kC mG (kC (p8 af) kN)) (fun a=>dA (iC a.1.1 a.1.2 a.2.1).1 (iC a.1.1 a.1.2 a.2.1).2 af) fun a=>[wW a.1.1 a.1.2 a.2.1]
def GHf:bk:=nG::(111,xC)::(70,CM)::(154,Q2)::(66,mB)::(60,vI)::gL
def Jh:Spec:=dD (kC (eU af) kN) (fun a=>dA a.1 a.1 af) fun _=>[]
def aex:bk:=nG::(112,xC)::(77,Jh)::(76,mB)::(62,x6)::gN
theorem YF:bf 153 f153:=bg func153
theorem ac7 {x y:Rat}:b9 T GSv [] 60 f153 (aH f153) ⟨aU 0 [dA x y af],[],0⟩=
  let c3:Prop:=af<2^42;let c2:Prop:=af<2^44;let c1:Prop:=0<1;some (aj [c1,c2,c1,c2,c1,c1,c3,c3] (leaf ret [AV.bool (bif bif true then true else false then decide (fV x y<=0)else false)])):=ah
theorem adG:bf 155 f155:=bg func155
theorem SI {x y:Rat}:b9 T abF [] 60 f155 (aH f155) ⟨aU 0 [dA x y af],[],0⟩=
  let c3:Prop:=af<=2^36;let c2:Prop:=af<2^41;let c1:Prop:=0<1;some (aj [c1,c3,c1,c3,c1,c1,c2,c2] (leaf ret [AV.bool (bif bif true then true else false then decide (fV x y<=0)else false)])):=ah
theorem Wj:bf 105 f105:=bg func105
theorem Z4 {x y:Rat} {n:Nat}:b9 T gL [] 60 f105 (aH f105) ⟨aU 0 [dA x y n],[],0⟩=
  let c2:Prop:=n<2^42;let c1:Prop:=0<1;some (aj [c1,c1,c2,c2,c1] (aj [c1] (leaf ret [rat (y-x) (n+n+1)]))):=ah
theorem abk:bf 108 f108:=bg func108
theorem adF {x y:Rat} {n:Nat}:b9 T gN [] 60 f108 (aH f108) ⟨aU 0 [dA x y n],[],0⟩=
  let c2:Prop:=n<2^41;let c1:Prop:=0<1;some (aj [c1,c1,c2,c2,c1] (aj [c1] (leaf ret [rat (y-x) (n+n+1)]))):=ah
theorem abp:bf 111 f111:=bg func111
theorem akm {x y:Rat}:b9 T afq [] 60 f111 (aH f111) ⟨aU 0 [dA x y af],[],0⟩=
  let c1:Prop:=0<1;some (aj [c1,c1,af<=af,af<=af,Sz (aV x y) af,c1] (aj [c1] (leaf ret [rat (aV x y) af]))):=ah
theorem Zv:bf 112 f112:=bg func112
theorem aci {x y:Rat}:b9 T Xl [] 60 f112 (aH f112) ⟨aU 0 [dA x y af],[],0⟩=
  let c1:Prop:=0<1;some (aj [c1,c1,af<=af,af<=af,Sz (aV x y) af,c1] (aj [c1] (leaf ret [rat (aV x y) af]))):=ah
theorem Z5:bf 154 f154:=bg func154
theorem Wz {x y:Rat}:b9 T aiT [] 60 f154 (aH f154) ⟨aU 0 [dA x y af],[],0⟩=
  let c2:Rat:=aV (aM (rat x af)) (aM (rat y af));let c1:Prop:=0<1;some (aj [c1,aW (rat x af) (rat (aM (rat x af)) af),aW (rat y af) (rat (aM (rat y af)) af),Sz c2 af,c1] (aj [c1,c1,af<=af,af<=af,c1,c1,af<=af,af<=af,c1,c1] (aj [c1,c1] (leaf ret [agg [rat (eJ x c2) af,rat (eI x c2) af],agg [rat (eJ c2 y) af,rat (eI c2 y) af]])))):=ah
theorem ajo:bf 106 f106:=bg func106
theorem adJ {n:Nat} {c:Nat->PP} {x y:Rat}:b9 T GHf [16,30] 60 f106 (aH f106) ⟨aU 0 [eO n c,dA x y af],[],0⟩=
  let c5:Rat:=aM (rat y af);let c4:Rat:=aM (rat x af);let c3:PP:=c (Int.toNat (0:Int));let c2:Prop:=0<1;let c8:Prop:=aW (rat x af) (rat c4 af);let c7:Nat×(Nat->Rat):=(c3.fst,fun i=>aM (rat (c3.snd i) af));let c6:Prop:=aW (rat y af) (rat c5 af);let c1:Rat:=aV c4 c5;let c9:AV:=rat c1 af;some (aj [c2,c8,c6,Sz c1 af,c2] (aj [(0:Int)<=0/\Int.toNat (0:Int)<n,c2,cP (fun i=>rat (c3.snd i) af) c3.fst af,af<=af,c3.fst<2^40,gb c7 c1,af<2^42] (fork (bL (cr c7 c1)==0) (aj [c2,af<=af,c2] (aj [c2] (leaf ret [agg [c9,c9]]))) (aj [c2,c8,c6,Sz c1 af,c2,c2] (aj [c2,c2,∀(i:Nat),i<n->aW (aA (c i)) (aA (bu (aA (c i)))),af<=af,af<=af,(0:Nat)<n,n<2^40,cq n (fun i=>bu (aA (c i))) (eJ c4 c1),cq n (fun i=>bu (aA (c i))) (eI c4 c1)] (fork (dG n (fun i=>bu (aA (c i))) (eJ c4 c1) (eI c4 c1)==1) (aj [c2,c2] (aj [c2] (leaf ret [agg [rat (eJ c4 c1) af,rat (eI c4 c1) af]]))) (aj [c2,c2] (aj [c2] (leaf ret [agg [rat (eJ c1 c5) af,rat (eI c1 c5) af]]))))))))):=ah
theorem ZE:bf 109 f109:=bg func109
theorem YW {n:Nat} {c:Nat->PP} {x y:Rat}:b9 T aex [14,22] 60 f109 (aH f109) ⟨aU 0 [eO n c,dA x y af],[],0⟩=
  let c3:PP:=c (Int.toNat (0:Int));let c2:Prop:=0<1;let c1:Rat:=aV (aM (rat x af)) (aM (rat y af));let c5:Nat×(Nat->Rat):=(c3.fst,fun i=>aM (rat (c3.snd i) af));let c4:AV:=rat c1 af;some (aj [c2,aW (rat x af) (rat (aM (rat x af)) af),aW (rat y af) (rat (aM (rat y af)) af),Sz c1 af,c2] (aj [(0:Int)<=0/\Int.toNat (0:Int)<n,c2,cP (fun i=>rat (c3.snd i) af) c3.fst af,af<=af,c3.fst<2^40,gb c5 c1,af<2^41] (fork (bL (cr c5 c1)==0) (aj [c2,af<=af,c2] (aj [c2] (leaf ret [agg [c4,c4]]))) (aj [c2,c2,∀(i:Nat),i<n->aW (aA (c i)) (aA (bu (aA (c i)))),af<=af,af<=af,(0:Nat)<n,n<2^30,x<c1,cq n (fun i=>bu (aA (c i))) x,cq n (fun i=>bu (aA (c i))) c1] (fork (dG n (fun i=>bu (aA (c i))) x c1==1) (aj [c2,c2,c2] (aj [c2] (leaf ret [agg [rat x af,c4]]))) (aj [c2,c2,c2] (aj [c2] (leaf ret [agg [c4,rat y af]])))))))):=ah
theorem aaj:aY P IU 144:=by
 refine cW fun K args r hk hs _=>?_
 split at hs
 ·simp only[ay]at hs
  subst hs
  intro hn
  exact acJ hn K trivial
 ·simp at hs
theorem Wq:aY P AZ 153:=cO fun⟨⟨x,y⟩,_⟩ K _=>by
 have hW:=cF
 refine ck hT (gi (aJ YN gQ)) hm YF rfl aX rfl 60 ac7 (fun _=>?_) K []
 simp only[ag.all,az,cond_true]
 exact⟨⟨aa,aa,aa,aa,aa,aa,aa,aa⟩,.refl _⟩
theorem VY:aY P AZ 155:=cO fun⟨⟨x,y⟩,_⟩ K _=>by
 have hW:=cF
 refine ck hT (gi (aJ aaj gM)) hm adG rfl aX rfl 60 SI (fun _=>?_) K []
 simp only[ag.all,az,cond_true]
 exact⟨⟨aa,aa,aa,aa,aa,aa,aa,aa⟩,.refl _⟩
theorem Bm:AY=2^38:=rfl
theorem SD:aY P CC 105:=cO fun⟨⟨x,y⟩,_⟩ K _=>by
 have hW:=cF
 have hV:=Bm
 refine ck hT gQ hm Wj rfl aX rfl 60 Z4 (fun _=>?_) K []
 simp only[ag.all,az]
 exact⟨⟨aa,aa,aa,aa,aa⟩,aa,dy rfl aa⟩
theorem SZ:aY P CC 108:=cO fun⟨⟨x,y⟩,_⟩ K _=>by
 have hW:=cF
 have hV:=Bm
 refine ck hT gM hm abk rfl aX rfl 60 adF (fun _=>?_) K []
 simp only[ag.all,az]
 exact⟨⟨aa,aa,aa,aa,aa⟩,aa,dy rfl aa⟩
theorem Kt:aY P xC 111:=cO fun⟨⟨x,y⟩,_⟩ K hn=>by
 refine ck hT (gi (aJ MJ cz)) hm abp rfl aX rfl 60 akm (fun _=>?_) K []
 simp only[ag.all,az]
 exact⟨⟨aa,aa,aT,aT,hn,aa⟩,aa,.refl _⟩
theorem adW:aY P Re 136:=cO fun⟨x,y,_⟩ K hn=>by
 have hW:=cF
 refine ck hT Hw hm Qm rfl aX rfl 60 Rw (fun _=>?_) K []
 simp only[ag.all,az]
 exact⟨⟨aa,aa,aa,aa,aa,aa,aa,aa,aa,aa,aa⟩,aa,ej (IT x y) (show Sz (aV x y) af from hn)⟩
theorem aeC:aY P xC 112:=cO fun⟨⟨x,y⟩,_⟩ K hn=>by
 refine ck hT (gi (aJ adW cz)) hm Zv rfl aX rfl 60 aci (fun _=>?_) K []
 simp only[ag.all,az]
 exact⟨⟨aa,aa,aT,aT,hn,aa⟩,aa,.refl _⟩
theorem Ue:aY P Q2 154:=cO fun⟨⟨x,y⟩,_⟩ K hn=>by
 refine ck hT (gi (aJ Kt (aJ CB cz))) hm Z5 rfl aX rfl 60 Wz (fun _=>?_) K []
 simp only[ag.all,az]
 exact⟨⟨aa,.refl _,.refl _,hn,aa⟩,⟨aa,aa,aT,aT,aa,aa,aT,aT,aa,aa⟩,⟨aa,aa⟩,.refl _,.refl _,trivial⟩
theorem afo {n:Nat} {c:Nat->PP} {x y:Rat} (h:wW n c (x,y)) (K:Nat):aQ P 106 K [eO n c,dA x y af] [] (aL (dA (iC n c (x,y)).1 (iC n c (x,y)).2 af) []):=by
 have hW:=cF
 obtain⟨h1,h2,h3,h4,h5,h6⟩:=h
 have h3:x<y:=h3
 obtain⟨m1,m2,_⟩:=Ag h3
 obtain⟨v1,v2⟩:=h5 0 h1
 have hrd:∀i,i<n->aW (aA (c i)) (aA (bu (aA (c i)))):=fun i _=>.refl _
 have e1:eJ x (aV x y)=x:=if_neg (by grind)
 have e2:eI x (aV x y)=aV x y:=if_pos m1
 have e3:eJ (aV x y) y=aV x y:=if_neg (by grind)
 have e4:eI (aV x y) y=y:=if_pos m2
 refine ck hT (gi (aJ Kt (aJ IG (aJ Ue (aJ xh (aJ xx gQ)))))) hm ajo rfl aX rfl 60 adJ (fun _=>?_) K []
 simp only[ag.all,az,beq_iff_eq,beq_eq_false_iff_ne,ne_eq]
 simp only[show aM (rat x af)=x from rfl,show aM (rat y af)=y from rfl,e1,e2,e3,e4]
 unfold iC
 refine⟨⟨aa,.refl _,.refl _,h6,aa⟩,⟨⟨aa,h1⟩,aa,dQ (a:=c 0),aa,v1,v2,aa⟩,fun hb=>⟨⟨aa,aa,aa⟩,aa,?_⟩,fun hb=>⟨⟨aa,.refl _,.refl _,h6,aa,aa⟩,⟨aa,aa,hrd,aa,aa,h1,aa,h4,h5⟩,fun hc=>⟨⟨aa,aa⟩,aa,?_⟩,fun hc=>⟨⟨aa,aa⟩,aa,?_⟩⟩⟩
 ·rw[if_pos (show cr (c 0) (aV x y)=0 from oV.1 hb)];exact .refl _
 ·rw[if_neg (show¬cr (c 0) (aV x y)=0 from fun h=>hb (oV.2 h)),if_pos (show dG n c x (aV x y)=1 from hc)];exact .refl _
 ·rw[if_neg (show¬cr (c 0) (aV x y)=0 from fun h=>hb (oV.2 h)),if_neg (show¬dG n c x (aV x y)=1 from hc)];exact .refl _
theorem agA:aY P Dg 106:=cO fun⟨⟨_,_⟩,⟨_,_⟩,_⟩ K hn=>afo hn K
theorem ad8:aY P Jh 77:=cO fun⟨x,_⟩ K _=>by
 refine ck hT gM hm Ks rfl aX rfl 60 Jx (fun _=>?_) K []
 simp only[ag.all,az]
 exact⟨⟨aa,aa,aa⟩,aa,.refl _⟩
theorem aaw {n:Nat} {c:Nat->PP} {x y:Rat} (h:wW n c (x,y)) (K:Nat):aQ P 109 K [eO n c,dA x y af] [] (aL (dA (iC n c (x,y)).1 (iC n c (x,y)).2 af) []):=by
 have hW:=cF
 obtain⟨h1,h2,h3,h4,h5,h6⟩:=h
 have h3:x<y:=h3
 obtain⟨m1,m2,_⟩:=Ag h3
 obtain⟨v1,v2⟩:=h5 0 h1
 have hrd:∀i,i<n->aW (aA (c i)) (aA (bu (aA (c i)))):=fun i _=>.refl _
 refine ck hT (gi (aJ aeC (aJ ad8 (aJ wI (aJ Bf gM))))) hm ZE rfl aX rfl 60 YW (fun _=>?_) K []
 simp only[ag.all,az,beq_iff_eq,beq_eq_false_iff_ne,ne_eq]
 unfold iC
 refine⟨⟨aa,.refl _,.refl _,h6,aa⟩,⟨⟨aa,h1⟩,aa,dQ (a:=c 0),aa,v1,v2,aa⟩,fun hb=>⟨⟨aa,aa,aa⟩,aa,?_⟩,fun hb=>⟨⟨aa,aa,hrd,aa,aa,h1,h2,m1,h4,h5⟩,fun hc=>⟨⟨aa,aa,aa⟩,aa,?_⟩,fun hc=>⟨⟨aa,aa,aa⟩,aa,?_⟩⟩⟩
 ·rw[if_pos (show cr (c 0) (aV x y)=0 from oV.1 hb)];exact .refl _
 ·rw[if_neg (show¬cr (c 0) (aV x y)=0 from fun h=>hb (oV.2 h)),if_pos (show dG n c x (aV x y)=1 from hc)];exact .refl _
 ·rw[if_neg (show¬cr (c 0) (aV x y)=0 from fun h=>hb (oV.2 h)),if_neg (show¬dG n c x (aV x y)=1 from hc)];exact .refl _
theorem afv:aY P Dg 109:=cO fun⟨⟨_,_⟩,⟨_,_⟩,_⟩ K hn=>aaw hn K
def Ei:Kind ((Rat×Rat)×Int):=⟨fun v=>match v with
 |.agg [.agg [x,y],.int .i64 t]=>some (((aM x,aM y),t),[aW x (.rat (aM x) af),aW y (.rat (aM y) af)])
 |_=>none,fun a=>eP a,fun {v a q} h hq=>by
  split at h
  ·simp only[ay,Prod.mk.injEq]at h
   obtain⟨rfl,rfl⟩:=h
   exact mh ⟨mh ⟨hq.1,hq.2,trivial⟩,.refl _,trivial⟩
  ·simp at h⟩
def wj (n:Nat) (c:Nat->PP) (s:Rat×Rat):Bool:=ia s.1 s.2&&(if s.1=s.2 then decide (cr (c 0) s.1=0)else decide (dG n c s.1 s.2=1))
def pg (c:PP) (s:Rat×Rat):Bool:=ia s.1 s.2&&(if s.1=s.2 then decide (cr c s.1=0)else decide (dG (bA c) (bh c) s.1 s.2=1))
def K4:Spec:=dD (kC mG (kC Ei kN)) (fun a=>.bool (wj a.1.1 a.1.2 a.2.1.1)) fun a=>[0<a.1.1,a.1.1<2^40,ia a.2.1.1.1 a.2.1.1.2=true->cq a.1.1 a.1.2 a.2.1.1.1/\cq a.1.1 a.1.2 a.2.1.1.2]
def Q6:bk:=nG::(153,AZ)::(74,Gf)::(60,vI)::gL
def LV (c:PP) (s:Rat×Rat):Prop:=c.1<2^40/\(ia s.1 s.2=true->gb c s.1/\lM c/\bA c<2^30/\cq (bA c) (bh c) s.1/\cq (bA c) (bh c) s.2)
def M8:Spec:=dD (kC (kL af) (kC Ei kN)) (fun a=>.bool (pg a.1 a.2.1.1)) fun a=>[LV a.1 a.2.1.1]
def N5:bk:=nG::(155,AZ)::(76,mB)::(63,yE)::(62,x6)::gN
def DL:bk:=nG::(57,uu)::(59,CE)::(104,K4)::(68,Ak)::(105,CC)::(106,Dg)::gL
noncomputable abbrev Av:Code:=aH f47
abbrev Ad:List Nat:=[6,7,5,9,10]
abbrev Es (n:Nat) (c:Nat->PP):List AV:=[.ptr 0 0 7 0 [],.int .i64 0,.ptr 1 0 3 0 [],eO n c,.ptr 2 0 7 0 []]
abbrev jd:AV:=.agg [lS,.int .i64 0]
abbrev uR (w:Rat) (s:Rat×Rat) (t:Int):aE:=[(2,⟨false,true,7,1,fun _=>eP (s,t)⟩),(1,⟨false,true,3,1,fun _=>.rat w af⟩),(0,⟨false,true,7,1,fun _=>jd⟩)]
def Cl:bk:=nG::(61,uu)::(63,yE)::(107,M8)::(108,CC)::(109,Dg)::gN
noncomputable abbrev zu:Code:=aH f48
abbrev zJ:List Nat:=[6,7,5,4,9]
abbrev Fm (n:Nat) (c:Nat->PP):List AV:=[.ptr 0 0 7 0 [],.int .i64 0,.ptr 1 0 3 0 [],.ptr 2 0 7 0 [],eO n c]
theorem acz:bf 104 f104:=bg func104
theorem adl {n:Nat} {c:Nat->PP} {x y:Rat} {t:Int}:b9 T Q6 [8,15] 60 f104 (aH f104) ⟨aU 0 [eO n c,eP ((x,y),t)],[],0⟩=
  let c7:Prop:=n<2^40;let c6:Prop:=af<2^42;let c3:Rat:=aM (rat x af);let c2:Rat:=aM (rat y af);let c1:Prop:=0<1;let c5:Prop:=aW (rat x af) (rat c3 af);let c4:Prop:=aW (rat y af) (rat c2 af);some (aj [c1,c5,c4] (fork (!ia c3 c2) (leaf ret [AV.bool false]) (aj [c1,c1,c6,c6] (fork (decide (x=y)) (aj [c1,∀(i:Nat),i<n->aW (aA (c i)) (aA (bu (aA (c i)))),c5,c4,(0:Nat)<n,c7,cq n (fun i=>bu (aA (c i))) c3,cq n (fun i=>bu (aA (c i))) c2] (leaf ret [AV.bool (qn n (fun i=>bu (aA (c i))) c3 c2)])) (aj [c1,c1,∀(i:Nat),i<n->aW (aA (c i)) (aA (bu (aA (c i)))),af<=af,af<=af,(0:Nat)<n,c7,cq n (fun i=>bu (aA (c i))) x,cq n (fun i=>bu (aA (c i))) y] (leaf ret [AV.bool (dG n (fun i=>bu (aA (c i))) x y==1)])))))):=ah
theorem aj0:bf 107 f107:=bg func107
theorem aek {c:PP} {x y:Rat} {t:Int}:b9 T N5 [8,15] 60 f107 (aH f107) ⟨aU 0 [aA c,eP ((x,y),t)],[],0⟩=
  let c4:Prop:=cP (fun i=>rat (c.snd i) af) c.fst af;let c3:Prop:=af<2^41;let c2:Prop:=0<1;let c1:Nat×(Nat->Rat):=(c.fst,fun i=>aM (rat (c.snd i) af));some (aj [c2,aW (rat x af) (rat (aM (rat x af)) af),aW (rat y af) (rat (aM (rat y af)) af)] (fork (!ia (aM (rat x af)) (aM (rat y af))) (leaf ret [AV.bool false]) (aj [c2,c2,c3,c3] (fork (decide (x=y)) (aj [c2,c4,af<=af,c.fst<2^40,gb c1 x,c3] (leaf ret [AV.bool (bL (cr c1 x)==0)])) (aj [c4,lM c1,c2,c2,∀(i:Nat),i<bA c1->aW (aA (bh c1 i)) (aA (bu (aA (bh c1 i)))),af<=af,af<=af,(0:Nat)<bA c1,bA c1<2^30,x<y,cq (bA c1) (fun i=>bu (aA (bh c1 i))) x,cq (bA c1) (fun i=>bu (aA (bh c1 i))) y] (leaf ret [AV.bool (dG (bA c1) (fun i=>bu (aA (bh c1 i))) x y==1)])))))):=ah
theorem Oi:bf 47 f47:=bg func47
theorem ad4 {p:PP} {s:Rat×Rat} {t:Int} {w:Rat}:aI T DL [13,18,28] 60 Ad (before Av [1,1,1,1,1,1,0]) ⟨aU 0 [aA p,eP (s,t),.rat w af],[],0⟩=
  let c13:AV:=tuple [];let c12:AV:=rat s.snd af;let c11:AV:=rat 0 1;let c10:AV:=rat s.fst af;let c9:Nat×au:=(4096,au.mk false true (de (rat w af)).size 1 fun x=>rat w af);let c8:Nat:=bK (fG p.fst fun i=>aM (rat (p.snd i) af)) p.fst;let c6:AV:=ptr 8192 0 7 0 [];let c5:Prop:=0<1;let c4:AV:=ptr 4096 0 (de (rat w af)).size 0 [];let c3:AV:=agg [agg [c11,c11],int i64 0];let c1:Nat×(Nat->Rat):=(c8,fun i=>aM (rat (fG p.fst (fun i=>aM (rat (p.snd i) af)) i) af));let c7:AV:=ak 1 (bA c1) fun i=>ak 3 (bh c1 i).fst fun i_1=>rat ((bh c1 i).snd i_1) af;let c2:List (Nat×au):=[c9,(8192,au.mk false true 7 1 fun j=>if(j==0)=true then de (agg c3.kids)else c3)];some (aj [cP (fun i=>rat (p.snd i) af) p.fst af,kD (p.fst,fun i=>aM (rat (p.snd i) af))] (aj [c5,af<2^42] (fork (decide (bL w<=0)) (aj [c5] (leaf ret ([c6,int i64 7,c4,c13,c13],c2))) (fork ((↑c8:Int)==0) (aj [c5] (leaf ret ([c6,int i64 3,c4,c13,c13],c2))) (aj [cP (fun i=>rat (fG p.fst (fun i=>aM (rat (p.snd i) af)) i) af) c8 af,nO c1] (aj [c5,∀(i:Nat),i<bA c1->aW (aA (bh c1 i)) (aA (bu (aA (bh c1 i)))),aW c10 (rat (aM c10) af),aW c12 (rat (aM c12) af),(0:Nat)<bA c1,bA c1<2^40,ia (aM c10) (aM c12)=true->cq (bA c1) (fun i=>bu (aA (bh c1 i))) (aM c10)/\cq (bA c1) (fun i=>bu (aA (bh c1 i))) (aM c12)] (fork (!wj (bA c1) (fun i=>bu (aA (bh c1 i))) (aM c10,aM c12)) (aj [c5] (leaf ret ([c6,int i64 1,c4,c7,c13],c2))) (aj [c5,c5,af<=af,af<=af,c5,c5] (leaf normal ([c6,int i64 0,c4,c7,ptr 131072 0 7 0 []],[(131072,au.mk false true 7 1 fun j=>if(j==0)=true then de (agg ((c3.kids.set 0 (de (dA (eJ s.fst s.snd) (eI s.fst s.snd) af))).set 1 (de (int i64 t))))else c3),c9,(8192,au.mk false true 7 1 fun x=>c3)])))))))))):=ah
theorem acj {n:Nat} {c:Nat->PP} {s:Rat×Rat} {t:Int} {w:Rat}:aI T DL [45] 60 Ad [part Av [1,1,1,1,1,1,0,0,0]] ⟨aC Ad (Es n c),uR w s t,3⟩=
  let c9:AV:=rat 0 1;let c5:Prop:=0<1;let c4:Rat:=aM (rat s.fst af);let c3:Rat:=aM (rat s.snd af);let c1:List AV:=[ptr 0 0 7 0 [],int i64 0,ptr 1 0 3 0 [],ak 1 n fun i=>ak 3 (c i).fst fun i_1=>rat ((c i).snd i_1) af,ptr 2 0 7 0 []];let c8:Prop:=aW (rat s.fst af) (rat c4 af);let c7:Prop:=aW (rat s.snd af) (rat c3 af);let c6:Rat×Rat:=iC n (fun i=>bu (aA (c i))) (c4,c3);let c2:List (Nat×au):=[((1:Nat),gA fun x=>rat w af),(0,au.mk false true 7 1 fun x=>agg [agg [c9,c9],int i64 0])];some (aj [c5,c8,c7,c5,AY<2^42,af<2^42] (fork (decide (fV (c3-c4) w>0)) (aj [c5,∀(i:Nat),i<n->aW (aA (c i)) (aA (bu (aA (c i)))),c8,c7,wW n (fun i=>bu (aA (c i))) (c4,c3),c5] (leaf normal (c1,(2,au.mk false true 7 1 fun j=>if(j==0)=true then agg ((eP (s,t)).kids.set 0 (de (dA c6.fst c6.snd af)))else eP (s,t))::c2))) (leaf (exit 1) (c1,(2,au.mk false true 7 1 fun x=>agg [agg [rat s.fst af,rat s.snd af],int i64 t])::c2)))):=ah
theorem acS {n:Nat} {c:Nat->PP} {s:Rat×Rat} {t:Int} {w:Rat}:cQ T DL [] 60 f47 [part Av [1,1,1,1,1,1,1]] ⟨aC Ad (Es n c),uR w s t,3⟩=
  let c1:Prop:=0<1;some (aj [c1,c1] (aj [c1] (leaf ret [agg [agg [rat s.fst af,rat s.snd af],int i64 t],int i64 0]))):=ah
theorem S8 {e:Int} {w:Rat}:mE T f47 .ret ⟨aC [6,7,5] [.ptr 8192 0 7 0 [],.int .i64 e,.ptr 4096 0 3 0 []],[(4096,⟨false,true,3,1,fun _=>.rat w af⟩),(8192,⟨false,true,7,1,fun j=>if(j==0)=true then de (.agg jd.kids)else jd⟩)],200000⟩=
  let c1:AV:=rat 0 1;some (aj [(0:Nat)<1] (leaf ret [agg [agg [c1,c1],int i64 0],int i64 e])):=ah
theorem IW:bf 48 f48:=bg func48
theorem Y2 {p:PP} {s:Rat×Rat} {t:Int} {w:Rat}:aI T Cl [12,17,22] 60 zJ (before zu [1,1,1,1,0]) ⟨aU 0 [aA p,eP (s,t),.rat w af],[],0⟩=
  let c16:AV:=rat s.fst af;let c15:AV:=rat s.snd af;let c14:AV:=rat 0 1;let c12:AV:=ptr 0 0 (de (eP (s,t))).size 0 [];let c11:AV:=ptr 4096 0 (de (rat w af)).size 0 [];let c10:Prop:=0<1;let c8:Nat×au:=(4096,au.mk false true (de (rat w af)).size 1 fun x=>rat w af);let c7:AV:=ptr 8192 0 7 0 [];let c5:Nat×au:=(0,au.mk false true (de (eP (s,t))).size 1 fun x=>agg [agg [rat s.fst af,rat s.snd af],int i64 t]);let c4:Nat:=bK (fG p.fst fun i=>aM (rat (p.snd i) af)) p.fst;let c13:Rat×Rat:=(aM c16,aM c15);let c9:Prop:=cP (fun i=>rat (fG p.fst (fun i=>aM (rat (p.snd i) af)) i) af) c4 af;let c6:AV:=agg [agg [c14,c14],int i64 0];let c3:List AV:=[c11,c12,tuple []];let c2:Nat×(Nat->Rat):=(c4,fun i=>aM (rat (fG p.fst (fun i=>aM (rat (p.snd i) af)) i) af));let c1:List (Nat×au):=[c5,c8,(8192,au.mk false true 7 1 fun j=>if(j==0)=true then de (agg c6.kids)else c6)];some (aj [cP (fun i=>rat (p.snd i) af) p.fst af,kD (p.fst,fun i=>aM (rat (p.snd i) af))] (aj [c10,af<2^41] (fork (decide (bL w<=0)) (aj [c10] (leaf ret (c7::int i64 7::c3,c1))) (fork ((↑c4:Int)==0) (aj [c10] (leaf ret (c7::int i64 3::c3,c1))) (aj [c10,c9,aW c16 (rat (aM c16) af),aW c15 (rat (aM c15) af),LV c2 c13] (fork (!pg c2 c13) (aj [c10] (leaf ret (c7::int i64 1::c3,c1))) (aj [c9,lM c2] (leaf normal ([c7,int i64 0,c11,c12,ak 1 (bA c2) fun i=>ak 3 (bh c2 i).fst fun i_1=>rat ((bh c2 i).snd i_1) af],[c5,c8,(8192,au.mk false true 7 1 fun x=>c6)]))))))))):=ah
theorem aia {n:Nat} {c:Nat->PP} {s:Rat×Rat} {t:Int} {w:Rat}:aI T Cl [35] 60 zJ [part zu [1,1,1,1,0,0,0]] ⟨aC zJ (Fm n c),uR w s t,3⟩=
  let c9:AV:=rat 0 1;let c5:Prop:=0<1;let c4:Rat:=aM (rat s.snd af);let c3:Rat:=aM (rat s.fst af);let c1:List AV:=[ptr 0 0 7 0 [],int i64 0,ptr 1 0 3 0 [],ptr 2 0 7 0 [],ak 1 n fun i=>ak 3 (c i).fst fun i_1=>rat ((c i).snd i_1) af];let c8:Prop:=aW (rat s.snd af) (rat c4 af);let c7:Prop:=aW (rat s.fst af) (rat c3 af);let c6:Rat×Rat:=iC n (fun i=>bu (aA (c i))) (c3,c4);let c2:List (Nat×au):=[((1:Nat),gA fun x=>rat w af),(0,au.mk false true 7 1 fun x=>agg [agg [c9,c9],int i64 0])];some (aj [c5,c7,c8,c5,AY<2^41,af<2^41] (fork (decide (fV (c4-c3) w>0)) (aj [c5,∀(i:Nat),i<n->aW (aA (c i)) (aA (bu (aA (c i)))),c7,c8,wW n (fun i=>bu (aA (c i))) (c3,c4),c5] (leaf normal (c1,(2,au.mk false true 7 1 fun j=>if(j==0)=true then agg ((eP (s,t)).kids.set 0 (de (dA c6.fst c6.snd af)))else eP (s,t))::c2))) (leaf (exit 1) (c1,(2,au.mk false true 7 1 fun x=>agg [agg [rat s.fst af,rat s.snd af],int i64 t])::c2)))):=ah
theorem Xc {n:Nat} {c:Nat->PP} {s:Rat×Rat} {t:Int} {w:Rat}:cQ T Cl [] 60 f48 [part zu [1,1,1,1,1]] ⟨aC zJ (Fm n c),uR w s t,3⟩=
  let c1:Prop:=0<1;some (aj [c1,c1] (aj [c1] (leaf ret [agg [agg [rat s.fst af,rat s.snd af],int i64 t],int i64 0]))):=ah
theorem RU {e t:Int} {w:Rat} {s:Rat×Rat}:mE T f48 .ret ⟨aC [6,7,5,4] [.ptr 8192 0 7 0 [],.int .i64 e,.ptr 4096 0 3 0 [],.ptr 0 0 7 0 []],[(0,⟨false,true,7,1,fun _=>eP (s,t)⟩),(4096,⟨false,true,3,1,fun _=>.rat w af⟩),(8192,⟨false,true,7,1,fun j=>if(j==0)=true then de (.agg jd.kids)else jd⟩)],200000⟩=
  let c1:AV:=rat 0 1;some (aj [(0:Nat)<1] (leaf ret [agg [agg [c1,c1],int i64 0],int i64 e])):=ah
theorem GP {x y:Rat}:ia x y=true↔x<=y:=by
 unfold ia fV
 rw[decide_eq_true_iff]
 by_cases h1:x<y
 ·rw[if_pos h1];exact⟨fun _=>Rat.le_of_lt h1,fun _=>by decide⟩
 ·rw[if_neg h1]
  by_cases h2:y<x
  ·rw[if_pos h2];exact⟨fun h=>absurd h (by decide),fun h=>by grind⟩
  ·rw[if_neg h2];exact⟨fun _=>by grind,fun _=>by decide⟩
theorem abG:bR P Q6:=gi (aJ Wq (aJ OJ (aJ xx gQ)))
theorem akl:aY P K4 104:=cO fun⟨⟨n,c⟩,⟨⟨x,y⟩,t⟩,_⟩ K hn=>by
 have hW:=cF
 obtain⟨h1,h2,h3⟩:=hn
 have h1:0<n:=h1
 have h2:n<2^40:=h2
 have hrd:∀i,i<n->aW (aA (c i)) (aA (bu (aA (c i)))):=fun i _=>.refl _
 refine ck hT abG hm acz rfl aX rfl 60 adl (fun _=>?_) K []
 simp only[ag.all,az,Bool.not_eq_true',Bool.not_eq_false',bB,bD]
 refine⟨⟨aa,.refl _,.refl _⟩,fun hb=>gG ?_,fun hb=>?_⟩
 ·show false=(ia x y&&_)
  rw[show ia x y=false from hb];rfl
 ·obtain⟨k1,k2⟩:=h3 hb
  refine⟨⟨aa,aa,aa,aa⟩,fun he=>⟨⟨aa,hrd,.refl _,.refl _,h1,h2,k1,k2⟩,gG ?_⟩,fun he=>⟨⟨aa,aa,hrd,aa,aa,h1,h2,k1,k2⟩,gG ?_⟩⟩
  ·show qn n c x y=(ia x y&&(if x=y then _ else _))
   rw[show ia x y=true from hb,if_pos he]
   unfold qn
   rw[if_pos he];rfl
  ·show(dG n c x y==1)=(ia x y&&(if x=y then _ else _))
   rw[show ia x y=true from hb,if_neg he,Bool.true_and]
   by_cases h:dG n c x y=1
   ·rw[decide_eq_true h];exact beq_iff_eq.2 h
   ·rw[decide_eq_false h];exact beq_eq_false_iff_ne.2 h
theorem ajI:bR P N5:=gi (aJ VY (aJ wI (aJ BZ (aJ Bf gM))))
theorem aeA:aY P M8 107:=cO fun⟨c,⟨⟨x,y⟩,t⟩,_⟩ K hn=>by
 have hW:=cF
 obtain⟨h1,h3⟩:=hn
 have h1:c.1<2^40:=h1
 have hrd:∀i,i<bA c->aW (aA (bh c i)) (aA (bu (aA (bh c i)))):=fun i _=>.refl _
 refine ck hT ajI hm aj0 rfl aX rfl 60 aek (fun _=>?_) K []
 simp only[ag.all,az,Bool.not_eq_true',Bool.not_eq_false',bB,bD]
 refine⟨⟨aa,.refl _,.refl _⟩,fun hb=>gG ?_,fun hb=>?_⟩
 ·show false=(ia x y&&_)
  rw[show ia x y=false from hb];rfl
 ·obtain⟨k1,k2,k3,k4,k5⟩:=h3 hb
  refine⟨⟨aa,aa,aa,aa⟩,fun he=>⟨⟨aa,dQ,aa,h1,k1,aa⟩,gG ?_⟩,fun he=>⟨⟨dQ,k2,aa,aa,hrd,aa,aa,Nat.succ_pos _,k3,?_,k4,k5⟩,gG ?_⟩⟩
  ·show(bL (cr c x)==0)=(ia x y&&(if x=y then _ else _))
   rw[show ia x y=true from hb,if_pos he,od,Bool.true_and]
  ·have:=GP.1 (show ia x y=true from hb);grind
  ·show(dG (bA c) (bh c) x y==1)=(ia x y&&(if x=y then _ else _))
   rw[show ia x y=true from hb,if_neg he,Bool.true_and]
   by_cases h:dG (bA c) (bh c) x y=1
   ·rw[decide_eq_true h];exact beq_iff_eq.2 h
   ·rw[decide_eq_false h];exact beq_eq_false_iff_ne.2 h
def gu (n:Nat) (c:Nat->PP) (s:Rat×Rat):Nat->Rat×Rat
 |0=>s
 |j+1=>iC n c (gu n c s j)
def mH (n:Nat) (c:Nat->PP) (w:Rat):Nat->Rat×Rat->Rat×Rat
 |0,s=>s
 |f+1,s=>if w<s.2-s.1 then mH n c w f (iC n c s)else s
def ig (p:PP) (s:Rat×Rat) (w:Rat):Int:=if w<=0 then 7 else if(aF p).1=0 then 3 else if pg (aF p) s=true then 0 else 1
def iO (p:PP) (s:Rat×Rat) (t:Int) (w:Rat):(Rat×Rat)×Int:=if ig p s w=0 then(mH (bA (aF p)) (bh (aF p)) w 200 s,t)else((0,0),0)
def qi (p:PP) (s:Rat×Rat) (w:Rat):Prop:=kD p/\(0<w->(aF p).1≠0->nO (aF p)/\lM (aF p)/\bA (aF p)<2^30/\(aF p).1<2^40/\wj (bA (aF p)) (bh (aF p)) s=pg (aF p) s/\(ia s.1 s.2=true->gb (aF p) s.1/\cq (bA (aF p)) (bh (aF p)) s.1/\cq (bA (aF p)) (bh (aF p)) s.2)/\
 (pg (aF p) s=true->∀j,j<=200->w<(gu (bA (aF p)) (bh (aF p)) s j).2-(gu (bA (aF p)) (bh (aF p)) s j).1->j<200/\wW (bA (aF p)) (bh (aF p)) (gu (bA (aF p)) (bh (aF p)) s j)))
theorem LM {x w:Rat}:fV x w>0↔w<x:=by
 unfold fV
 by_cases h1:x<w
 ·rw[if_pos h1];exact⟨fun h=>absurd h (by decide),fun h=>by grind⟩
 ·rw[if_neg h1]
  by_cases h2:w<x
  ·rw[if_pos h2];exact⟨fun _=>h2,fun _=>by decide⟩
  ·rw[if_neg h2];exact⟨fun h=>absurd h (by decide),fun h=>absurd h h2⟩
theorem Ns {w:Rat}:bL w<=0↔w<=0:=by
 rcases(show 0<w\/w<0\/w=0 by grind)with h|h|h
 ·rw[gm h];exact⟨fun h2=>absurd h2 (by decide),fun h2=>by grind⟩
 ·rw[gn h];exact⟨fun _=>by grind,fun _=>by decide⟩
 ·rw[mJ h];exact⟨fun _=>by grind,fun _=>by decide⟩
theorem Ml:bR P DL:=gi (aJ HF (aJ Hy (aJ akl (aJ CB (aJ SD (aJ agA gQ))))))
theorem OH:bR P Cl:=gi (aJ OV (aJ BZ (aJ aeA (aJ SZ (aJ afv gM)))))
theorem OO:aW jd (eP ((0,0),0)):=mh ⟨mh ⟨dy rfl (by decide),dy rfl (by decide),trivial⟩,.refl _,trivial⟩
theorem QX {n:Nat} {c:Nat->PP} {w:Rat} {s:Rat×Rat} (h:¬w<s.2-s.1):∀f,mH n c w f s=s
 |0=>rfl
 |_+1=>if_neg h
theorem ajE {p:PP} {s:Rat×Rat} {t:Int} {w:Rat} (h:qi p s w) (K:Nat):aQ P 47 K [aA p,eP (s,t),.rat w af] [] (aL (.tuple [eP (iO p s t w),.int .i64 (ig p s w)]) []):=by
 have hW:=cF
 have hV:=Bm
 obtain⟨hof,hall⟩:=h
 obtain⟨x,y⟩:=s
 obtain⟨n,hn⟩:∃n,n=bA (aF p):=⟨_,rfl⟩
 obtain⟨c,hc⟩:∃c,c=bh (aF p):=⟨_,rfl⟩
 have hrd:∀i,i<bA (aF p)->aW (aA (bh (aF p) i)) (aA (bu (aA (bh (aF p) i)))):=fun i _=>.refl _
 have rOK:∀{e:Int},e≠0->ig p (x,y) w=e->∀us:List AV,bU us=[]->wX T f47 [6,7,5] (.tuple [eP (iO p (x,y) t w),.int .i64 (ig p (x,y) w)]) ([.ptr 8192 0 7 0 [],.int .i64 e,.ptr 4096 0 3 0 []]++us,[(4096,⟨false,true,3,1,fun _=>.rat w af⟩),(8192,⟨false,true,7,1,fun j=>if(j==0)=true then de (.agg jd.kids)else jd⟩)]):=fun {e} he er us hu=>by
  refine⟨[.ptr 8192 0 7 0 [],.int .i64 e,.ptr 4096 0 3 0 []],us,200000,_,rfl,rfl,hu,S8,rfl,⟨⟨aa,fun _ _=>rfl⟩,⟨aa,fun _ _=>MW rfl rfl⟩,trivial⟩,?_⟩
  simp only[ag.all,az]
  rw[er,show iO p (x,y) t w=((0,0),0)from if_neg (by rw[er];exact he)]
  exact⟨aa,OO,.refl _,trivial⟩
 refine iw (r:=aL (.tuple [eP (iO p (x,y) t w),.int .i64 (ig p (x,y) w)]) []) hT Oi rfl aX rfl (fun _ cx h0=>?_) K []
 have hk:=lX h0
 refine ax.oD hT Ml hm [1,1,1,1,1,1,0] (i:=1) (y:=part Av [1,1,1,1,1,1,0,0,0]) (z:=part Av [1,1,1,1,1,1,1]) ah ah ah Oi.dst hk (f1:=[13,18,28]) (f2:=[45]) 60 Ad 3
  (fun _:Nat=>Es n c) (fun j=>uR w (gu n c (x,y) j) t) (fun j=>j<=200/\ig p (x,y) w=0/\0<w/\(aF p).1≠0/\pg (aF p) (x,y)=true/\mH n c w (200-j) (gu n c (x,y) j)=mH n c w 200 (x,y)) (fun j=>ig p (x,y) w=0/\gu n c (x,y) j=mH n c w 200 (x,y)) (fun j=>200-j)
  (wX T f47 [6,7,5] (.tuple [eP (iO p (x,y) t w),.int .i64 (ig p (x,y) w)])) ⟨_,ad4,?_⟩ (fun j hj=>⟨_,acj,?_⟩) (fun j hj=>?_) (fun v s' hv hs'=>hv.fin (L1:=[9,10]) hk hs')
 ·simp only[ag.all,az,bB,bD,Bool.not_eq_true',Bool.not_eq_false',Ns]
  refine⟨⟨dQ,hof⟩,⟨aa,aa⟩,fun hw0=>⟨aa,rOK (e:=7) (by decide) (if_pos hw0) [.tuple [],.tuple []] rfl⟩,fun hw0=>⟨fun hz=>?_,fun hz=>?_⟩⟩
  ·have hz':(aF p).1=0:=by have hz:((aF p).1:Int)=0:=eq_of_beq hz;omega
   exact⟨aa,rOK (e:=3) (by decide) (by unfold ig;rw[if_neg hw0,if_pos hz']) [.tuple [],.tuple []] rfl⟩
  ·have hz':(aF p).1≠0:=fun h0=>beq_eq_false_iff_ne.1 hz (show((aF p).1:Int)=0 by omega)
   have hw1:0<w:=by grind
   obtain⟨k1,k1e,k2,k3,k4,k5,k6⟩:=hall hw1 hz'
   refine⟨⟨dQ (a:=aF p),k1⟩,⟨aa,hrd,.refl _,.refl _,Nat.succ_pos _,by show bA (aF p)<_;omega,fun hl=>⟨(k5 hl).2.1,(k5 hl).2.2⟩⟩,fun hf=>?_,fun hf=>?_⟩
   ·have hf:wj (bA (aF p)) (bh (aF p)) (x,y)=false:=hf
    rw[k4]at hf
    exact⟨aa,rOK (e:=1) (by decide) (by unfold ig;rw[if_neg hw0,if_neg hz',hf];rfl) [eO (bA (aF p)) (bh (aF p)),.tuple []] rfl⟩
   ·have hf:wj (bA (aF p)) (bh (aF p)) (x,y)=true:=hf
    rw[k4]at hf
    have he:ig p (x,y) w=0:=by unfold ig;rw[if_neg hw0,if_neg hz',hf];rfl
    have hxy:x<=y:=by
     have:(ia x y&&(if x=y then decide (cr (aF p) x=0)else decide (dG (bA (aF p)) (bh (aF p)) x y=1)))=true:=hf
     exact GP.1 (Bool.and_eq_true _ _▸this).1
    have e1:eJ x y=x:=if_neg (by grind)
    have e2:eI x y=y:=by unfold eI;split<;>grind
    refine⟨⟨aa,aa,aa,aa,aa,aa⟩,0,⟨Nat.zero_le _,he,hw1,hz',hf,rfl⟩,[(0,8192),(1,4096),(2,131072)],rfl,by rw[hn,hc];rfl,rfl,kg rfl rfl (.inr ⟨rfl,?_⟩) (cG (cG trivial))⟩
    show aW (eP ((eJ x y,eI x y),t)) (eP ((x,y),t))
    rw[e1,e2];exact .refl _
 ·obtain⟨j1,j2,j3,j4,j5,j6⟩:=hj
  obtain⟨k1,k1e,k2,k3,k4,k5,k6⟩:=hall j3 j4
  have k6:=k6 j5 j j1
  rw[<-hn,<-hc]at k6
  have hrd2:∀i,i<n->aW (aA (c i)) (aA (bu (aA (c i)))):=fun i _=>.refl _
  simp only[ag.all,az,bB,bD,LM]
  refine⟨⟨aa,.refl _,.refl _,aa,aa,aa⟩,fun hb=>?_,fun hb=>⟨rfl,j,⟨j2,?_⟩,[(0,0),(1,1),(2,2)],rfl,rfl,rfl,cG (cG (cG trivial))⟩⟩
  ·obtain⟨i1,i2⟩:=k6 hb
   refine⟨⟨aa,hrd2,.refl _,.refl _,i2,aa⟩,j+1,⟨aa,j2,j3,j4,j5,?_⟩,by dsimp only;omega,[(0,0),(1,1),(2,2)],rfl,rfl,rfl,cG (cG (cG trivial))⟩
   rw[<-j6,show 200-j=(200-(j+1))+1 by omega]
   conv=>rhs;unfold mH
   rw[if_pos (show w<(gu n c (x,y) j).2-(gu n c (x,y) j).1 from hb)];rfl
  ·rw[<-j6,QX (show¬w<(gu n c (x,y) j).2-(gu n c (x,y) j).1 from hb)]
 ·obtain⟨j1,j2⟩:=hj
  refine ax.lH ((aG.fin hT Ml hm 60 acS ah ?_).mono fun _ _ h=>.inl h)
  simp only[ag.all,az]
  refine⟨⟨aa,aa⟩,aa,?_⟩
  rw[j1,show iO p (x,y) t w=(mH (bA (aF p)) (bh (aF p)) w 200 (x,y),t)from if_pos j1,<-hn,<-hc,<-j2]
  exact⟨.refl _,.refl _,trivial⟩
theorem XL {p:PP} {s:Rat×Rat} {t:Int} {w:Rat} (h:qi p s w) (K:Nat):aQ P 48 K [aA p,eP (s,t),.rat w af] [] (aL (.tuple [eP (iO p s t w),.int .i64 (ig p s w)]) []):=by
 have hW:=cF
 have hV:=Bm
 obtain⟨hof,hall⟩:=h
 obtain⟨x,y⟩:=s
 obtain⟨n,hn⟩:∃n,n=bA (aF p):=⟨_,rfl⟩
 obtain⟨c,hc⟩:∃c,c=bh (aF p):=⟨_,rfl⟩
 have rOK:∀{e:Int},e≠0->ig p (x,y) w=e->∀us:List AV,bU us=[]->wX T f48 [6,7,5,4] (.tuple [eP (iO p (x,y) t w),.int .i64 (ig p (x,y) w)]) ([.ptr 8192 0 7 0 [],.int .i64 e,.ptr 4096 0 3 0 [],.ptr 0 0 7 0 []]++us,[(0,⟨false,true,7,1,fun _=>eP ((x,y),t)⟩),(4096,⟨false,true,3,1,fun _=>.rat w af⟩),(8192,⟨false,true,7,1,fun j=>if(j==0)=true then de (.agg jd.kids)else jd⟩)]):=fun {e} he er us hu=>by
  refine⟨[.ptr 8192 0 7 0 [],.int .i64 e,.ptr 4096 0 3 0 [],.ptr 0 0 7 0 []],us,200000,_,rfl,rfl,hu,RU,rfl,⟨⟨aa,fun _ _=>rfl⟩,⟨aa,fun _ _=>rfl⟩,⟨aa,fun _ _=>MW rfl rfl⟩,trivial⟩,?_⟩
  simp only[ag.all,az]
  rw[er,show iO p (x,y) t w=((0,0),0)from if_neg (by rw[er];exact he)]
  exact⟨aa,OO,.refl _,trivial⟩
 refine iw (r:=aL (.tuple [eP (iO p (x,y) t w),.int .i64 (ig p (x,y) w)]) []) hT IW rfl aX rfl (fun _ cx h0=>?_) K []
 have hk:=lX h0
 refine ax.oD hT OH hm [1,1,1,1,0] (i:=1) (y:=part zu [1,1,1,1,0,0,0]) (z:=part zu [1,1,1,1,1]) ah ah ah IW.dst hk (f1:=[12,17,22]) (f2:=[35]) 60 zJ 3
  (fun _:Nat=>Fm n c) (fun j=>uR w (gu n c (x,y) j) t) (fun j=>j<=200/\ig p (x,y) w=0/\0<w/\(aF p).1≠0/\pg (aF p) (x,y)=true/\mH n c w (200-j) (gu n c (x,y) j)=mH n c w 200 (x,y)) (fun j=>ig p (x,y) w=0/\gu n c (x,y) j=mH n c w 200 (x,y)) (fun j=>200-j)
  (wX T f48 [6,7,5,4] (.tuple [eP (iO p (x,y) t w),.int .i64 (ig p (x,y) w)])) ⟨_,Y2,?_⟩ (fun j hj=>⟨_,aia,?_⟩) (fun j hj=>?_) (fun v s' hv hs'=>hv.fin (L1:=[9]) hk hs')
 ·simp only[ag.all,az,bB,bD,Bool.not_eq_true',Bool.not_eq_false',Ns]
  refine⟨⟨dQ,hof⟩,⟨aa,aa⟩,fun hw0=>⟨aa,rOK (e:=7) (by decide) (if_pos hw0) [.tuple []] rfl⟩,fun hw0=>⟨fun hz=>?_,fun hz=>?_⟩⟩
  ·have hz':(aF p).1=0:=by have hz:((aF p).1:Int)=0:=eq_of_beq hz;omega
   exact⟨aa,rOK (e:=3) (by decide) (by unfold ig;rw[if_neg hw0,if_pos hz']) [.tuple []] rfl⟩
  ·have hz':(aF p).1≠0:=fun h0=>beq_eq_false_iff_ne.1 hz (show((aF p).1:Int)=0 by omega)
   have hw1:0<w:=by grind
   obtain⟨k1,k1e,k2,k3,k4,k5,k6⟩:=hall hw1 hz'
   refine⟨⟨aa,dQ (a:=aF p),.refl _,.refl _,k3,fun hl=>⟨(k5 hl).1,k1e,k2,(k5 hl).2.1,(k5 hl).2.2⟩⟩,fun hf=>?_,fun hf=>?_⟩
   ·have hf:pg (aF p) (x,y)=false:=hf
    exact⟨aa,rOK (e:=1) (by decide) (by unfold ig;rw[if_neg hw0,if_neg hz',hf];rfl) [.tuple []] rfl⟩
   ·have hf:pg (aF p) (x,y)=true:=hf
    have he:ig p (x,y) w=0:=by unfold ig;rw[if_neg hw0,if_neg hz',hf];rfl
    exact⟨⟨dQ (a:=aF p),k1e⟩,0,⟨Nat.zero_le _,he,hw1,hz',hf,rfl⟩,[(0,8192),(1,4096),(2,0)],rfl,by rw[hn,hc];rfl,rfl,cG (cG (cG trivial))⟩
 ·obtain⟨j1,j2,j3,j4,j5,j6⟩:=hj
  obtain⟨k1,k1e,k2,k3,k4,k5,k6⟩:=hall j3 j4
  have k6:=k6 j5 j j1
  rw[<-hn,<-hc]at k6
  have hrd2:∀i,i<n->aW (aA (c i)) (aA (bu (aA (c i)))):=fun i _=>.refl _
  simp only[ag.all,az,bB,bD,LM]
  refine⟨⟨aa,.refl _,.refl _,aa,aa,aa⟩,fun hb=>?_,fun hb=>⟨rfl,j,⟨j2,?_⟩,[(0,0),(1,1),(2,2)],rfl,rfl,rfl,cG (cG (cG trivial))⟩⟩
  ·obtain⟨i1,i2⟩:=k6 hb
   refine⟨⟨aa,hrd2,.refl _,.refl _,i2,aa⟩,j+1,⟨aa,j2,j3,j4,j5,?_⟩,by dsimp only;omega,[(0,0),(1,1),(2,2)],rfl,rfl,rfl,cG (cG (cG trivial))⟩
   rw[<-j6,show 200-j=(200-(j+1))+1 by omega]
   conv=>rhs;unfold mH
   rw[if_pos (show w<(gu n c (x,y) j).2-(gu n c (x,y) j).1 from hb)];rfl
  ·rw[<-j6,QX (show¬w<(gu n c (x,y) j).2-(gu n c (x,y) j).1 from hb)]
 ·obtain⟨j1,j2⟩:=hj
  refine ax.lH ((aG.fin hT OH hm 60 Xc ah ?_).mono fun _ _ h=>.inl h)
  simp only[ag.all,az]
  refine⟨⟨aa,aa⟩,aa,?_⟩
  rw[j1,show iO p (x,y) t w=(mH (bA (aF p)) (bh (aF p)) w 200 (x,y),t)from if_pos j1,<-hn,<-hc,<-j2]
  exact⟨.refl _,.refl _,trivial⟩
def Ce:Spec:=dD (kC (kL af) (kC Ei (kC (eU af) kN))) (fun a=>.tuple [eP (iO a.1 a.2.1.1 a.2.1.2 a.2.2.1),.int .i64 (ig a.1 a.2.1.1 a.2.2.1)]) fun a=>[qi a.1 a.2.1.1 a.2.2.1]
theorem SO:aY P Ce 47:=cO fun⟨_,⟨_,_⟩,_,_⟩ K hn=>ajE hn K
theorem SW:aY P Ce 48:=cO fun⟨_,⟨_,_⟩,_,_⟩ K hn=>XL hn K
theorem ahB:bf 101 f101:=bg func101
theorem aa7:bf 102 f102:=bg func102
theorem S1 {q r:Rat} {n m:Nat}:b9 T gN [8] 60 f101 (aH f101) ⟨aU 0 [.rat q n,.rat r m],[],0⟩=
  let c1:Prop:=0<1;some (aj [c1,c1,m<2^41,n<2^41] (fork (decide (fV r q<0)) (aj [c1,c1] (aj [c1] (leaf ret [rat r m]))) (aj [c1,c1] (aj [c1] (leaf ret [rat q n]))))):=ah
theorem ae9 {q r:Rat} {n m:Nat}:b9 T gN [8] 60 f102 (aH f102) ⟨aU 0 [.rat q n,.rat r m],[],0⟩=
  let c1:Prop:=0<1;some (aj [c1,c1,m<2^41,n<2^41] (fork (decide (fV r q>0)) (aj [c1,c1] (aj [c1] (leaf ret [rat r m]))) (aj [c1,c1] (aj [c1] (leaf ret [rat q n]))))):=ah
theorem Zo {q r:Rat}:decide (fV q r<0)=decide (q<r):=by unfold fV;by_cases h:q<r<;>by_cases h':r<q<;>simp[h,h']
theorem Yu {q r:Rat}:decide (fV q r>0)=decide (r<q):=by
 unfold fV
 by_cases h:q<r
 ·have:¬r<q:=by grind
  simp[h,this]
 ·by_cases h':r<q<;>simp[h,h']
theorem ZH {q r:Rat} {n m:Nat} (hn:n<2^41) (hm':m<2^41) (K:Nat):aQ P 101 K [.rat q n,.rat r m] [] (aL (.rat (eJ q r) (max n m)) []):=by
 refine ck hT gM hm ahB rfl aX rfl 60 S1 (fun _=>?_) K []
 rw[Zo]
 simp only[ag.all,az,bB,bD]
 (repeat' with_reducible first|refine And.intro ?_ ?_|intro _)
 all_goals first|omega|skip
 ·rename_i h;unfold eJ;rw[if_pos h];exact lW (Nat.le_max_right _ _)
 ·rename_i h;unfold eJ;rw[if_neg h];exact lW (Nat.le_max_left _ _)
theorem Zu {q r:Rat} {n m:Nat} (hn:n<2^41) (hm':m<2^41) (K:Nat):aQ P 102 K [.rat q n,.rat r m] [] (aL (.rat (eI q r) (max n m)) []):=by
 refine ck hT gM hm aa7 rfl aX rfl 60 ae9 (fun _=>?_) K []
 rw[Yu]
 simp only[ag.all,az,bB,bD]
 (repeat' with_reducible first|refine And.intro ?_ ?_|intro _)
 all_goals first|omega|skip
 ·rename_i h;unfold eI;rw[if_pos h];exact lW (Nat.le_max_right _ _)
 ·rename_i h;unfold eI;rw[if_neg h];exact lW (Nat.le_max_left _ _)
def O3:bk:=[(101,Gy dR dR ae1 (b2 41)),(102,Gy dR dR ai0 (b2 41))]
theorem adg:bR P O3:=aJ (Rk fun _ _ K hn=>ZH (B6 hn).1 (B6 hn).2 K) (aJ (Rk fun _ _ K hn=>Zu (B6 hn).1 (B6 hn).2 K) cz)
theorem ac4:bf 43 f43:=bg func43
def LU:bk:=(87,kj Bt)::O3
def qI (n:Nat) (f:Nat->AV) (a:Int):Rat×Rat:=(eJ (kM n f a) (kM n f (jX n f a)),eI (kM n f a) (kM n f (jX n f a)))
def Dp (n:Nat) (f:Nat->AV) (a:Int):Int:=jX n f (jX n f a)
def Gg (n:Nat) (f:Nat->AV) (a:Int) (l:List AV):Option (AV×Int×List Prop):=match l with
 |[]=>some (dA (qI n f a).1 (qI n f a).2 64,Dp n f a,[])
 |_=>none
theorem ajJ {n:Nat} {z:Nat->Int} {a:Int}:zL T LU [] 60 f43 (aH f43) ⟨aU 0 [.ptr 0 0 2 0 []],[(0,j9 n (fun i=>.int .i64 (z i)) a)],1⟩=
  let c4:Rat:=kM n (fun i=>int i64 (z i)) a;let c2:Int:=jX n (fun i=>int i64 (z i)) a;let c1:Prop:=0<1;let c3:Rat:=kM n (fun i=>int i64 (z i)) c2;some (aj [dh n (fun i=>int i64 (z i)) a,dh n (fun i=>int i64 (z i)) c2,c1,c1] (aj [c1,c1,c1,c1,c1] (aj [c1] (leaf ret ([agg [rat (eJ c4 c3) 64,rat (eI c4 c3) 64]],some (au.mk false true 2 1 fun x=>agg [ak 1 n fun i=>int i64 (z i),int i64 (jX n (fun i=>int i64 (z i)) c2)])))))):=ah
theorem YY:bR P LU:=aJ MX adg
theorem acv:aY P (kj Gg) 43:=by
 refine yZ fun {k n z a l v b q o} K hg ho hd hq=>?_
 unfold Gg at hg
 split at hg
 ·simp only[ay,Prod.mk.injEq]at hg
  obtain⟨rfl,rfl,rfl⟩:=hg
  refine DZ hT YY hm ac4 rfl rfl aX ho 60 ajJ (fun _=>?_) K
  simp only[ag.all,az]
  (repeat' with_reducible refine And.intro ?_ ?_)
  all_goals first|omega|exact hd|exact hd.number|skip
  ·exact aW.refl _
  ·exact⟨_,rfl,rfl,tA rfl rfl⟩
 ·simp at hg
def Dz (j:Nat) (z:Rat):Prop:=bZ ((12*2^j:Nat):Int) (j+12) z
theorem Dz.up {j:Nat} {z:Rat} (h:Dz j z):Dz (j+1) z:=by
 have:=bZ.up (E:=2) (e:=1) h (by decide)
 unfold Dz
 rw[Nat.pow_succ,<-Nat.mul_assoc,Int.natCast_mul,show j+1+12=j+12+1 by omega]
 exact this
theorem Dz.mid {j:Nat} {x y:Rat} (hx:Dz j x) (hy:Dz j y):Dz (j+1) (aV x y):=by
 obtain⟨z,h1,h2⟩:=bZ.add hx hy
 refine⟨z,?_,by rw[show j+1+12=j+12+1 by omega];exact h2⟩
 have e:((12*2^(j+1):Nat):Int)=((12*2^j:Nat):Int)*2:=by rw[Nat.pow_succ];omega
 rw[h1,e,Rat.intCast_mul]
 unfold aV
 generalize (((12*2^j:Nat):Int):Rat)=D
 rw[show((2:Int):Rat)=2 from rfl];grind
theorem uY (j:Nat):((12*2^j:Nat):Int)≠0/\((12*2^j:Nat):Int).natAbs<=2^(j+12):=by
 have:=Nat.pow_pos (n:=j) (show 0<2 by decide)
 refine⟨aa,?_⟩
 rw[Int.natAbs_natCast,Nat.pow_add,Nat.mul_comm]
 exact Nat.mul_le_mul_left _ (by decide)
theorem Dz.sz {j:Nat} {z:Rat} (h:Dz j z) (hj:j<=cH+1000):Sz z af:=by
 have hD:=nE
 have hW:=cF
 exact(bZ.sz (uY j).1 (uY j).2 h).more aa
theorem Dz.ch {c:PP} (hc:eH c) {j:Nat} {z:Rat} (h:Dz j z) (hj:j<=cH+1000):cq (bA c) (bh c) z:=by
 have hD:=nE
 exact QD hc h (uY j).2 (uY j).1 aa
theorem Dz.va {c:PP} (hc:eH c) {j:Nat} {z:Rat} (h:Dz j z) (hj:j<=cH+1000):gb c z:=by
 have hD:=nE
 have hW:=cF
 exact N8 hc.bd h (uY j).2 (uY j).1 hc.len aa
theorem Dy.dz {z:Rat} (h:Dy z):∃j,j<=cH/\Dz j z:=by
 obtain⟨j,h1,h2⟩:=h
 refine⟨j,h1,?_⟩
 have:=h2.up (E:=12) (e:=4) (by decide)
 unfold Dz
 rw[Int.natCast_mul,Int.mul_comm]
 exact this.more aa
theorem Dz.HQ {j:Nat} {z:Rat} (h:Dz j z):∀m,Dz (j+m) z
 |0=>h
 |m+1=>(Dz.HQ h m).up
theorem Wt {n:Nat} {c:Nat->PP} {s:Rat×Rat} (h:s.1<=s.2):(iC n c s).1<=(iC n c s).2/\(iC n c s).2-(iC n c s).1<=(s.2-s.1)*(1/2):=by
 unfold iC aV
 split
 ·exact⟨by grind,by grind⟩
 ·split
  ·exact⟨by grind,by grind⟩
  ·exact⟨by grind,by grind⟩
theorem Ye {n:Nat} {c:Nat->PP} {s:Rat×Rat} {j:Nat} (h1:Dz j s.1) (h2:Dz j s.2):Dz (j+1) (iC n c s).1/\Dz (j+1) (iC n c s).2:=by
 unfold iC
 split
 ·exact⟨h1.mid h2,h1.mid h2⟩
 ·split
  ·exact⟨h1.up,h1.mid h2⟩
  ·exact⟨h1.mid h2,h2.up⟩
theorem PV {n:Nat} {c:Nat->PP} {s:Rat×Rat} {J:Nat} (h:s.1<=s.2) (h1:Dz J s.1) (h2:Dz J s.2):∀j,Dz (J+j) (gu n c s j).1/\Dz (J+j) (gu n c s j).2/\(gu n c s j).1<=(gu n c s j).2/\((gu n c s j).2-(gu n c s j).1)*T2 j<=s.2-s.1
 |0=>⟨h1,h2,h,by unfold T2;rw[Rat.pow_zero,Rat.mul_one];exact Rat.le_refl⟩
 |j+1=>by
  obtain⟨a,b,d,e⟩:=PV (n:=n) (c:=c) h h1 h2 j
  obtain⟨k1,k2⟩:=Wt (n:=n) (c:=c) d
  obtain⟨k3,k4⟩:=Ye (n:=n) (c:=c) a b
  refine⟨k3,k4,k1,?_⟩
  show((iC n c (gu n c s j)).2-(iC n c (gu n c s j)).1)*T2 (j+1)<=_
  rw[qk]
  have hT:=ni j
  have:=Rat.mul_nonneg (a:=((gu n c s j).2-(gu n c s j).1)*(1/2)-((iC n c (gu n c s j)).2-(iC n c (gu n c s j)).1)) (b:=T2 j) (by grind) (by grind)
  grind
theorem Lg {p:PP} {s:Rat×Rat} {w:Rat} {J:Nat} (hof:kD p) (hg:(aF p).1≠0->eH (aF p)) (h1:Dz J s.1) (h2:Dz J s.2) (hJ:J<=cH) (hs:s.2-s.1<=4096) (hw:0<w->1<=w*64):qi p s w:=by
 refine⟨hof,fun h0 hp=>?_⟩
 have hc:=hg hp
 have hsm:=H9 hc
 have hJ0:J<=cH+1000:=Nat.le_trans hJ (Nat.le_add_right _ _)
 refine⟨(Cd hc).1,(Cd hc).2,aa,by have:=hc.len;omega,?_,fun _=>⟨h1.va hc hJ0,h1.ch hc hJ0,h2.ch hc hJ0⟩,fun hf j hj hlt=>?_⟩
 ·unfold wj pg
  rw[decide_eq_decide.2 (xL hc)]
 ·have hle:s.1<=s.2:=GP.1 (Bool.and_eq_true _ _▸(show(ia s.1 s.2&&(if s.1=s.2 then decide (cr (aF p) s.1=0)else decide (dG (bA (aF p)) (bh (aF p)) s.1 s.2=1)))=true from hf)).1
  obtain⟨a,b,d,e⟩:=PV (n:=bA (aF p)) (c:=bh (aF p)) hle h1 h2 j
  have hw1:=hw h0
  have hJ1:J+j<=cH+1000:=Nat.le_trans (Nat.add_le_add hJ hj) (Nat.add_le_add_left (by decide) _)
  have hJ2:J+j+1<=cH+1000:=Nat.le_trans (Nat.add_le_add_right (Nat.add_le_add hJ hj) 1) (Nat.add_le_add_left (show 200+1<=1000 by decide) _)
  generalize gu (bA (aF p)) (bh (aF p)) s j=u at*
  refine⟨?_,Nat.succ_pos _,aa,by grind,a.ch hc hJ1,(a.mid b).ch hc hJ2,(a.mid b).sz hJ2⟩
  refine Decidable.byContradiction fun hn=>?_
  have t18:T2 18=262144:=by unfold T2;decide+kernel
  have hT:=l5 (show 18<=j by omega)
  have:=Rat.mul_nonneg (a:=u.2-u.1) (b:=T2 j-T2 18) (by grind) (by grind)
  rw[t18]at this
  grind
theorem JW {n:Nat} {f:Nat->AV} {a:Int}:Dz 0 (kM n f a):=bZ.more (D:=12) FA (by decide)
theorem KS {n:Nat} {f:Nat->AV} {a:Int}:Ab (kM n f a) 128:=by
 have:=FA (n:=n) (f:=f) (a:=a)
 have h:=this.ab (by decide)
 rwa [show T2 7=128 by unfold T2;decide+kernel]at h
theorem S6 {n:Nat} {f:Nat->AV} {a:Int}:Dz 0 (qI n f a).1/\Dz 0 (qI n f a).2/\(qI n f a).2-(qI n f a).1<=4096:=by
 have h1:=KS (n:=n) (f:=f) (a:=a)
 have h2:=KS (n:=n) (f:=f) (a:=jX n f a)
 refine⟨?_,?_,?_⟩
 ·show Dz 0 (eJ _ _);unfold eJ;split<;>exact JW
 ·show Dz 0 (eI _ _);unfold eI;split<;>exact JW
 ·show eI _ _-eJ _ _<=4096
  unfold Ab at h1 h2
  unfold eI eJ
  split<;>split<;>grind
theorem ajy {c:PP} (hc:eH c) {s:Rat×Rat} (hs:s∈lG cH (bA c) (bh c)):0<=s.1/\s.2<=1:=by
 unfold lG at hs
 rcases List.mem_append.1 hs with hs|hs
 ·rcases List.mem_append.1 hs with hs|hs
  ·split at hs
   ·rw[List.mem_singleton]at hs;subst hs;exact⟨Rat.le_refl,by decide⟩
   ·cases hs
  ·have:=zC hc cH (show(0:Rat)<1 by decide) s hs
   exact⟨this.2.2.1,this.2.2.2⟩
 ·split at hs
  ·rw[List.mem_singleton]at hs;subst hs;exact⟨by decide,Rat.le_refl⟩
  ·cases hs
theorem aje {p:PP} {w:Rat} (hof:kD p) (hg:(aF p).1≠0->eH (aF p)) {i:Nat} (hi:i<(dY cH p).length) (hw:0<w->1<=w*64):qi p (cj (dY cH p) i) w:=by
 rw[ET hg]at hi ⊢
 by_cases h0:(aF p).1=0
 ·rw[show iG cH p=[]from if_pos h0]at hi;exact absurd hi (Nat.not_lt_zero _)
 ·have e:iG cH p=lG cH (bA (aF p)) (bh (aF p)):=if_neg h0
  rw[e]at hi ⊢
  have hm:=Gd hi
  obtain⟨a,b⟩:=Ru hm
  obtain⟨u,v⟩:=ajy (hg h0) hm
  obtain⟨j,j1,j2⟩:=a.dz
  obtain⟨k,k1,k2⟩:=b.dz
  have a2:=j2.HQ (max j k-j)
  have b2:=k2.HQ (max j k-k)
  rw[show j+(max j k-j)=max j k by omega]at a2
  rw[show k+(max j k-k)=max j k by omega]at b2
  exact Lg hof hg a2 b2 (Nat.max_le.2 ⟨j1,k1⟩) (by grind) hw
end Go.Am.B
