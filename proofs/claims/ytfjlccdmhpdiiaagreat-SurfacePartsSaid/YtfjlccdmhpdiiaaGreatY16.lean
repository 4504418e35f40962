/- law12.spans, ref03.Halves, Has, Of. -/
import Derived.Test.YtfjlccdmhpdiiaaGreatY15
import Derived.Test.YtfjlccdmhpdiiaaGreatY11
set_option linter.unusedVariables false
namespace Go.Am.B
open Go Go.Am.N AV ag aq IntKind Proofs.Tryz
theorem S6:aW 9 f9:=aT func9
theorem abu:aW 141 f141:=aT func141
theorem SA:aW 60 f60:=aT func60
theorem adx:aW 12 f12:=aT func12
theorem Xc:aW 18 f18:=aT func18
def Lk:Spec:=cA (kC (gp 100) (kC (gp 100) kN)) (fun a=>.rat ((a.1+a.2.1)/2) 100) fun a=>[Sz ((a.1+a.2.1)/2) 100]
def L9:Spec:=cA (kC (lK 100) kN) (fun a=>.rat ((a.1.1+a.1.2)/2) 100) fun a=>[Sz ((a.1.1+a.1.2)/2) 100]
def OS:Spec:=cA (kC (lK 100) kN) (fun a=>.tuple [dO a.1.1 ((a.1.1+a.1.2)/2) 100,dO ((a.1.1+a.1.2)/2) a.1.2 100]) fun a=>[Sz ((a.1.1+a.1.2)/2) 100]
def Kb:Spec:=cA (kC (lK 2000) (kC (gp 2000) kN)) (fun a=>.bool (jm a.1.1 a.1.2 a.2.1)) fun _=>[]
def K7:aX:=nG::(45,tA)::rV
def aaD:aX:=nG::(141,Lk)::[]
def Vc:aX:=nG::(60,L9)::[]
noncomputable def Mq:aX:=[(49,iZ T (sG::LC) [] 60 f49),(48,iZ T [nG] [] 60 f48)]
noncomputable def Jl:aX:=nG::(50,Bc)::(Mq++(F8++rR))
abbrev rO (a b c d:Int):AV:=.agg [.int .i64 a,.int .i64 b,.int .i64 c,.int .i64 d]
def R7:Kind (Int×Int×Int×Int):=⟨fun v=>match v with
 |.agg [.int .i64 a,.int .i64 b,.int .i64 c,.int .i64 d]=>some ((a,b,c,d),[])
 |_=>none,fun a=>rO a.1 a.2.1 a.2.2.1 a.2.2.2,fun {v a q} h hq=>by
  split at h
  ·simp only[ay,Prod.mk.injEq]at h
   obtain⟨rfl,rfl⟩:=h
   exact .refl _
  ·simp at h⟩
def fM (k:Nat->Rat) (n:Nat) (i:Int):Rat:=k 0+gN i*(k (n-1)-k 0)
def lp (s:Sf) (a b:Int):Rat×Rat:=if a%30=28 then(ff (fM s.ku s.a a) (fM s.ku s.a b),fJ (fM s.ku s.a a) (fM s.ku s.a b))else(fJ (fM s.ku s.a a) (fM s.ku s.a b),ff (fM s.ku s.a a) (fM s.ku s.a b))
def m7 (s:Sf) (a c d:Int):Rat×Rat:=(fJ (fM s.kv s.b c) (fM s.kv s.b d),if a%30=29 then ff (fM s.kv s.b c) (fM s.kv s.b d)+2 else ff (fM s.kv s.b c) (fM s.kv s.b d))
def P5:Spec:=cA (kC (ir 64 200) (kC R7 kN)) (fun a=>.tuple [dO (lp a.1 a.2.1.1 a.2.1.2.1).1 (lp a.1 a.2.1.1 a.2.1.2.1).2 100,dO (m7 a.1 a.2.1.1 a.2.1.2.2.1 a.2.1.2.2.2).1 (m7 a.1 a.2.1.1 a.2.1.2.2.1 a.2.1.2.2.2).2 100]) fun a=>[jW a.1]
theorem ajg {x y:Rat}:bU T K7 [] 60 f141 (aF f141) ⟨aQ 0 [.rat x 100,.rat y 100],[],0⟩=
  let c3:Prop:=0<1;let c2:Int:=(2:Int)^63;let c1:Nat:=2^41;some (aj [c3,c3,(100:Nat)<c1,(100:Nat)<c1,-c2<=1,(1:Int)<c2,-c2<=2,(2:Int)<c2,(100:Nat)+100+1<c1,(64:Nat)<c1,c3] (aj [c3] (leaf ret [rat ((x+y)*((↑(1:Int):Rat)/(↑(2:Int):Rat))) 265]))):=ah
theorem YT {x y:Rat}:bU T aaD [] 60 f60 (aF f60) ⟨aQ 0 [dO x y 100],[],0⟩=
  let c2:Prop:=100<=100;let c1:Prop:=0<1;some (aj [c1,c1,c2,c2,Sz ((x+y)/2) 100,c1] (aj [c1] (leaf ret [rat ((x+y)/2) 100]))):=ah
theorem ab1 {x y:Rat}:bU T Vc [] 60 f12 (aF f12) ⟨aQ 0 [dO x y 100],[],0⟩=
  let c4:AV:=rat y 100;let c3:AV:=rat x 100;let c1:Prop:=0<1;let c2:Rat:=(aE c3+aE c4)/2;some (aj [c1,bh c3 (rat (aE c3) 100),bh c4 (rat (aE c4) 100),Sz c2 100,c1] (aj [c1,c1,c1,c1,c1,c1] (aj [c1,c1] (leaf ret [agg [c3,rat c2 100],agg [rat c2 100,c4]])))):=ah
theorem acE {x y r:Rat}:bU T (nG::rV) [10] 60 f18 (aF f18) ⟨aQ 0 [dO x y 2000,.rat r 2000],[],0⟩=
  let c3:Bool:=decide (ep x r<=0);let c2:Prop:=0<1;let c1:Prop:=2000<2^41;some (fork c3 (aj [c2,c2,c1,c1,c3=true,c2,c2,c1,c1] (leaf ret [AV.bool (bif true then decide (ep r y<=0)else false)])) (aj [c2,c2,c1,c1,c3=false] (leaf ret [AV.bool false]))):=ah
theorem aeC {s:Sf} {a b c d:Int}:bU T Jl [36,44] 60 f9 (aF f9) ⟨aQ 0 [bu s 64 200,rO a b c d],[],0⟩=
  let c15:Prop:=(0:Int)<=0;let c14:Int:=(2:Int)^63;let c12:Int:=(↑(4:Nat):Int);let c8:Int:=(↑s.b:Int)-1;let c7:Int:=(↑s.a:Int)-1;let c2:Nat:=Int.toNat (0:Int);let c1:Prop:=0<1;let c13:List Prop:=[c1,c1,c1,c1];let c4:Rat:=s.ku c7.toNat-s.ku c2;let c3:Rat:=s.kv c8.toNat-s.kv c2;let c16:Rat:=ff (s.kv c2+gN c*c3) (s.kv c2+gN d*c3);let c11:AV:=rat (fJ (s.kv c2+gN c*c3) (s.kv c2+gN d*c3)) 258;let c10:AV:=rat (fJ (s.ku c2+gN a*c4) (s.ku c2+gN b*c4)) 258;let c9:AV:=rat (ff (s.ku c2+gN a*c4) (s.ku c2+gN b*c4)) 258;let c6:AV:=agg [c10,c9];let c5:List AV:=[agg [c11,rat c16 258]];some (aj (c1::c1::(c15/\c2<s.a)::c1::c1::(-c14<=c7/\c7<c14)::((0:Int)<=c7/\c7.toNat<s.a)::c1::(c15/\c2<s.b)::c1::c1::(-c14<=c8/\c8<c14)::((0:Int)<=c8/\c8.toNat<s.b)::c1::c1::c13) (aj (c1::(c15/\(0:Int)<c12)::c1::c1::c1::((0:Int)<=1/\(1:Int)<c12)::c1::c1::c1::c1::((0:Int)<=2/\(2:Int)<c12)::c1::c1::c1::((0:Int)<=3/\(3:Int)<c12)::c1::c13) (aj [c15/\(0:Int)<c12,c1,(0:Int)<30,(30:Int)<2^62] (fork (a%(30:Int)==28) (aj c13 (aj c13 (aj [c1,c1] (leaf ret (agg [c9,c10]::c5))))) (fork (a%(30:Int)==29) (aj [c1,c1] (aj c13 (aj [c1,c1] (leaf ret [c6,agg [c11,rat (c16+(↑(2:Int):Rat)) 261]])))) (aj c13 (aj [c1,c1] (leaf ret (c6::c5))))))))):=ah
theorem ael:bq P K7:=cz (aI vH vu)
theorem ade:aU P Lk 141:=ct fun⟨x,y,_⟩ K hn=>by
 have hn:Sz ((x+y)/2) 100:=hn
 refine bX (r:=aJ (.rat ((x+y)/2) 100) []) hT ael hm abu rfl aV rfl 60 ajg (fun _=>?_) K []
 simp only[ag.all,az]
 refine⟨by decide,by decide,dU ?_ hn⟩
 show(x+y)*(((1:Int):Rat)/((2:Int):Rat))=(x+y)/2
 rw[show((1:Int):Rat)/((2:Int):Rat)=2⁻¹ by decide+kernel,Rat.div_def]
theorem QY:aU P L9 60:=ct fun⟨⟨x,y⟩,_⟩ K hn=>by
 have hn:Sz ((x+y)/2) 100:=hn
 refine bX (r:=aJ (.rat ((x+y)/2) 100) []) hT (cz (aI ade bB)) hm SA rfl aV rfl 60 YT (fun _=>?_) K []
 simp only[ag.all,az]
 exact⟨⟨by decide,by decide,by decide,by decide,hn,by decide⟩,by decide,.refl _⟩
theorem aeb:aU P OS 12:=ct fun⟨⟨x,y⟩,_⟩ K hn=>by
 have hn:Sz ((x+y)/2) 100:=hn
 refine bX (r:=aJ (.tuple [dO x ((x+y)/2) 100,dO ((x+y)/2) y 100]) []) hT (cz (aI QY bB)) hm adx rfl aV rfl 60 ab1 (fun _=>?_) K []
 simp only[ag.all,az]
 exact⟨⟨by decide,.refl _,.refl _,hn,by decide⟩,by decide,by decide,.refl _,.refl _,trivial⟩
theorem abk:aU P Kb 18:=ct fun⟨⟨x,y⟩,r,_⟩ K _=>by
 refine bX (r:=aJ (.bool (jm x y r)) []) hT (cz vu) hm Xc rfl aV rfl 60 acE (fun _=>?_) K []
 have m1:2000<2^41:=by decide
 simp only[ag.all,az,Hz,bk,bt,cond_true]
 refine⟨fun h=>⟨⟨aa,aa,m1,m1,h,aa,aa,m1,m1⟩,fF (decide_eq_decide.2 ⟨fun g=>⟨h,g⟩,fun g=>g.2⟩)⟩,fun h=>⟨⟨aa,aa,m1,m1,h⟩,fF (decide_eq_false fun g=>h g.1).symm⟩⟩
theorem Sq:bq P Mq:=aI (jn hT (kW Vp) hm (aT func49) _ _) (aI (jn hT (cz bB) hm (aT func48) _ _) bB)
theorem W6:bq P Jl:=cz (aI EN (zM Sq (zM MO uE)))
theorem Pm {C:Rat->Prop} {a b:Rat} (ha:C a) (hb:C b):C (fJ a b)/\C (ff a b):=by
 constructor
 ·unfold fJ;split<;>assumption
 ·unfold ff;split<;>assumption
theorem fC.two {x:Rat} (h:fC x):cO (x+2):=by
 obtain⟨z,e,h1,h2⟩:=h
 refine⟨z*2+221760,?_,aa,aa⟩
 rw[Rat.intCast_add,Rat.intCast_mul,e,Rat.add_mul,Rat.mul_assoc,show(55440:Rat)*((2:Int):Rat)=110880 by decide+kernel,show(2:Rat)*110880=((221760:Int):Rat) by decide+kernel]
theorem jW.wi {s:Sf} (hs:jW s) (i:Int):fC (fM s.ku s.a i)/\fC (fM s.kv s.b i):=by
 have l1:=hs.ok.ku.len
 have l2:=hs.ok.kv.len
 exact⟨Qm ((hs.c 0).h 0) ((hs.c 0).h _) (hs.ok.ku.mono (Nat.zero_le _) aa),Qm ((hs.r 0).h 0) ((hs.r 0).h _) (hs.ok.kv.mono (Nat.zero_le _) aa)⟩
theorem jW.sp {s:Sf} (hs:jW s) (a b c d:Int):(fC (lp s a b).1/\fC (lp s a b).2)/\fC (m7 s a c d).1/\cO (m7 s a c d).2:=by
 obtain⟨u1,u2⟩:=Pm (hs.wi a).1 (hs.wi b).1
 obtain⟨v1,v2⟩:=Pm (hs.wi c).2 (hs.wi d).2
 unfold lp m7
 refine⟨?_,v1,?_⟩
 ·split
  ·exact⟨u2,u1⟩
  ·exact⟨u1,u2⟩
 ·show cO (if a%30=29 then _ else _)
  split
  ·exact v2.two
  ·exact v2.m
theorem TL:aU P P5 9:=ct fun⟨s,⟨a,b,c,d⟩,_⟩ K hn=>by
 have hs:jW s:=hn
 obtain⟨⟨x1,x2⟩,x3,x4⟩:=hs.sp a b c d
 have l1:=hs.ok.ku.len
 have l2:=hs.ok.kv.len
 have lI:=hs.lI
 have nq:=hs.nq
 have e1:((s.a:Int)-1).toNat=s.a-1:=aa
 have e2:((s.b:Int)-1).toNat=s.b-1:=aa
 refine bX (r:=aJ (.tuple [dO (lp s a b).1 (lp s a b).2 100,dO (m7 s a c d).1 (m7 s a c d).2 100]) []) hT W6 hm S6 rfl aV rfl 60 aeC (fun _=>?_) K []
 simp only[ag.all,az,e1,e2,Int.toNat_zero,beq_iff_eq,beq_eq_false_iff_ne,ne_eq]
 have up:∀{q r:Rat} {n:Nat},q=r->cO r->bh (.rat q n) (.rat r 100):=fun h hr=>dU h (hr.sz.more (by decide))
 have eU:∀(h:a%30=28),lp s a b=(ff (fM s.ku s.a a) (fM s.ku s.a b),fJ (fM s.ku s.a a) (fM s.ku s.a b)):=fun h=>if_pos h
 have eU':∀(h:¬a%30=28),lp s a b=(fJ (fM s.ku s.a a) (fM s.ku s.a b),ff (fM s.ku s.a a) (fM s.ku s.a b)):=fun h=>if_neg h
 have eW:∀(h:a%30=29),(m7 s a c d).2=ff (fM s.kv s.b c) (fM s.kv s.b d)+2:=fun h=>if_pos h
 have eW':∀(h:¬a%30=29),(m7 s a c d).2=ff (fM s.kv s.b c) (fM s.kv s.b d):=fun h=>if_neg h
 refine⟨aa,aa,aa,fun h=>⟨aa,aa,aa,cL ⟨up (by rw[eU h];rfl) x1.m,up (by rw[eU h];rfl) x2.m,trivial⟩,cL ⟨up rfl x3.m,up (by rw[eW' aa];rfl) x4,trivial⟩,trivial⟩,
  fun h=>⟨fun g=>⟨aa,aa,aa,cL ⟨up (by rw[eU' h];rfl) x1.m,up (by rw[eU' h];rfl) x2.m,trivial⟩,cL ⟨up rfl x3.m,up (by rw[eW g];rfl) x4,trivial⟩,trivial⟩,
   fun g=>⟨aa,aa,cL ⟨up (by rw[eU' h];rfl) x1.m,up (by rw[eU' h];rfl) x2.m,trivial⟩,cL ⟨up rfl x3.m,up (by rw[eW' g];rfl) x4,trivial⟩,trivial⟩⟩⟩
theorem Uf:aU P BE 19:=ct fun⟨⟨n,k⟩,_⟩ K hn=>by
 have h1:n<2^40:=hn.1
 have h2:∀i,i<aP k n->Sz (br k n i) 2000:=hn.2
 exact sP (u:=ls (br k n) (aP k n)) (l:=[bn (fun i=>.rat (k i) 2000) n sJ,n<2^40]) (abq K [bD k n 2000] [] _ rfl) (fun _=>⟨bI (by decide),h1⟩) rfl rfl (fB fun i hi=>dU rfl (h2 i hi))
theorem Bp {c:Cu} {a b:Rat}:cU c a b 0=a/\cU c a b (dP c a b-1)=b:=by
 unfold cU jw dP
 exact⟨if_pos (Nat.succ_pos _),by rw[if_neg aa,if_neg aa]⟩
theorem CW {t:Sf} {a b c d:Rat}:(eH t a b c d).ku 0=a/\(eH t a b c d).ku ((eH t a b c d).a-1)=b/\(eH t a b c d).kv 0=c/\(eH t a b c d).kv ((eH t a b c d).b-1)=d:=
 ⟨(Bp (c:=eE t 0) (a:=a) (b:=b)).1,(Bp (c:=eE t 0) (a:=a) (b:=b)).2,(Bp (c:=eE (fU (lT (fun x=>iR x a b) t)) 0) (a:=c) (b:=d)).1,(Bp (c:=eE (fU (lT (fun x=>iR x a b) t)) 0) (a:=c) (b:=d)).2⟩
theorem uB {x y d e:Rat}:kJ x y d e=true↔x<y/\d<=x/\y<=e:=⟨fun h=>of_decide_eq_true h,fun h=>decide_eq_true h⟩
theorem ug {t:Sf} {x y z w:Rat}:ic t x y z w=0↔(x<y/\t.ku 0<=x/\y<=t.ku (t.a-1))/\z<w/\t.kv 0<=z/\w<=t.kv (t.b-1):=by
 unfold ic
 constructor
 ·intro h
  by_cases g:(kJ x y (t.ku 0) (t.ku (t.a-1))&&kJ z w (t.kv 0) (t.kv (t.b-1)))=true
  ·obtain⟨g1,g2⟩:=Bool.and_eq_true_iff.1 g
   exact⟨uB.1 g1,uB.1 g2⟩
  ·rw[if_neg g]at h;exact absurd h (by decide)
 ·rintro⟨h1,h2⟩
  rw[uB.2 h1,uB.2 h2];rfl
theorem eO.part {s t:Sf} {x y z w:Rat} (hs:eO s) (h:TW s t) (he:ic t x y z w=0) (mx:cO x) (my:cO y) (mz:cO z) (mw:cO w):ki t x y z w=eH t x y z w/\TW s (eH t x y z w):=by
 obtain⟨⟨h1,h2,h3⟩,h4,h5,h6⟩:=ug.1 he
 exact⟨if_pos he,h.cut hs h1 h2 h3 mx my h4 h5 h6 mz mw⟩
theorem eO.abp {s:Sf} {x y z w m:Rat} (hs:eO s) (he:ic s x y z w=0) (hm1:x<m) (hm2:m<=y) (mx:cO x) (my:cO y) (mz:cO z) (mw:cO w) (mm:cO m):
  ic (eH s x y z w) x m z w=0/\ic s x m z w=0/\TW s (eH (eH s x y z w) x m z w)/\TW s (eH s x m z w)/\AQ (eH (eH s x y z w) x m z w) (eH s x m z w):=by
 obtain⟨⟨h1,h2,h3⟩,h4,h5,h6⟩:=ug.1 he
 obtain⟨e1,e2,e3,e4⟩:=CW (t:=s) (a:=x) (b:=y) (c:=z) (d:=w)
 obtain⟨_,hA⟩:=hs.part hs.self he mx my mz mw
 have g1:ic (eH s x y z w) x m z w=0:=ug.2 ⟨⟨hm1,by rw[e1];exact Rat.le_refl,by rw[e2];exact hm2⟩,h4,by rw[e3];exact Rat.le_refl,by rw[e4];exact Rat.le_refl⟩
 have g2:ic s x m z w=0:=ug.2 ⟨⟨hm1,h2,Rat.le_trans hm2 h3⟩,h4,h5,h6⟩
 obtain⟨_,hB⟩:=hs.part hA g1 mx mm mz mw
 obtain⟨_,hC⟩:=hs.part hs.self g2 mx mm mz mw
 obtain⟨a1,a2⟩:=HS (hs.self.CH hs h1 h2 h3 mx my 0) hm1 hm2
 have hs':=hs.swap
 obtain⟨b1,b2⟩:=HS (hs'.self.CH hs' h4 h5 h6 mz mw 0) h4 Rat.le_refl
 have ea:(eH (eH s x y z w) x m z w).a=(eH s x m z w).a:=a1
 have ek:∀i,(eH (eH s x y z w) x m z w).ku i=(eH s x m z w).ku i:=a2
 have eb:(eH (eH s x y z w) x m z w).b=(eH s x m z w).b:=b1
 have el:∀i,(eH (eH s x y z w) x m z w).kv i=(eH s x m z w).kv i:=b2
 have n1:=hB.n
 have n2:=hC.n
 have m1:=hB.m
 have m2:=hC.m
 have u1:=hB.u
 refine⟨g1,g2,hB,hC,⟨hB.u.trans hC.u.symm,hB.v.trans hC.v.symm,ea,fun i _=>ek i,eb,fun i _=>el i,aa,aa,fun i j hi hj=>(hC.uniq hB ea (fun i _=>ek i) eb (fun i _=>el i) aa aa)⟩⟩
theorem TW.GC {s t:Sf} (h:TW s t) {u v:Rat} (u0:t.ku 0<=u) (u1:u<=t.ku (t.a-1)) (v0:t.kv 0<=v) (v1:v<=t.kv (t.b-1)):¬bQ t.a t.ku u/\¬bQ t.b t.kv v:=⟨B6 u0 u1,B6 v0 v1⟩
theorem eO.patch {s:Sf} (hs:eO s) {q:Nat} (hq:q<(aP s.ku s.a-1)*(aP s.kv s.b-1)):TW s (fe s q)/\q/(aP s.kv s.b-1)+1<aP s.ku s.a/\q%(aP s.kv s.b-1)+1<aP s.kv s.b/\
  (fe s q).ku 0=br s.ku s.a (q/(aP s.kv s.b-1))/\(fe s q).ku ((fe s q).a-1)=br s.ku s.a (q/(aP s.kv s.b-1)+1)/\(fe s q).kv 0=br s.kv s.b (q%(aP s.kv s.b-1))/\(fe s q).kv ((fe s q).b-1)=br s.kv s.b (q%(aP s.kv s.b-1)+1):=by
 have h:=hs.self
 have hM:0<aP s.kv s.b-1:=by
  by_cases g:aP s.kv s.b-1=0
  ·rw[g,Nat.mul_zero]at hq;omega
  ·omega
 have h1:q/(aP s.kv s.b-1)<aP s.ku s.a-1:=(Nat.div_lt_iff_lt_mul hM).2 hq
 have h2:=Nat.mod_lt q hM
 have i1:q/(aP s.kv s.b-1)+1<aP s.ku s.a:=Nat.add_lt_of_lt_sub h1
 have i2:q%(aP s.kv s.b-1)+1<aP s.kv s.b:=Nat.add_lt_of_lt_sub h2
 obtain⟨_,_,u3⟩:=BH h.ku i1
 obtain⟨_,_,v3⟩:=BH h.kv i2
 obtain⟨e1,e2,e3,e4⟩:=CW (t:=s) (a:=br s.ku s.a (q/(aP s.kv s.b-1))) (b:=br s.ku s.a (q/(aP s.kv s.b-1)+1)) (c:=br s.kv s.b (q%(aP s.kv s.b-1))) (d:=br s.kv s.b (q%(aP s.kv s.b-1)+1))
 exact⟨(hs.part h (ug.2 ⟨uB.1 u3,uB.1 v3⟩) (mB h.ku h.mu (Nat.lt_of_succ_lt i1)) (mB h.ku h.mu i1) (mB h.kv h.mv (Nat.lt_of_succ_lt i2)) (mB h.kv h.mv i2)).2,i1,i2,e1,e2,e3,e4⟩
theorem Ox {n p:Nat} {k:Nat->Rat} (hk:Kn n p k) {t:Rat} (h0:k 0<=t) (h1:t<=k (n-1)):∃i,i+1<aP k n/\br k n i<=t/\t<=br k n (i+1):=by
 have hl:=hk.len
 have hp:=hk.p1
 obtain⟨m,hm2⟩:∃m,n=m+1:=⟨n-1,aa⟩
 subst hm2
 obtain⟨e1,e2,e3⟩:=oo (k:=k) (n:=m)
 have h2:2<=aP k (m+1):=by
  by_cases g:2<=aP k (m+1)
  ·exact g
  ·have:=(afL (n:=m+1) (k:=k) aa (fun i hi=>hk.sorted i hi)).1 aa
   have w:=hk.mult 1 aa aa
   rw[hk.first 1 aa]at w
   have:=hk.mono (show 1+p<=m+1-1 by omega) aa
   grind
 rw[show m+1-1=m by omega]at h1
 obtain⟨f,f1,f2,f3⟩:=FR (g:=fun i=>decide (t<=br k (m+1) (i+1))) (n:=aP k (m+1)-1) (i:=aP k (m+1)-2) aa (decide_eq_true (by rw[show aP k (m+1)-2+1=aP k (m+1)-1 by omega,e3];exact h1))
 refine⟨f,aa,?_,of_decide_eq_true f2⟩
 by_cases g:f=0
 ·subst g;rw[e2];exact h0
 ·have:=of_decide_eq_false (f3 (f-1) aa)
  rw[show f-1+1=f by omega]at this
  exact Rat.le_of_lt (Rat.not_le.1 this)
end Go.Am.B
