/- brepkernellaw10.CurveFull. -/
import Derived.Test.YtppeigelbecpbaaGreatY49
set_option linter.unusedVariables false
namespace Go.Am.B
open Go Go.Am.N AV aa ah IntKind
theorem Ga:aN P za nu (au nu):=aO Xh (by kernel_rfl) (by kernel_rfl) (by kernel_rfl)
theorem Su:aN P vw uP (au uP):=aO UX (by kernel_rfl) (by kernel_rfl) (by kernel_rfl)
noncomputable def Er:aT:=nG::(oP,wF)::(tL,Bg)::[]
def Dt:Spec:=cS (kC (kV 2000 2000) kN) (fun _=>.tuple [eM o7 1 1,.int .i64 2]) fun a=>[ek a.1,a.1.p<6,40<(a.1.m:Int)+bB a.1.k a.1.n-1]
noncomputable def rT:aT:=nG::(uc,HZ)::(vu,HL)::(oC,GH)::(pF,B1)::(qX,zC)::(vw,Dt)::(vQ,As)::[]
noncomputable abbrev tX:Code:=au nu
noncomputable abbrev p9:Code:=part tX [1,1,1,1]
def rU (i:Nat):Rat:=((((i-1:Nat):Nat):Int):Rat)
def jz (i:Nat):Pl:=⟨⟨(((i:Int)*(i:Int):Int):Rat),0,0⟩,1⟩
abbrev qu:List Nat:=[2,3,4,5]
abbrev yd (m i:Nat):List AV:=[.bool false,.ptr 0 0 3 0 [],.int .i64 m,.int .i64 i]
abbrev OB (n:Nat) (k:Nat→Rat):ak:=⟨true,true,3,n,fun i=>.rat (k i) 64⟩
abbrev Q3 (n:Nat) (f:Nat→Pl):ak:=⟨true,true,12,n,fun i=>cz (f i) 64⟩
abbrev oU (n m:Nat) (k:Nat→Rat):aA:=[(1,OB n k),(2,Q3 m jz),(0,⟨false,true,3,1,fun _=>.agg [.int .i64 1,.own 1 3 0 n,.own 2 12 0 m]⟩)]
theorem TF {c:Cu}:bu T Er [200008,200004,100014] 60 uP (au uP) ⟨aM 0 [eM c 2000 2000],[],0⟩=
  let c4:Prop:=cj (fun i↦rat (c.k i) 2000) c.n sJ;let c3:Int:=(2:Int)^63;let c2:Prop:=0<1;let c1:Int:=(↑c.m:Int)+(↑(bB (fun i↦aZ (rat (c.k i) 2000)) c.n):Int);let c5:Int:=c1-(1:Int);some (ag [c2,decide (c.p≥(6:Int))=false,c2,c4,gO (fun i↦cz (c.f i) 2000) c.m sJ,ek (Cu.mk c.p c.n (fun i↦aZ (rat (c.k i) 2000)) c.m fun i↦ic (cz (c.f i) 2000))] (ag [(bif false then true else !true)=false] (ag [c2,c2,c4,c.n<2^40,-c3≤c1∧c1<c3,-c3≤c5∧c5<c3] (ag [decide (c5>(40:Int))=true] (ag [c2] (ag [c2] (leaf ret [agg [int i64 (0:Int),nil,nil],int i64 (2:Int)]))))))):=by kernel_rfl
theorem Uv {n:Int}:aJ T rT [] 60 qu (before tX [1,1,1,0,1]) ⟨aM 0 [.int .i64 n],[],0⟩=
  let c2:AV:=agg [int i64 (0:Int),nil,nil];let c1:Int:=(40:Int)-n%(3:Int);some (ag [(1:Nat)*3≤2^24,(0:Nat)<1] (ag [(0:Int)<(3:Int),(3:Int)<(2:Int)^62,-(2:Int)^63≤c1∧c1<(2:Int)^63] (leaf normal ([AV.bool false,ptr 16384 0 3 0 [],int i64 c1,int i64 (0:Int)],[((8192:Nat),ak.mk true true 3 1 fun i↦nth [agg [AV.bool (decide ((0:Rat)<0)),mag (↑(nat_lit 0):Int).natAbs,mag (if 1=1 then 0 else 1)]] (rat 0 1) i),((16384:Nat),ak.mk false true 3 1 fun j↦if(j==0)=true then bH (agg ((c2.kids.set 0 (bH (int i64 (1:Int)))).set 1 (bH (own (nat_lit 8191+1) 3 0 1))))else c2)])))):=by kernel_rfl
theorem MQ {m i:Nat} {k:Nat→Rat}:aJ T rT [18] 60 qu [part tX [1,1,1,0,1,0,0]] ⟨aD qu (yd m i),oU (i+1) i k,3⟩=
  let c12:Int:=(↑m:Int);let c10:AV:=rat 0 64;let c8:AV:=ptr 0 0 3 0 [];let c7:Prop:=0<1;let c6:Nat:=i+1;let c4:AV:=rat 0 1;let c3:Int:=(↑i:Int);let c2:Int:=(2:Int)^63;let c11:Nat:=c6+1;let c9:Int:=c3+(1:Int);let c1:AV:=agg [int i64 (1:Int),own 1 3 0 c6,own 2 12 0 i];let c5:AV:=agg (c1.kids.set 1 (bH (own (nat_lit 32770+1) 3 0 c11)));some (fork (decide (c3<c12)) (ag [c7,-c2≤c3,c3<c2,(1:Nat)*3≤2^24,c11*((56:Nat)+1)*2≤2^47,c7] (ag [c7,-c2≤c3*c3∧c3*c3<c2,-c2≤c3*c3,c3*c3<c2,-c2≤(1:Int),(1:Int)<c2,(1:Nat)*12≤2^24,c6*((224:Nat)+1)*2≤2^47,c7] (ag [-c2≤c9∧c9<c2] (leaf normal ([AV.bool false,c8,int i64 c12,int i64 c9],[((86019:Nat),ak.mk true true 12 c6 fun i_1↦if i_1<i then cz (jz i_1) 64 else nth [agg [agg [rat (↑(c3*c3):Rat) (Max.max 1 (aY (c3*c3).natAbs)),c4,c4],rat (↑(1:Int):Rat) (Max.max 1 (aY (Int.natAbs (1:Int))))]] (agg [agg [c4,c4,c4],c4]) (i_1-i+0)),((32771:Nat),ak.mk true true 3 c11 fun i↦if i<c6 then rat (k i) 64 else nth [rat (↑c3:Rat) (Max.max 1 (aY c3.natAbs))] c4 (i-c6+0)),((0:Nat),ak.mk false true 3 1 fun j↦if(j==0)=true then agg ((if((0:Nat)==0)=true then c5 else c1).kids.set 2 (bH (own (nat_lit 86018+1) 12 0 c6)))else if(j==0)=true then c5 else c1)]))))) (leaf (exit 0) ([AV.bool false,c8,int i64 c12,int i64 c3],[((2:Nat),ak.mk true true 12 i fun i↦agg [agg [rat (↑((↑i:Int)*(↑i:Int)):Rat) 64,c10,c10],rat 1 64]),((1:Nat),ak.mk true true 3 c6 fun i↦rat (k i) 64),((0:Nat),ak.mk false true 3 1 fun x↦c1)]))):=by kernel_rfl
theorem IZ {m i:Nat} {k:Nat→Rat}:aJ T rT [] 60 [2,3,4] (before p9 [1]) ⟨aD qu (yd m i),oU (m+1) m k,3⟩=
  let c5:AV:=rat 0 64;let c4:Int:=(2:Int)^63;let c3:Nat:=m+1;let c2:Int:=(↑m:Int)-(1:Int);let c6:Nat:=c3+1;let c1:AV:=agg [int i64 (1:Int),own 1 3 0 c3,own 2 12 0 m];some (ag [(0:Nat)<1,-c4≤c2∧c2<c4,-c4≤c2,c2<c4,(1:Nat)*3≤2^24,c6*((56:Nat)+1)*2≤2^47,(0:Nat)<1] (leaf normal ([AV.bool false,ptr 0 0 3 0 [],int i64 (↑m:Int)],[((2:Nat),ak.mk true true 12 m fun i↦agg [agg [rat (↑((↑i:Int)*(↑i:Int)):Rat) 64,c5,c5],rat 1 64]),((24579:Nat),ak.mk true true 3 c6 fun i↦if i<c3 then rat (k i) 64 else nth [rat (↑c2:Rat) (Max.max 1 (aY c2.natAbs))] (rat 0 1) (i-c3+0)),((0:Nat),ak.mk false true 3 1 fun j↦if(j==0)=true then agg (c1.kids.set 1 (bH (own (nat_lit 24578+1) 3 0 c6)))else c1)]))):=by kernel_rfl
theorem NH {m:Nat} {k:Nat→Rat}:b7 T rT [60,100064,100068,100072,100078,100082,100090,100095,100099] 200 nu [part p9 [1]] ⟨aD [2,3,4] [.bool false,.ptr 0 0 3 0 [],.int .i64 m],oU (m+2) m k,3⟩=
  let c13:Nat:=m+2;let c12:Bool:=(0:Int)==(0:Int);let c11:Int:=(↑m:Int)+(1:Int);let c10:Prop:=(bif true then(2:Int)==(2:Int)else false)=true;let c9:Prop:=gO (fun i↦cz (jz (i+0)) 64) m 2000;let c8:Prop:=gO (fun i↦cz (jz (i+0)) 64) m 2048;let c7:Rat:=(↑(1:Int):Rat)/(↑(2:Int):Rat);let c4:Int:=(2:Int)^63;let c3:Prop:=0<1;let c6:Prop:=cj (fun i↦rat (k (i+0)) 64) c13 2000;let c5:Prop:=cj (fun i↦rat (k (i+0)) 64) c13 2048;let c1:Cu:=Cu.mk (1:Int) c13 (fun i↦aZ (rat (k (i+0)) 64)) m fun i↦ic (cz (jz (i+0)) 64);let c2:Cu:=kX c1 c7;some (ag [c3,-c4≤(1:Int),(1:Int)<c4,-c4≤(2:Int),(2:Int)<c4,c6,c9,(64:Nat)≤2000,ek c1,c3] (ag [c3,c6,c9,ek c1,(1:Int)<(6:Int),(40:Int)<(↑m:Int)+(↑(bB (fun i↦aZ (rat (k (i+0)) 64)) c13):Int)-(1:Int),c3] (fork ((↑m:Int)==(40:Int)) (ag [c3,c5,c8,ek c1,∀(i:Nat),i<m→0<aZ (rat 1 64),c12=true,(bif true then gl c1 c7==(2:Int)else false)=true,c10] (leaf ret [AV.bool true])) (ag [c3,c5,c8,ek c1,∀(i:Nat),i<m→0<aZ (rat 1 64),c12=true,(bif true then gl c1 c7==(0:Int)else false)=true,c3,-c4≤c11∧c11<c4,(bif true then(↑c2.m:Int)==c11 else false)=true,c3,cj (fun i↦rat (c2.k i) (sK+10)) c2.n 2048,gO (fun i↦cz (c2.f i) (sB+sB)) c2.m 2048,ek (Cu.mk c2.p c2.n (fun i↦aZ (rat (c2.k i) (sK+10))) c2.m fun i↦ic (cz (c2.f i) (sB+sB))),∀(i:Nat),i<c2.m→0<aZ (rat (c2.f i).d (sB+sB)),(bif true then c12 else false)=true,c10] (leaf ret [AV.bool true]))))):=by kernel_rfl
theorem Qa:bp P Er:=dN (aK B0 (aK Gl br))
theorem P5 {c:Cu} (hc:ek c) (h6:c.p<6) (h40:40<(c.m:Int)+bB c.k c.n-1) (K:Nat):aB P vw K [eM c 2000 2000] [] (aG (.tuple [eM o7 1 1,.int .i64 2]) []):=by
 obtain⟨h1,h2,h3,h4,h5⟩:=id hc
 have hd:=ny (k:=c.k) (n:=c.n)
 refine bE (r:=aG (.tuple [eM o7 1 1,.int .i64 2]) []) hT Qa hm Su rfl (of_decide_eq_true (by kernel_rfl)) rfl 60 TF (fun _=>?_) K []
 have e:bB (fun i=>aZ (rat (c.k i) 2000)) c.n=bB c.k c.n:=rfl
 simp only[aa.all,az,e]
 exact⟨⟨by omega,decide_eq_false (by omega),by omega,dc (by decide),iC (by decide),hc⟩,rfl,⟨by omega,by omega,dc (by decide),by omega,by omega,by omega⟩,decide_eq_true (by omega),by omega,by omega,H9,.refl _,trivial⟩
theorem Mo:∀K args pre r,Dt K args pre=some r→aB P vw K args pre r:=cZ fun⟨c,_⟩ K hn=>P5 hn.1 hn.2.1 hn.2.2 K
theorem Ag:bp P rT:=dN (aK QW (aK Ok (aK OI (aK Fs (aK EH (aK Mo (aK Iq br)))))))
abbrev hf:Rat:=((1:Int):Rat)/((2:Int):Rat)
def er (m i:Nat):Rat:=((((min (i-1) (m-1):Nat):Nat):Int):Rat)
abbrev pR (m:Nat):Nat→Rat:=fG (er m) hf 2
abbrev mH (m:Nat):Cu:=⟨1,m+2,er m,m,jz⟩
def ot (m j:Nat):Pl:=gD (nM ⟨1,m+2,er m,m,fun i=>gQ (jz i)⟩ (gT (m+2) (er m) (pR m (fu (pR m) (m+3) j))) 1 (fun q=>pR m (q+(j+1))))
abbrev BC (m:Nat):Cu:=⟨1,m+3,pR m,m+1,ot m⟩
instance {q:Rat} {n:Nat}:Decidable (Sz q n):=inferInstanceAs (Decidable (_∧_))
theorem vY {n:Nat} {k:Nat→Rat} (h:4≤n) (a:∀i,i<n-1→k i≤k (i+1)) (b:k 1=k 0) (c:k (n-2)=k (n-1)) (d:∀i,i<n-3→k (i+1)<k (i+2)):Kn n 1 k:=by
 refine⟨Nat.le_refl _,by omega,fun i hi=>a i (by omega),fun i hi=>?_,fun i h1 h2=>?_,fun i h1 h2=>?_⟩
 ·rcases(show i=0∨i=1 by omega)with rfl|rfl
  ·rfl
  ·exact b
 ·rcases(show i=n-2∨i=n-1 by omega)with rfl|rfl
  ·exact c
  ·rfl
 ·obtain⟨j,rfl⟩:∃j,i=j+1:=⟨i-1,by omega⟩
  exact d j (by omega)
structure yF (m:Nat):Prop where
 kn:Kn (m+2) 1 (er m)
 ds:40<(m:Int)+bB (er m) (m+2)-1
 e40:m=40→gl (mH m) hf=2
 e0:m≠40→gl (mH m) hf=0
 kg:m≠40→Kn (m+3) 1 (pR m)
 ks:m≠40→∀i,i<m+3→Sz (pR m i) 2048
 ps:m≠40→∀j,j<m+1→Sz (ot m j).n.x 2048∧Sz (ot m j).n.y 2048∧Sz (ot m j).n.z 2048∧Sz (ot m j).d 2048∧0<(ot m j).d
theorem KT:yF 38:=⟨vY (by decide) (by decide+kernel) (by decide+kernel) (by decide+kernel) (by decide+kernel),by decide+kernel,fun h=>absurd h (by decide),fun _=>by decide+kernel,fun _=>vY (by decide) (by decide+kernel) (by decide+kernel) (by decide+kernel) (by decide+kernel),fun _=>by decide+kernel,fun _=>by decide+kernel⟩
theorem Zl:yF 39:=⟨vY (by decide) (by decide+kernel) (by decide+kernel) (by decide+kernel) (by decide+kernel),by decide+kernel,fun h=>absurd h (by decide),fun _=>by decide+kernel,fun _=>vY (by decide) (by decide+kernel) (by decide+kernel) (by decide+kernel) (by decide+kernel),fun _=>by decide+kernel,fun _=>by decide+kernel⟩
theorem UI:yF 40:=⟨vY (by decide) (by decide+kernel) (by decide+kernel) (by decide+kernel) (by decide+kernel),by decide+kernel,fun _=>by decide+kernel,fun h=>absurd rfl h,fun h=>absurd rfl h,fun h=>absurd rfl h,fun h=>absurd rfl h⟩
theorem Da {k:Nat→Rat} {t:Rat} (h0:k 0≤t) (h1:k 1≤t) (h2:¬k 2≤t):∀n,eo k t (n+2)=2
 |0=>by simp[eo,h0,h1]
 |n+1=>by
  have:=Da h0 h1 h2 n
  rw[show n+1+2=(n+2)+1 from rfl,eo,this]
  by_cases hn:n=0
  ·subst hn;exact if_neg fun h=>h2 h.2
  ·exact if_neg fun h=>by have:=h.1;omega
theorem MN {m:Nat} (h:3≤m) (e:gl (mH m) hf=0):kX (mH m) hf=BC m:=by
 have hk:∀i,er m (i+1)=(((min i (m-1):Nat):Int):Rat):=fun i=>rfl
 have p2:eo (er m) hf (m+2)=2:=Da (by unfold er;rw[show min (0-1) (m-1)=0 by omega];decide+kernel) (by rw[hk,Nat.min_eq_left (by omega)];decide+kernel) (by rw[hk,Nat.min_eq_left (by omega)];decide+kernel) m
 have e1:kX (mH m) hf=yy (mH m) hf:=if_pos e
 rw[e1]
 show(⟨1,m+2+1,fG (er m) hf (eo (er m) hf (m+2)),m+2+1-1-1,fun i=>gD (nM ⟨1,m+2,er m,m,fun i=>gQ (jz i)⟩ (gT (m+2) (er m) (fG (er m) hf (eo (er m) hf (m+2)) (fu (fG (er m) hf (eo (er m) hf (m+2))) (m+2+1) i))) 1 (fun q=>fG (er m) hf (eo (er m) hf (m+2)) (q+(i+1))))⟩:Cu)=_
 rw[p2];rfl
theorem Kz {m:Nat} {cx:Ctx} (h:m=38∨m=39∨m=40):aj P cx nu.ntmps (part p9 [1]) ⟨aD [2,3,4] [.bool false,.ptr 0 0 3 0 [],.int .i64 m],oU (m+2) m (er m),3⟩ (cR cx (Fin T nu (.bool true))):=by
 obtain⟨g1,g2,g3,g4,g5,g6,g7⟩:yF m:=by
  rcases h with rfl|rfl|rfl
  ·exact KT
  ·exact Zl
  ·exact UI
 have hc:ek (mH m):=⟨g1,show(1:Int)≤1 by decide,show(1:Int)≤6 by decide,show m+2≤1+41 by omega,show(m:Int)=((m+2:Nat):Int)-1-1 by omega⟩
 refine aj.p6 ((aC.fin hT Ag hm 200 NH (by kernel_rfl) ?_).mono fun _ _ h=>.inl h)
 simp only[aa.all,az,beq_iff_eq,beq_eq_false_iff_ne,ne_eq,cond_true]
 refine⟨?_,?_,fun h40=>?_,fun h40=>?_⟩
 ·(repeat' with_reducible refine And.intro ?_ ?_)
  all_goals first|omega|exact dc (by decide)|exact iC (by decide)|exact hc|skip
 ·(repeat' with_reducible refine And.intro ?_ ?_)
  all_goals first|omega|exact dc (by decide)|exact iC (by decide)|exact hc|exact g2|skip
 ·have e:=g3 (by omega)
  (repeat' with_reducible refine And.intro ?_ ?_)
  all_goals first|omega|exact dc (by decide)|exact iC (by decide)|exact hc|exact e|trivial|exact fun _ _=>(by decide+kernel:(0:Rat)<1)|exact .refl _|skip
 ·have hne:m≠40:=by omega
  have e:=g4 hne
  have hD:kX (Cu.mk 1 (m+2) (fun i=>aZ (rat (er m (i+0)) 64)) m fun i=>ic (cz (jz (i+0)) 64)) hf=BC m:=MN (by omega) e
  rw[hD]
  have hd:ek (BC m):=⟨g5 hne,show(1:Int)≤1 by decide,show(1:Int)≤6 by decide,show m+3≤1+41 by omega,show((m+1:Nat):Int)=((m+3:Nat):Int)-1-1 by omega⟩
  (repeat' with_reducible refine And.intro ?_ ?_)
  all_goals first|omega|exact dc (by decide)|exact iC (by decide)|exact hc|exact hd|exact e|trivial|exact fun _ _=>(by decide+kernel:(0:Rat)<1)|exact .refl _|skip
  ·exact fun i hi=>fj rfl (g6 hne i hi)
  ·exact fun j hj=>by
    obtain⟨a,b,c,d,_⟩:=g7 hne j hj
    exact dJ ⟨dJ ⟨fj rfl a,fj rfl b,fj rfl c,trivial⟩,fj rfl d,trivial⟩
  ·exact fun j hj=>(g7 hne j hj).2.2.2.2
set_option maxHeartbeats 1000000 in
theorem Jb {n:Int} (K:Nat):aB P za K [.int .i64 n] [] (aG (.bool true) []):=by
 refine fZ (r:=aG (.bool true) []) hT Ga rfl (of_decide_eq_true (by kernel_rfl)) rfl (fun _ cx h0=>?_) K []
 have hk:=um h0
 have m1:=Int.emod_nonneg n (show(3:Int)≠0 by omega)
 have m2:=Int.emod_lt_of_pos n (show(0:Int)<3 by omega)
 obtain⟨m,hm2⟩:∃m:Nat,40-n%3=(m:Int):=⟨(40-n%3).toNat,by omega⟩
 have hb:∀{x:Nat},x<2^60→Max.max 1 (aY x)≤64:=fun hx=>by
  have:=gp.2 (Nat.lt_of_lt_of_le hx (show 2^60≤2^64 by decide))
  omega
 have hv:∀{rl:List (Nat×Nat)} {a b x y x' y':Nat},bf rl 1=some a→bf rl 2=some b→x=x'→y=y'→fP rl (.agg [.int .i64 1,.own a 3 0 x,.own b 12 0 y]) (.agg [.int .i64 1,.own 1 3 0 x',.own 2 12 0 y']):=fun h1 h2 e1 e2=>pD ⟨⟨rfl,aF rfl⟩,⟨rfl,ct h1 rfl e1⟩,⟨rfl,ct h2 rfl e2⟩,trivial⟩
 refine aj.rj hT Ag hm (x:=tX) [1,1,1,0,1] (i:=0) (y:=part tX [1,1,1,0,1,0,0]) (z:=p9) (by kernel_rfl) (by kernel_rfl) (by kernel_rfl) Ga.dst hk (f1:=[]) (f2:=[18]) 60 qu 3
  (fun i:Nat=>yd m i) (fun i=>oU (i+1) i rU) (fun i=>i≤m) (fun i=>i=m) (fun i=>m-i) (fun _=>False) ⟨_,Uv,?_⟩ (fun i hi=>⟨_,MQ,?_⟩) (fun i hi=>?_) (fun _ _ h=>h.elim)
 ·simp only[aa.all,az]
  refine⟨by omega,by omega,0,Nat.zero_le _,[(0,16384),(1,8192)],rfl,by show _=(yd m 0).map _;rw[hm2];rfl,rfl,bF rfl rfl rfl (fun i hi=>?_) (wK rfl (by omega) (by omega) (bk rfl rfl (pD ⟨⟨rfl,aF rfl⟩,⟨rfl,ct rfl rfl rfl⟩,⟨rfl,sy (by omega)⟩,trivial⟩) trivial))⟩
  have:i=0:=by omega
  subst this
  exact .inr ⟨rfl,nL (q:=rU 0) ⟨by decide+kernel,by decide+kernel⟩ rfl rfl rfl⟩
 ·simp only[aa.all,az,decide_eq_true_eq,decide_eq_false_iff_not]
  have hii:i<m→(i:Int)*(i:Int)≤1600:=fun h=>by
   have h1:(i:Int)≤40:=by omega
   have:=Int.mul_le_mul h1 h1 (by omega) (by omega)
   omega
  have hi0:(0:Int)≤(i:Int)*(i:Int):=Int.mul_nonneg (by omega) (by omega)
  refine⟨fun h1=>?_,fun h1=>⟨rfl,i,by omega,[(0,0),(1,1),(2,2)],rfl,rfl,rfl,bF rfl rfl rfl (fun _ _=>aP rfl rfl) (bF rfl rfl rfl (fun _ _=>aP rfl rfl) (bk rfl rfl (hv rfl rfl rfl rfl) trivial))⟩⟩
  have hii:=hii (by omega)
  exact⟨by omega,by omega,by omega,i+1,by omega,by dsimp only;omega,[(0,0),(1,32771),(2,86019)],rfl,rfl,rfl,bF rfl rfl rfl (fun q hq=>qW (y:=rU) (fun _ _=>rfl) rfl (Nat.le_refl _) (hb (by omega)) hq)
   (bF rfl rfl rfl (fun q hq=>JZ (y:=jz) (fun _ _=>rfl) (s':=64) (dJ ⟨dJ ⟨bP rfl (hb (by omega)),bP rfl (by decide),bP rfl (by decide),trivial⟩,bP rfl (by decide),trivial⟩) rfl (Nat.le_refl _) (Nat.le_refl _) hq) (bk rfl rfl (hv rfl rfl rfl rfl) trivial))⟩
 ·subst hi
  refine aj.hole [1] (by kernel_rfl) (aC.aV hT Ag hm 60 [2,3,4] IZ (nT (by kernel_rfl)) ?_)
  simp only[aa.all,az]
  refine⟨by omega,fun s' hs'=>?_⟩
  show aj _ _ _ (part p9 [1]) s' _
  rw[show behind p9 [1]=[]from by kernel_rfl]
  refine aj.jd (s2:=⟨aD [2,3,4] [.bool false,.ptr 0 0 3 0 [],.int .i64 i],oU (i+2) i (er i),3⟩) (eu.le ⟨[(0,0),(1,24579),(2,2)],rfl,rfl,rfl,bF rfl rfl rfl (fun q hq=>qW (x:=rU) (y:=er i) (fun r hr=>?_) ?_ (Nat.le_refl _) (hb (by omega)) hq) (bF rfl rfl rfl (fun _ _=>aP rfl rfl) (bk rfl rfl (hv rfl rfl rfl rfl) trivial))⟩ hs' hk) ((Kz (by omega)).mono fun e s' h=>by cases e<;>exact h)
  ·unfold rU er;rw[show min (r-1) (i-1)=r-1 by omega]
  ·unfold er;rw[show(i:Int)-1=((min (i+1-1) (i-1):Nat):Int) by omega]
end Go.Am.B
