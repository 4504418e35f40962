/- ref12: IsoV, IsoU, Eval at any parameters; program and reference say the same. -/
import Derived.Test.YtfjlccdmhpdiiaaGreatY10
import Derived.Test.YtfjlccdmhpdiiaaGreatM18
import Derived.Test.YtfjlccdmhpdiiaaGreatY11
import Derived.Test.YtfjlccdmhpdiiaaGreatY9
import Derived.Test.YtfjlccdmhpdiiaaGreatZ2
import Derived.TacticsIn
import Derived.Test.YtfjlccdmhpdiiaaGreatY8
set_option linter.unusedVariables false
noncomputable section
namespace Go.Am.B
open Go Go.Am.N AV ag aq IntKind Proofs.Tryz
def B2 (s:Sf) (v:Rat):Cu:=if bQ s.b s.kv v then qP else uV s v
theorem de.weak {s:Sf} (h:de s):Ai s:=⟨h.ku,h.kv,h.u0,h.u6,h.v0,h.v6,by have:=h.a;have:=h.u6;omega,by have:=h.b;have:=h.v6;omega,h.n,h.m⟩
theorem Ai.swap {s:Sf} (h:Ai s):Ai (fU s):=⟨h.kv,h.ku,h.v0,h.v6,h.u0,h.u6,h.b,h.a,h.m,h.n⟩
theorem PG {h:Pl} (hd:h.d≠0):bM (dJ h)=h:=by
 obtain⟨⟨x,y,z⟩,d⟩:=h
 have e:∀q:Rat,d*(q/d)=q:=fun q=>by rw[Rat.mul_comm];exact Rat.div_mul_cancel hd
 show Pl.mk ⟨d*(x/d),d*(y/d),d*(z/d)⟩ d=_
 rw[e,e,e]
theorem HU {h:Pl}:dJ h=⟨tL h,h.d⟩:=by
 rw[<-NS];rfl
theorem abf {s:Sf} {u:Rat}:nU s u=B2 (fU s) u:=by
 by_cases hout:bQ s.a s.ku u
 ·rw[show nU s u=qP from if_pos hout];exact(if_pos hout).symm
 ·rw[show nU s u=⟨s.v,s.b,s.kv,s.m,fun j=>dJ (fm (cK s j) u)⟩from if_neg hout,show B2 (fU s) u=uV (fU s) u from if_neg hout]
  show Cu.mk s.v s.b s.kv s.m (fun j=>dJ (fm (cK s j) u))=Cu.mk s.v s.b s.kv s.m (DT (fU s) u)
  congr 1
  funext j
  rw[HU]
  unfold DT fm
  rw[if_neg (show¬bQ (cK s j).n (cK s j).k u from hout)]
  rfl
theorem NW {s:Sf} {u:Rat} {j:Nat} (hs:de s) (hin:¬bQ s.a s.ku u) (hj:j<s.m):0<(fm (cK s j) u).d:=by
 have hiv:=hs.ku.qZ hin
 have hIs:=hs.ku.wh hin
 have h1:=hs.n
 have h2:=hs.u0
 unfold fm
 rw[if_neg (show¬bQ (cK s j).n (cK s j).k u from hin)]
 show 0<cj (s.u.toNat+1) fun i=>vB s.ku (bL s.a s.ku u) u s.u.toNat i*(s.f (bL s.a s.ku u-s.u.toNat+i) j).d
 exact LS (fun i _=>HR hIs.at_ hIs.lo hIs.hi hiv.1 aa i) (fun i hi=>hs.w _ j aa hj) (by rw[Qn];decide)
theorem Sj {s:Sf} {u v:Rat} (hs:de s) (hu:¬bQ s.a s.ku u):iL s u v=lf (B2 (fU s) u) v:=by
 have hG:B2 (fU s) u=uV (fU s) u:=if_neg hu
 unfold iL
 rw[if_neg hu]
 by_cases hv:bQ s.b s.kv v
 ·rw[if_pos hv,hG]
  unfold lf
  rw[if_pos (show bQ (uV (fU s) u).n (uV (fU s) u).k v from hv)]
 ·rw[if_neg hv,NS,<-abf]
  have hiv:=hs.kv.qZ hv
  have h1:=hs.m
  have h2:=hs.v0
  rw[show nU s u=⟨s.v,s.b,s.kv,s.m,fun j=>dJ (fm (cK s j) u)⟩from if_neg hu,Aa hu]
  unfold lf fm
  rw[if_neg (show¬bQ s.b s.kv v from hv),if_neg (show¬bQ s.b s.kv v from hv)]
  congr 1
  have key:∀(g:Pl->Rat) (x:Nat->Rat),cj (s.v.toNat+1) (fun j=>x j*g (fm (cK s (bL s.b s.kv v-s.v.toNat+j)) u))=cj (s.v.toNat+1) (fun j=>x j*g (bM (dJ (fm (cK s (bL s.b s.kv v-s.v.toNat+j)) u)))):=fun g x=>
   rB fun j hj=>by rw[PG (by have:=NW hs hu (j:=bL s.b s.kv v-s.v.toNat+j) aa;grind)]
  have ext:∀{a b c d a' b' c' d':Rat},a=a'->b=b'->c=c'->d=d'->Pl.mk ⟨a,b,c⟩ d=Pl.mk ⟨a',b',c'⟩ d':=by intros;subst_vars;rfl
  exact ext (key (fun h=>h.n.x) _) (key (fun h=>h.n.y) _) (key (fun h=>h.n.z) _) (key (fun h=>h.d) _)
theorem Zf:aW 73 f73:=aT func73
theorem aey:aW 78 f78:=aT func78
theorem ab9:aW 80 f80:=aT func80
def pI:aX:=nG::(73,AZ)::(80,AZ)::(78,OK)::[]
def Pd:Spec:=cA (kC (kL 2048) (kC A1 kN)) (fun _=>.int .i64 (-1)) fun a=>[a.1.1<2^40,a.2.1=73\/a.2.1=80]
def Df:Spec:=cA (kC (kL 2048) (kC A1 kN)) (fun _=>.bool false) fun a=>[a.1.1<2^40,a.2.1=73\/a.2.1=80]
def II:aX:=nG::(138,Pd)::[]
def Mm:Spec:=cA (kC (qq 2048) (kC A1 kN)) (fun _=>.int .i64 (-1)) fun a=>[a.1.1<2^40,∀i,i<a.1.1->0<(a.1.2 i).d,a.2.1=78]
def C2:Spec:=cA (kC (qq 2048) (kC A1 kN)) (fun _=>.bool false) fun a=>[a.1.1<2^40,∀i,i<a.1.1->0<(a.1.2 i).d,a.2.1=78]
def Ka:aX:=nG::(154,Mm)::[]
theorem Tx {q:Rat} {n:Nat}:bU T Bh [] 60 f73 (aF f73) ⟨aQ 0 [.rat q n],[],0⟩=
  some (aj [(0:Nat)<1,n<2^44] (leaf ret [AV.bool false])):=ah
theorem agB {q:Rat} {n:Nat}:bU T Bh [] 60 f80 (aF f80) ⟨aQ 0 [.rat q n],[],0⟩=
  some (aj [(0:Nat)<1,n<2^44] (leaf ret [AV.bool (decide ((↑(cW q):Int)>2048))])):=ah
theorem QZ {p:Pl}:bU T Bh [] 60 f78 (aF f78) ⟨aQ 0 [bJ p 2048],[],0⟩=
  some (aj [(0:Nat)<1,(2048:Nat)<2^42] (leaf ret [AV.bool (decide (fQ p.d<=0))])):=ah
theorem QK {n:Nat} {k:Nat->Rat} {g:FuncId}:aH T pI [] 60 lV (before qd [1,0,1]) ⟨aQ 0 [bD k n 2048,.func g []],[],0⟩=
  some (leaf normal ([int i64 0,ak 3 n fun i=>rat (k i) 2048,func g [],int i64 (↑n:Int),int i64 0],[])):=ah
theorem UI {n i:Nat} {k:Nat->Rat}:aH T pI [9] 60 lV [part qd [1,0,1,0,0]] ⟨aA lV (xu n i k 73),[],0⟩=
  let c4:Int:=(↑n:Int);let c2:AV:=ak 3 n fun i=>rat (k i) 2048;let c1:Int:=(↑i:Int);let c3:Int:=c1+1;some (fork (decide (c1<c4)) (aj [(0:Int)<=c1/\c1.toNat<n,(2048:Nat)<=2048] (aj [-(2:Int)^63<=c3/\c3<2^63] (leaf normal ([int i64 0,c2,func 73 [],int i64 c4,int i64 c3],[])))) (leaf (exit 0) ([int i64 0,c2,func 73 [],int i64 c4,int i64 c1],[]))):=ah
theorem RY {n i:Nat} {k:Nat->Rat}:aH T pI [9] 60 lV [part qd [1,0,1,0,0]] ⟨aA lV (xu n i k 80),[],0⟩=
  let c4:Int:=(↑n:Int);let c2:AV:=ak 3 n fun i=>rat (k i) 2048;let c1:Int:=(↑i:Int);let c3:Int:=c1+1;some (fork (decide (c1<c4)) (aj [(0:Int)<=c1/\c1.toNat<n,(2048:Nat)<=2048] (aj [-(2:Int)^63<=c3/\c3<2^63] (leaf normal ([int i64 0,c2,func 80 [],int i64 c4,int i64 c3],[])))) (leaf (exit 0) ([int i64 0,c2,func 80 [],int i64 c4,int i64 c1],[]))):=ah
theorem Oh {n i:Nat} {k:Nat->Rat} {g:FuncId}:cy T pI [] 60 f138 [part qd [1,1]] ⟨aA lV (xu n i k g),[],0⟩=
  some (leaf ret [int i64 (-1:Int)]):=ah
theorem aaT {n:Nat} {f:Nat->Pl}:aH T pI [] 60 lV (before wC [1,0,1]) ⟨aQ 0 [aZ f n 2048,.func 78 []],[],0⟩=
  some (leaf normal ([int i64 0,ak 12 n fun i=>bJ (f i) 2048,func 78 [],int i64 (↑n:Int),int i64 0],[])):=ah
theorem YF {n i:Nat} {f:Nat->Pl}:aH T pI [9] 60 lV [part wC [1,0,1,0,0]] ⟨aA lV (EG n i f 78),[],0⟩=
  let c5:Int:=(↑n:Int);let c3:Prop:=2048<=2048;let c2:Int:=(↑i:Int);let c1:AV:=ak 12 n fun i=>bJ (f i) 2048;let c4:Int:=c2+1;some (fork (decide (c2<c5)) (aj [(0:Int)<=c2/\c2.toNat<n,c3,c3,Max.max 2048 2048<=2048,(0:Rat)<(f c2.toNat).d] (aj [-(2:Int)^63<=c4/\c4<2^63] (leaf normal ([int i64 0,c1,func 78 [],int i64 c5,int i64 c4],[])))) (leaf (exit 0) ([int i64 0,c1,func 78 [],int i64 c5,int i64 c2],[]))):=ah
theorem W4 {n i:Nat} {f:Nat->Pl}:cy T pI [] 60 f154 [part wC [1,1]] ⟨aA lV (EG n i f 78),[],0⟩=
  some (leaf ret [int i64 (-1:Int)]):=ah
theorem aaw {n:Nat} {k:Nat->Rat} {g:FuncId}:bU T II [] 60 f72 (aF f72) ⟨aQ 0 [bD k n 2048,.func g []],[],0⟩=
  some (aj [bn (fun i=>rat (k i) 2048) n 2048,n<2^40,g=73\/g=80] (leaf ret [AV.bool false])):=ah
theorem T3 {n:Nat} {f:Nat->Pl}:bU T Ka [] 60 f77 (aF f77) ⟨aQ 0 [aZ f n 2048,.func 78 []],[],0⟩=
  some (aj [lW (fun i=>bJ (f i) 2048) n 2048,n<2^40,∀(i:Nat),i<n->0<aE (rat (f i).d 2048),78=78] (leaf ret [AV.bool false])):=ah
theorem Xx:aU P AZ 73:=by
 refine cF fun K args r hk hs _=>?_
 split at hs
 ·rename_i q n
  simp only[ay]at hs
  subst hs
  intro need
  have hn:n<=2048:=need
  refine bX (r:=aJ (.bool false) [n<=2048]) hT Ec hm Zf rfl aV rfl 60 Tx (fun _=>?_) K [] need
  simp only[ag.all,az]
  (repeat' with_reducible refine And.intro ?_ ?_)
  all_goals first|omega|exact .refl _|skip
 ·simp at hs
theorem aam:aU P AZ 80:=by
 refine cF fun K args r hk hs _=>?_
 split at hs
 ·rename_i q n
  simp only[ay]at hs
  subst hs
  intro need
  have hn:n<=2048:=need
  refine(kD (P:=P) (f:=80) (K:=K) (args:=[.rat q n]) (pre:=[]) (v:=.bool false) (l:=[n<=2048]) fun⟨hs1,_⟩=>?_) need
  have h1:=RC.1 hs1
  refine bX (r:=aJ (.bool false) [n<=2048]) hT Ec hm ab9 rfl aV rfl 60 agB (fun _=>?_) K []
  simp only[ag.all,az]
  (repeat' with_reducible refine And.intro ?_ ?_)
  all_goals first|omega|skip
  exact fF (decide_eq_false aa)
 ·simp at hs
theorem ajw:aU P OK 78:=ct fun⟨p,_⟩ K hn=>by
 have hd:0<p.d:=hn
 refine bX (r:=aJ (.bool false) []) hT Ec hm aey rfl aV rfl 60 QZ (fun _=>?_) K []
 have hs:fQ p.d=1:=by
  unfold fQ
  rw[if_neg (by grind),if_pos hd]
 simp only[ag.all,az,hs]
 (repeat' with_reducible refine And.intro ?_ ?_)
 all_goals first|omega|decide|exact .refl _|skip
theorem Gd:bq P pI:=cz (aI Xx (aI aam (aI ajw bB)))
theorem S9 {n:Nat} {k:Nat->Rat} {g:FuncId} (hn:n<2^40) (hg:g=73\/g=80) (K:Nat):aS P 138 K [bD k n 2048,.func g []] [] (aJ (.int .i64 (-1)) []):=by
 rcases hg with rfl|rfl
 ·refine iB (r:=aJ (.int .i64 (-1)) []) hT Gd hm N4 rfl aV rfl [1,0,1] (i:=0) (y:=part qd [1,0,1,0,0]) (z:=part qd [1,1]) ah ah ah (f1:=[]) (f2:=[9]) (f3:=[]) 60 lV 0
   (fun i:Nat=>xu n i k 73) (fun _=>[]) (fun i=>i<=n) (fun i=>i=n) (fun i=>n-i) (fun _=>⟨⟨_,QK,?_⟩,fun i hi=>⟨_,UI,?_⟩,fun i hi=>⟨_,Oh,?_⟩⟩) K []
  ·simp only[ag.all,az]
   exact⟨0,Nat.zero_le _,[],rfl,rfl,rfl,trivial⟩
  ·simp only[ag.all,az,bk,bt,bf]
   exact⟨fun h=>⟨⟨aa,aa⟩,aa,i+1,aa,by dsimp only;omega,[],rfl,rfl,rfl,trivial⟩,fun h=>⟨rfl,i,aa,[],rfl,rfl,rfl,trivial⟩⟩
  ·simp only[ag.all,az]
   exact .refl _
 ·refine iB (r:=aJ (.int .i64 (-1)) []) hT Gd hm N4 rfl aV rfl [1,0,1] (i:=0) (y:=part qd [1,0,1,0,0]) (z:=part qd [1,1]) ah ah ah (f1:=[]) (f2:=[9]) (f3:=[]) 60 lV 0
   (fun i:Nat=>xu n i k 80) (fun _=>[]) (fun i=>i<=n) (fun i=>i=n) (fun i=>n-i) (fun _=>⟨⟨_,QK,?_⟩,fun i hi=>⟨_,RY,?_⟩,fun i hi=>⟨_,Oh,?_⟩⟩) K []
  ·simp only[ag.all,az]
   exact⟨0,Nat.zero_le _,[],rfl,rfl,rfl,trivial⟩
  ·simp only[ag.all,az,bk,bt,bf]
   exact⟨fun h=>⟨⟨aa,aa⟩,aa,i+1,aa,by dsimp only;omega,[],rfl,rfl,rfl,trivial⟩,fun h=>⟨rfl,i,aa,[],rfl,rfl,rfl,trivial⟩⟩
  ·simp only[ag.all,az]
   exact .refl _
theorem Vm:aU P Pd 138:=ct fun⟨⟨n,k⟩,g,_⟩ K hn=>S9 hn.1 hn.2 K
theorem Sl:bq P II:=cz (aI Vm bB)
theorem Jk:aU P Df 72:=ct fun⟨⟨n,k⟩,g,_⟩ K hn=>by
 refine bX (r:=aJ (.bool false) []) hT Sl hm adb rfl aV rfl 60 aaw (fun _=>?_) K []
 simp only[ag.all,az]
 exact⟨⟨bI bz,hn.1,hn.2⟩,.refl _⟩
theorem aeJ {n:Nat} {f:Nat->Pl} (hn:n<2^40) (hf:∀i,i<n->0<(f i).d) (K:Nat):aS P 154 K [aZ f n 2048,.func 78 []] [] (aJ (.int .i64 (-1)) []):=by
 refine iB (r:=aJ (.int .i64 (-1)) []) hT Gd hm ajp rfl aV rfl [1,0,1] (i:=0) (y:=part wC [1,0,1,0,0]) (z:=part wC [1,1]) ah ah ah (f1:=[]) (f2:=[9]) (f3:=[]) 60 lV 0
  (fun i:Nat=>EG n i f 78) (fun _=>[]) (fun i=>i<=n) (fun i=>i=n) (fun i=>n-i) (fun _=>⟨⟨_,aaT,?_⟩,fun i hi=>⟨_,YF,?_⟩,fun i hi=>⟨_,W4,?_⟩⟩) K []
 ·simp only[ag.all,az]
  exact⟨0,Nat.zero_le _,[],rfl,rfl,rfl,trivial⟩
 ·simp only[ag.all,az,bk,bt,bf]
  exact⟨fun h=>⟨⟨aa,aa,aa,by decide,hf i aa⟩,aa,i+1,aa,by dsimp only;omega,[],rfl,rfl,rfl,trivial⟩,fun h=>⟨rfl,i,aa,[],rfl,rfl,rfl,trivial⟩⟩
 ·simp only[ag.all,az]
  exact .refl _
theorem S4:aU P Mm 154:=ct fun⟨⟨n,f⟩,g,_⟩ K hn=>by
 have hg:g=78:=hn.2.2
 subst hg
 exact aeJ hn.1 hn.2.1 K
theorem afp:bq P Ka:=cz (aI S4 bB)
theorem Nn:aU P C2 77:=ct fun⟨⟨n,f⟩,g,_⟩ K hn=>by
 have hg:g=78:=hn.2.2
 subst hg
 refine bX (r:=aJ (.bool false) []) hT afp hm Rc rfl aV rfl 60 T3 (fun _=>?_) K []
 simp only[ag.all,az]
 exact⟨⟨ql bz,hn.1,hn.2.1,by trivial⟩,.refl _⟩
theorem TE:aW 198 f198:=aT func198
theorem aah:aW 147 f147:=aT func147
theorem ajH:aW 7 f7:=aT func7
abbrev LD:FuncId:=198
abbrev SD:Func:=f198
abbrev LY:FuncId:=147
abbrev Vd:Func:=f147
def M5:Spec:=rY fun K l=>match l with
 |[.nil,.int .i64 n]=>some ⟨mA [.own K 3 0 0],[(K,⟨true,true,3,n.toNat,fun _=>.rat 0 1⟩)],[0<n/\n<2^30]⟩
 |_=>none
abbrev D5 (na nb:Nat) (f g:Nat->Rat):AV:=.ak 1 2 fun i=>nth [bD f na 2048,bD g nb 2048] .nil i
def vl (na:Nat) (f g:Nat->Rat) (i:Nat):Rat:=if i<na then f i else g (i-na)
def Ia:Spec:=rY fun K l=>match l with
 |[.ak 1 2 h]=>match h 0,h 1 with
  |.ak 3 na f,.ak 3 nb g=>some ⟨mA [.own K 3 0 (na+nb)],[(K,⟨true,true,3,na+nb,fun i=>.rat (vl na (fun i=>aE (f i)) (fun i=>aE (g i)) i) 2048⟩)],[bn f na 2048,bn g nb 2048,0<na+nb,na+nb<2^30]⟩
  |_,_=>none
 |_=>none
def qQ:aX:=nG::(LY,Ia)::[]
def Pc:aX:=nG::(71,iZ T qQ [] 400 f71)::(72,Df)::(77,C2)::(75,Cg)::(76,CT)::[]
def Ou:Spec:=bY fun l=>match l with
 |[.rat q _]=>match decide (q=1/4),decide (q=1)with
  |true,_=>some (aJ (.str [49,47,52]) [])
  |false,true=>some (aJ (.str [49]) [])
  |_,_=>none
 |_=>none
def Kj:aX:=sG::(37,Fp)::(38,HQ)::(17,iZ T Pc [200018,200026] 400 f17)::(46,iZ T (sG::rR) [] 200 f46)::(45,tA)::(47,Ou)::rR
theorem ahM {n:Int}:aH T [nG] [200006,100016] 60 [4] [aF SD] ⟨aQ 0 [.nil,.int .i64 n],[],0⟩=
  let c4:Prop:=(0:Int)<=0;let c3:Int:=(2:Int)^63;let c2:Int:=(↑(0:Nat):Int);let c1:Int:=(0:Int)-c2;let c5:Nat:=(n-c1).toNat;some (aj [decide (n<0)=false] (aj [-c3<=c1/\c1<c3,-c3<=n-c1/\n-c1<c3] (aj [decide (n-c1>0)=true] (aj [c4/\c4/\c4/\(0:Int)<=c2,(0:Int)<n-c1/\c5*((56:Nat)+1)*2<=2^47,c4/\(0:Int)<=c2/\c2<=c2/\c2<=(↑c5:Int)] (leaf ret ([own 73728 3 0 0],[(73728,au.mk true true 3 c5 fun x=>rat 0 1)])))))):=ah
theorem agx {na nb:Nat} {f g:Nat->Rat}:aH T [nG,(LD,M5)] [200020] 60 [2] [aF Vd] ⟨aQ 0 [D5 na nb f g],[],0⟩=
  let c6:Prop:=(0:Int)<=0/\Int.toNat (0:Int)<2;let c4:Nat:=0+na;let c3:Int:=(0:Int)+(↑na:Int);let c2:Int:=(0:Int)+1;let c1:Int:=(2:Int)^63;let c8:Prop:=(0:Int)<=c2/\c2.toNat<2;let c7:Prop:=-c1<=c2+1/\c2+1<c1;let c5:Int:=c3+(↑nb:Int);some (aj [c6] (aj [-c1<=c3/\c3<c1] (aj [decide (c3<0)=false] (aj [-c1<=c2/\c2<c1] (aj [c8] (aj [-c1<=c5/\c5<c1] (aj [decide (c5<0)=false] (aj [c7] (aj [(0:Int)<c5/\c5<2^30] (aj [c6] (aj [c4*((56:Nat)+1)*2<=2^47] (aj [-c1<=c2/\c2<c1] (aj [c8] (aj [(c4+nb)*((56:Nat)+1)*2<=2^47] (aj [c7] (leaf ret ([own 221184 3 0 (c4+nb)],[(221184,au.mk true true 3 (c4+nb) fun i=>if i<c4 then if i<0 then rat 0 1 else rat (f (i-0)) 2048 else rat (g (i-c4)) 2048)]))))))))))))))))):=ah
theorem ae5:bU T Cv [] 60 f47 (aF f47) ⟨aQ 0 [.agg [.bool false,.mag 1,.mag 0]],[],0⟩=
  some (leaf ret [str [(49:UInt8)]]):=ah
theorem aef:bU T Kj [100023,100027,100033,100037,100043] 400 f7 (aF f7) ⟨aQ 0 [],[],0⟩=
  let c39:Prop:=78=78;let c38:List UInt8:=[(49:UInt8),(47:UInt8),(52:UInt8)];let c37:Rat:=(↑(1:Int):Rat)/(↑(2:Int):Rat);let c30:Nat:=2^47;let c29:Nat:=56+1;let c23:Nat:=2^40;let c18:Prop:=4*3<=2^24;let c16:Prop:=(0:Int)<=0/\Int.toNat (0:Int)<2;let c14:Nat:=4+4;let c13:Int:=(↑(3:Nat):Int);let c11:Int:=(2:Int)^63;let c10:Int:=(0:Int)+1;let c8:Prop:=0<1;let c7:AV:=agg [AV.bool (decide ((0:Rat)<0)),mag (↑(nat_lit 0):Int).natAbs,mag (if 1=1 then 0 else 1)];let c5:AV:=rat 0 1;let c3:AV:=rat (↑(1:Int):Rat) (Max.max 1 (bN (Int.natAbs (1:Int))));let c34:Nat:=c14+4;let c33:List AV:=[agg [agg [c5,c5,c5],c3],agg [agg [c7,c3,c5],c3]];let c32:List AV:=[agg [agg [c3,c5,c5],c3],agg [agg [c3,c3,c3],c3]];let c31:Prop:=-c11<=c10/\c10<c11;let c26:AV:=agg [agg [c5,c5,c5],c5];let c22:Prop:=(0:Int)<=1/\(1:Int)<c13;let c21:Prop:=(0:Int)<=c10/\c10.toNat<2;let c20:Prop:=(0:Int)<=0/\(0:Int)<c13;let c19:Prop:=(0:Int)<=2/\(2:Int)<c13;let c17:Prop:=-c11<=c10+1/\c10+1<c11;let c2:List AV:=[c7,c7,c3,c3];let c28:Prop:=bn (fun i=>nth c2 c5 (i+0)) 4 2048;let c24:Prop:=(gC 4 (fun i=>aE (nth c2 c5 (i+0))) (1:Int)!=0)=false;let c15:Prop:=bn (fun i=>nth c2 c5 (i+0)) 4 sJ;let c12:Prop:=bn (fun i=>nth c2 c5 (i+0)) 4 2000;let c9:Nat:=c34+4;let c1:List AV:=[ak 12 2 fun i=>nth c33 c26 (i+0),ak 12 2 fun i=>nth c32 c26 (i+0)];let c35:Nat:=dn (nth c1 nil ((0:Nat)+0));let c27:Prop:=dG (fun i=>nth c1 nil (i+0)) 2 2000;let c25:Nat:=c9+4;let c36:Nat:=c25+4;let c6:Sf:=Sf.mk (1:Int) (1:Int) 4 (fun i=>aE (nth c2 c5 (i+0))) 4 (fun i=>aE (nth c2 c5 (i+0))) 2 c35 (fq fun i=>nth c1 nil (i+0));let c4:Prop:=bn (fun i=>if i+0<c25 then if i+0<c9 then if i+0<c34 then if i+0<c14 then rat (vl 4 (fun i=>aE (nth c2 c5 (i+0))) (fun i=>aE (nth c2 c5 (i+0))) (i+0)) 2048 else nth [c5,c5,c5,c3] c5 (i+0-c14+0)else nth [c7,c3,c5,c3] c5 (i+0-c34+0)else nth [c3,c5,c5,c3] c5 (i+0-c9+0)else nth [c3,c3,c3,c3] c5 (i+0-c25+0)) c36 2048;some (aj [-c11<=1,(1:Int)<c11,-c11<=2,(2:Int)<c11] (aj [c8,c12,c12,c27,(64:Nat)<=sK,(64:Nat)<=sK,de c6] (aj [c8,c12,c12,c27,(1:Nat)<=sK,de c6] (aj [c8,c8,c8,c8,(2:Nat)*1<=2^24,c28,c28,(0:Nat)<c14,c14<2^30,c8,c16,c16,c8,c20,c8,c22,c8,c19,c8,c8,c18,c34*c29*2<=c30,c31,c21,c8,c20,c8,c22,c8,c19,c8,c8,c18,c9*c29*2<=c30,c17,c31,c21,c16,c8,c20,c8,c22,c8,c19,c8,c8,c18,c25*c29*2<=c30,c31,c21,c8,c20,c8,c22,c8,c19,c8,c8,c18,c36*c29*2<=c30,c17,c17,c4,c36<c23,73=73\/73=80,c8,c8,c15,(4:Nat)<c23,c24,c8,c8,c15,(4:Nat)<c23,c24,c8,c15,c15,dG (fun i=>nth c1 nil (i+0)) 2 sJ,de c6,c8,c16,lW (fun i=>nth c33 c26 (i+0)) 2 2048,(2:Nat)<c23,∀(i:Nat),i<2->0<(oy (nth c33 c26 (i+0))).d,c39,c31,c21,lW (fun i=>nth c32 c26 (i+0)) 2 2048,(2:Nat)<c23,∀(i:Nat),i<2->0<(oy (nth c32 c26 (i+0))).d,c39,c17,c4,c36<c23,80=73\/80=80,((0:Int)==0)=true,(bif true then oC c6 c37 c37==0 else false)=true,(bif true then c38==c38 else false)=true,(bif true then cS 4 (fun i=>aE (nth c2 c5 (i+0))) 0==(0:Int)else false)=true,(bif true then(↑c35:Int)==2 else false)=true] (leaf ret [AV.bool true]))))):=ah
theorem afN:aU P M5 LD:=by
 refine wS fun K args r hk hs=>?_
 split at hs
 ·rename_i n
  simp only[ay]at hs
  subst hs
  refine FC hT TE (fun _=>yX hk rfl (show fR [.nil,.int .i64 n] [.nil,.int .i64 n]from⟨.refl _,.refl _,trivial⟩)) aV fun need c hkp=>?_
  have need:0<n/\n<2^30:=need
  obtain⟨h1,h2⟩:=need
  refine ax.bE hT (cz bB) hm 60 [4] ahM ah ?_
  have e:n-(0-((0:Nat):Int))=n:=aa
  simp only[ag.all,az,e]
  exact⟨decide_eq_false aa,⟨aa,aa⟩,decide_eq_true aa,⟨aa,aa,aa⟩,fun s' hs'=>⟨by simp,[4],_,[.own 73728 3 0 0],_,73728,_,hs',ah,⟨⟨rfl,cP (by simp[bC,look]) rfl rfl⟩,trivial⟩,rfl,jR rfl fun i hi=>gy rfl⟩⟩
 ·simp at hs
theorem abn:aU P Ia LY:=by
 refine wS fun K args r hk hs=>?_
 split at hs
 ·rename_i h
  split at hs
  ·rename_i na f nb g h0 h1
   simp only[ay]at hs
   subst hs
   refine FC hT aah (args0:=[D5 na nb (fun i=>aE (f i)) (fun i=>aE (g i))]) (fun need=>yX hk rfl (show fR [.ak 1 2 h] [D5 na nb (fun i=>aE (f i)) (fun i=>aE (g i))]from⟨fB fun i hi=>?_,trivial⟩)) aV fun need c hkp=>?_
   ·obtain⟨n1,n2,n3,n4⟩:=need
    match i,hi with
    |0,_=>rw[h0];exact yK n1
    |1,_=>rw[h1];exact yK n2
   ·obtain⟨n1,n2,n3,n4⟩:bn f na 2048/\bn g nb 2048/\0<na+nb/\na+nb<2^30:=need
    refine ax.bE hT (cz (aI afN bB)) hm 60 [2] agx ah ?_
    simp only[ag.all,az]
    (repeat' with_reducible refine And.intro ?_ ?_)
    all_goals first|omega|exact decide_eq_false aa|skip
    intro s' hs'
    refine⟨by simp,[2],_,[.own 221184 3 0 (0+na+nb)],_,221184,_,hs',ah,⟨⟨rfl,cP (by simp[bC,look]) rfl aa⟩,trivial⟩,rfl,jR aa fun i hi=>?_⟩
    have e:(if i<0+na then if i<0 then AV.rat 0 1 else .rat (aE (f (i-0))) 2048 else .rat (aE (g (i-(0+na)))) 2048)=AV.rat (vl na (fun i=>aE (f i)) (fun i=>aE (g i)) i) 2048:=by
     unfold vl
     rw[Nat.zero_add,Nat.sub_zero,if_neg (Nat.not_lt_zero i)]
     split<;>rfl
    show gz _ (if i<0+na then if i<0 then AV.rat 0 1 else .rat (aE (f (i-0))) 2048 else .rat (aE (g (i-(0+na)))) 2048) _
    rw[e];exact gy rfl
  ·simp at hs
 ·simp at hs
theorem TO:aU P Ou 47:=by
 refine cF fun K args r hk hs _=>?_
 have fin:∀{q:Rat} {n a b:Nat} {t:ag (List AV)} {l:List UInt8},kids (.rat q n)=[.bool false,.mag a,.mag b]->bU T Cv [] 60 f47 (aF f47) ⟨aQ 0 [.agg [.bool false,.mag a,.mag b]],[],0⟩=some t->(t.all fun _ us=>fK us (.str l))->aS P 47 K [.rat q n] [] (aJ (.str l) []):=fun h0 h1 h2=>
  iD (bX (r:=aJ _ []) hT aeV hm aac rfl aV rfl 60 h1 (fun _=>h2) K []) rfl (show fR [_] [_]from⟨by rw[<-h0];exact IQ,trivial⟩) []
 split at hs
 ·rename_i q n
  split at hs
  all_goals simp only[ay,reduceCtorEq]at hs
  all_goals subst hs
  ·obtain rfl:q=1/4:=of_decide_eq_true ‹_›
   exact fin ah Xy (.refl _)
  ·obtain rfl:q=1:=of_decide_eq_true ‹decide (q=1)=true›
   exact fin ah ae5 (.refl _)
 ·simp at hs
theorem CU:bq P qQ:=cz (aI abn bB)
theorem aeN:bq P Pc:=cz (aI (jn hT CU hm (aT func71) _ _) (aI Jk (aI Nn (aI Hr (aI DF bB)))))
theorem ab4:bq P Kj:=kW (aI MJ (aI abe (aI (jn hT aeN hm (aT func17) _ _) (aI (jn hT (kW uE) hm (aT func46) _ _) (aI vH (aI TO uE))))))
theorem DL {f:Nat->Rat} (h:∀i,i<4->f i=nu 1 0 (fun _=>((0:Int):Rat)) ((0:Int):Rat) i):Kn 4 1 f:=
 ((KG.start (p:=1) aa (z:=0) aa aa).done:Kn (2*1+2+0) 1 _).congr fun i hi=>(h i hi).symm
set_option maxHeartbeats 1000000 in
theorem We (K:Nat):aS P 7 K [] [] (aJ (.bool true) []):=by
 refine bX (r:=aJ (.bool true) []) hT ab4 hm ajH rfl aV rfl 400 aef (fun _=>?_) K []
 simp only[ag.all,az]
 (repeat' with_reducible first|refine And.intro ?_ ?_)
 all_goals first|omega|decide|exact .inl trivial|exact .inr trivial|trivial|exact .refl _|skip
 all_goals first|decide+kernel|skip
 all_goals first
  |exact bne_eq_false_iff_eq.2 ((DL fun i hi=>by
    match i,hi with
    |0,_|1,_|2,_|3,_=>decide+kernel).zK (by decide) (by decide))
  |refine⟨DL fun i hi=>?_,DL fun i hi=>?_,by decide,by decide,by decide,by decide,by decide,by decide,by decide,by decide,fun i j hi hj=>?_⟩
  |intro i hi
 all_goals first
  |match i,hi with
   |0,_|1,_|2,_|3,_=>decide+kernel
  |match i,hi,j,hj with
   |0,_,0,_|0,_,1,_|1,_,0,_|1,_,1,_=>decide+kernel
  |skip
 all_goals first
  |match i,hi with
   |0,_|1,_=>exact mM
   |2,_|3,_=>exact ey (by decide)
  |match i,hi with
   |0,_|1,_=>first|exact cL ⟨cL ⟨ey (by decide),ey (by decide),ey (by decide),trivial⟩,ey (by decide),trivial⟩|exact cL ⟨cL ⟨mM,ey (by decide),ey (by decide),trivial⟩,ey (by decide),trivial⟩
  |match i,hi with
   |0,_|1,_=>
    refine fB fun j hj=>?_
    match j,hj with
    |0,_|1,_=>first|exact cL ⟨cL ⟨ey (by decide),ey (by decide),ey (by decide),trivial⟩,ey (by decide),trivial⟩|exact cL ⟨cL ⟨mM,ey (by decide),ey (by decide),trivial⟩,ey (by decide),trivial⟩
  |(replace hi:i<24:=hi
    rcases(by omega:i=0\/i=1\/i=2\/i=3\/i=4\/i=5\/i=6\/i=7\/i=8\/i=9\/i=10\/i=11\/i=12\/i=13\/i=14\/i=15\/i=16\/i=17\/i=18\/i=19\/i=20\/i=21\/i=22\/i=23)with rfl|rfl|rfl|rfl|rfl|rfl|rfl|rfl|rfl|rfl|rfl|rfl|rfl|rfl|rfl|rfl|rfl|rfl|rfl|rfl|rfl|rfl|rfl|rfl<;>first|exact bh.refl _|exact mM|exact ey (by decide))
  |skip
def J8:Spec:=bY fun l=>match l with
 |[]=>some (aJ (.bool true) [])
 |_=>none
theorem Uk:aU P J8 7:=by
 refine cF fun K args r hk hs _=>?_
 split at hs
 ·simp only[ay]at hs
  subst hs
  exact fun need=>We K need
 ·simp at hs
theorem J5:aW 71 f71:=aT func71
theorem aeQ:aW 17 f17:=aT func17
def jH (s:Sf) (j:Nat):Rat:=if j<s.a+s.b then vl s.a s.ku s.kv j else ck (s.f ((j-(s.a+s.b))/4/s.m) ((j-(s.a+s.b))/4%s.m)) ((j-(s.a+s.b))%4)
abbrev xU:Code:=aF f71
abbrev zQ:Code:=part xU [1,1,0,1,0,0]
abbrev wK:Code:=part zQ [1,1,0,0]
abbrev rQ:List Nat:=[2,3,15,16,17]
abbrev wP (s:Sf) (l i:Nat):List AV:=[.nil,.own 0 3 0 l,fN s.f s.n s.m 2048,.int .i64 s.n,.int .i64 i]
abbrev yq:List Nat:=[2,3,15,16,17,21,22,23]
abbrev GB (s:Sf) (l i j:Nat):List AV:=[.nil,.own 0 3 0 l,fN s.f s.n s.m 2048,.int .i64 s.n,.int .i64 i,aZ (s.f i) s.m 2048,.int .i64 s.m,.int .i64 j]
abbrev pY (F:Nat->Rat) (l:Nat):aC:=[(0,⟨true,true,3,l,fun j=>.rat (F j) 2048⟩)]
theorem TC {s:Sf}:aH T qQ [] 60 rQ (before xU [1,1,0,1]) ⟨aQ 0 [bu s 2048 2048],[],0⟩=
  let c1:Prop:=0<1;some (aj [c1,c1,(2:Nat)*1<=2^24,bn (fun i=>rat (s.ku i) 2048) s.a 2048,bn (fun i=>rat (s.kv i) 2048) s.b 2048,(0:Nat)<s.a+s.b,s.a+s.b<2^30] (aj [c1] (leaf normal ([nil,own 28672 3 0 (s.a+s.b),ak 1 s.n fun i=>ak 12 s.m fun i_1=>agg [agg [rat (s.f i i_1).n.x 2048,rat (s.f i i_1).n.y 2048,rat (s.f i i_1).n.z 2048],rat (s.f i i_1).d 2048],int i64 (↑s.n:Int),int i64 0],[(28672,au.mk true true 3 (s.a+s.b) fun i=>rat (vl s.a (fun i=>aE (rat (s.ku i) 2048)) (fun i=>aE (rat (s.kv i) 2048)) i) 2048)])))):=ah
theorem afb {s:Sf} {l i:Nat} {F:Nat->Rat}:aH T qQ [18] 60 rQ (before zQ [1,1,0]) ⟨aA rQ (wP s l i),pY F l,1⟩=
  let c1:List AV×aC:=([nil,own 0 3 0 l,ak 1 s.n fun i=>ak 12 s.m fun i_1=>agg [agg [rat (s.f i i_1).n.x 2048,rat (s.f i i_1).n.y 2048,rat (s.f i i_1).n.z 2048],rat (s.f i i_1).d 2048],int i64 (↑s.n:Int),int i64 (↑i:Int)],[(0,au.mk true true 3 l fun j=>rat (F j) 2048)]);some (fork (decide ((↑i:Int)<(↑s.n:Int))) (leaf normal c1) (leaf (exit 0) c1)):=ah
theorem aaK {s:Sf} {l i:Nat} {F:Nat->Rat}:aH T qQ [] 60 yq (before wK [1,1]) ⟨aA rQ (wP s l i),pY F l,1⟩=
  let c1:Nat:=(↑i:Int).toNat;some (aj [(0:Int)<=(↑i:Int)/\c1<s.n] (leaf normal ([nil,own 0 3 0 l,ak 1 s.n fun i=>ak 12 s.m fun i_1=>agg [agg [rat (s.f i i_1).n.x 2048,rat (s.f i i_1).n.y 2048,rat (s.f i i_1).n.z 2048],rat (s.f i i_1).d 2048],int i64 (↑s.n:Int),int i64 (↑i:Int),ak 12 s.m fun i=>agg [agg [rat (s.f c1 i).n.x 2048,rat (s.f c1 i).n.y 2048,rat (s.f c1 i).n.z 2048],rat (s.f c1 i).d 2048],int i64 (↑s.m:Int),int i64 0],[(0,au.mk true true 3 l fun j=>rat (F j) 2048)]))):=ah
theorem Yi {s:Sf} {l i j:Nat} {F:Nat->Rat}:aH T qQ [24] 60 yq [part wK [1,1,0,0]] ⟨aA yq (GB s l i j),pY F l,1⟩=
  let c7:Int:=(↑s.m:Int);let c6:Int:=(↑(3:Nat):Int);let c4:Prop:=0<1;let c3:Int:=(↑j:Int);let c2:AV:=ak 12 s.m fun i_1=>agg [agg [rat (s.f i i_1).n.x 2048,rat (s.f i i_1).n.y 2048,rat (s.f i i_1).n.z 2048],rat (s.f i i_1).d 2048];let c1:AV:=ak 1 s.n fun i=>ak 12 s.m fun i_1=>agg [agg [rat (s.f i i_1).n.x 2048,rat (s.f i i_1).n.y 2048,rat (s.f i i_1).n.z 2048],rat (s.f i i_1).d 2048];let c8:Int:=c3+1;let c5:Pl:=s.f i c3.toNat;some (fork (decide (c3<c7)) (aj [(0:Int)<=c3/\c3.toNat<s.m,c4] (aj [(0:Int)<=0/\(0:Int)<c6,c4,(0:Int)<=1/\(1:Int)<c6,c4,(0:Int)<=2/\(2:Int)<c6,c4,c4,(4:Nat)*3<=2^24,(l+4)*((56:Nat)+1)*2<=2^47] (aj [-(2:Int)^63<=c8/\c8<2^63] (leaf normal ([nil,own 73729 3 0 (l+4),c1,int i64 (↑s.n:Int),int i64 (↑i:Int),c2,int i64 c7,int i64 c8],[(73729,au.mk true true 3 (l+4) fun i=>if i<l then rat (F i) 2048 else nth [rat c5.n.x 2048,rat c5.n.y 2048,rat c5.n.z 2048,rat c5.d 2048] (rat 0 1) (i-l+0))]))))) (leaf (exit 2) ([nil,own 0 3 0 l,c1,int i64 (↑s.n:Int),int i64 (↑i:Int),c2,int i64 c7,int i64 c3],[(0,au.mk true true 3 l fun j=>rat (F j) 2048)]))):=ah
theorem Y5 {s:Sf} {l i j:Nat} {F:Nat->Rat}:aH T qQ [] 60 rQ (behind wK [1,1]++[part zQ [1,1,1]]) ⟨aA yq (GB s l i j),pY F l,1⟩=
  let c1:Int:=(↑i:Int)+1;some (aj [-(2:Int)^63<=c1/\c1<2^63] (leaf normal ([nil,own 0 3 0 l,ak 1 s.n fun i=>ak 12 s.m fun i_1=>agg [agg [rat (s.f i i_1).n.x 2048,rat (s.f i i_1).n.y 2048,rat (s.f i i_1).n.z 2048],rat (s.f i i_1).d 2048],int i64 (↑s.n:Int),int i64 c1],[(0,au.mk true true 3 l fun j=>rat (F j) 2048)]))):=ah
theorem R9 {s:Sf} {l i:Nat} {F:Nat->Rat}:cy T qQ [] 60 f71 [part xU [1,1,1]] ⟨aA rQ (wP s l i),pY F l,1⟩=
  some (leaf ret [ak 3 l fun i=>rat (F (i+0)) 2048]):=ah
theorem QM {s:Sf} {i j a:Nat} (hj:j<s.m) (ha:a<4):jH s (s.a+s.b+4*(i*s.m+j)+a)=ck (s.f i j) a:=by
 have e1:(i*s.m+j)/s.m=i:=by rw[Nat.mul_comm,Nat.mul_add_div aa,Nat.div_eq_of_lt hj,Nat.add_zero]
 have e2:(i*s.m+j)%s.m=j:=by rw[Nat.mul_comm,Nat.mul_add_mod,Nat.mod_eq_of_lt hj]
 unfold jH
 rw[if_neg aa,show(s.a+s.b+4*(i*s.m+j)+a-(s.a+s.b))/4=i*s.m+j by omega,show(s.a+s.b+4*(i*s.m+j)+a-(s.a+s.b))%4=a by omega,e1,e2]
theorem af0 {s:Sf} {rl:List (Nat×Nat)} {i j k l:Nat} (hl:l=s.a+s.b+4*(i*s.m+j)) (hj:j<s.m) (hk:k<l+4):ia rl (if k<l then .rat (jH s k) 2048 else nth [.rat (s.f i j).n.x 2048,.rat (s.f i j).n.y 2048,.rat (s.f i j).n.z 2048,.rat (s.f i j).d 2048] (.rat 0 1) (k-l+0)) (.rat (jH s k) 2048):=by
 by_cases h:k<l
 ·rw[if_pos h];exact cR rfl rfl
 ·rw[if_neg h]
  obtain⟨a,ha,rfl⟩:∃a,a<4/\k=l+a:=⟨k-l,aa,aa⟩
  have e:=QM (s:=s) (i:=i) hj ha
  rw[<-hl]at e
  rw[e,show l+a-l+0=a by omega]
  rcases four ha with rfl|rfl|rfl|rfl<;>exact cR rfl rfl
theorem X1 {s:Sf} (h1:1<=s.a) (ha:s.a<2^20) (hb:s.b<2^20) (hn:s.n<2^10) (hm2:s.m<2^10) (K:Nat):aS P 71 K [bu s 2048 2048] [] (aJ (bD (jH s) (s.a+s.b+4*(s.n*s.m)) 2048) []):=by
 refine fX (r:=aJ (bD (jH s) (s.a+s.b+4*(s.n*s.m)) 2048) []) hT J5 rfl aV rfl (fun _ cx h00=>?_) K []
 have hk:=jk h00
 have hM:∀i j,i<=s.n->j<=s.m->i*s.m+j<=2^21:=fun i j hi hj=>by
  have:=Nat.mul_le_mul (show i<=2^10 by omega) (show s.m<=2^10 by omega)
  omega
 refine ax.r6 hT CU hm (x:=xU) [1,1,0,1] (i:=0) (y:=zQ) (z:=part xU [1,1,1]) ah ah ah J5.dst [1,1,0] (j:=1) (x1:=wK) (zb:=part zQ [1,1,1]) ah ah ah [1,1] (i2:=2) (y2:=part wK [1,1,0,0]) ah ah rfl
  hk (f1:=[]) (f2:=[18]) (f3:=[]) (f4:=[24]) (f5:=[]) 60 rQ yq 1 1 (fun i:Nat=>wP s (s.a+s.b+4*(i*s.m)) i) (fun i=>pY (jH s) (s.a+s.b+4*(i*s.m))) (fun i=>i<=s.n) (fun i=>i=s.n) (fun i=>s.n-i) (fun i=>i<s.n) (fun _=>False) (fun _=>False)
  (fun i (j:Nat)=>GB s (s.a+s.b+4*(i*s.m+j)) i j) (fun i j=>pY (jH s) (s.a+s.b+4*(i*s.m+j))) (fun _ j=>j<=s.m) (fun _ j=>j=s.m) (fun _ j=>s.m-j) ⟨_,TC,?_⟩ (fun i hi=>⟨_,afb,?_⟩) (fun i hi hg=>⟨_,aaK,?_⟩) (fun i hi hg j hj=>⟨_,Yi,?_⟩) (fun i hi hg j hj=>⟨_,Y5,?_⟩) (fun i hi=>?_) (fun _ _ h=>h.elim) (fun _ _ h=>h.elim)
 all_goals try simp only[ag.all,az,bk,bt,bf]
 ·refine⟨⟨aa,aa,aa,bI bz,bI bz,aa,aa⟩,aa,0,Nat.zero_le _,[(0,28672)],rfl,?_,rfl,b7 rfl rfl (by show s.a+s.b=s.a+s.b+4*(0*s.m);omega) (fun j hj=>cR rfl ?_) trivial⟩
  ·show _=[_,AV.own 0 3 0 (s.a+s.b+4*(0*s.m)),_,_,_].map _
   rw[show s.a+s.b+4*(0*s.m)=s.a+s.b by omega];rfl
  ·unfold jH
   rw[if_pos (by have hj:j<s.a+s.b+4*(0*s.m):=hj;omega)];rfl
 ·exact⟨fun h=>⟨aa,[(0,0)],rfl,rfl,rfl,dQ trivial⟩,fun h=>⟨rfl,i,aa,[(0,0)],rfl,rfl,rfl,dQ trivial⟩⟩
 ·exact⟨aa,0,Nat.zero_le _,[(0,0)],rfl,rfl,rfl,dQ trivial⟩
 ·have hMi:=hM i j aa hj
  refine⟨fun h=>?_,fun h=>⟨rfl,j,aa,[(0,0)],rfl,rfl,rfl,dQ trivial⟩⟩
  refine⟨aa,⟨aa,aa,aa,aa,aa,aa,aa,aa,aa⟩,aa,j+1,aa,by dsimp only;omega,[(0,73729)],rfl,?_,rfl,b7 rfl rfl ?_ (fun k hk=>af0 rfl aa (by have hk:k<s.a+s.b+4*(i*s.m+(j+1)):=hk;omega)) trivial⟩
  ·show _=[_,AV.own 0 3 0 (s.a+s.b+4*(i*s.m+(j+1))),_,_,_,_,_,_].map _
   rw[show s.a+s.b+4*(i*s.m+(j+1))=s.a+s.b+4*(i*s.m+j)+4 by omega];rfl
  ·show s.a+s.b+4*(i*s.m+(j+1))=s.a+s.b+4*(i*s.m+j)+4
   omega
 ·subst hj
  have e:s.a+s.b+4*((i+1)*s.m)=s.a+s.b+4*(i*s.m+s.m):=by rw[show(i+1)*s.m=i*s.m+s.m from Nat.succ_mul i s.m]
  refine⟨aa,i+1,aa,by dsimp only;omega,?_⟩
  show dN [] _ (wP s (s.a+s.b+4*((i+1)*s.m)) (i+1)) (pY (jH s) (s.a+s.b+4*((i+1)*s.m))) 1
  rw[e]
  exact⟨[(0,0)],rfl,rfl,rfl,dQ trivial⟩
 ·subst hi
  refine ax.gZ ((aG.fin hT CU hm 60 R9 ah ?_).mono fun _ _ h=>.inl h)
  simp only[ag.all,az]
  exact .refl _
def Md:Spec:=cA (kC (ir 2048 2048) kN) (fun a=>bD (jH a.1) (a.1.a+a.1.b+4*(a.1.n*a.1.m)) 2048) fun a=>[1<=a.1.a,a.1.a<2^20,a.1.b<2^20,a.1.n<2^10,a.1.m<2^10]
def Co:aX:=nG::(71,Md)::(72,Df)::(77,C2)::(75,Cg)::(76,CT)::[]
abbrev wD:Code:=aF f17
abbrev yg:List Nat:=[2,3,32,33,34]
abbrev F0 (s:Sf) (l i:Nat):List AV:=[.int .i64 0,bD (jH s) l 2048,fN s.f s.n s.m 2000,.int .i64 s.n,.int .i64 i]
theorem VL {s:Sf}:aH T Co [200018,200026] 60 yg (before wD [1,1,1,1,1,1,0,1]) ⟨aQ 0 [bu s 2000 2000],[],0⟩=
  let c7:Nat:=2^40;let c6:Prop:=bn (fun i=>rat (s.kv i) 2000) s.b sJ;let c5:Prop:=bn (fun i=>rat (s.ku i) 2000) s.a sJ;let c3:Prop:=0<1;let c2:Nat:=dn (aZ (s.f 0) s.m 2000);let c4:Nat:=s.a+s.b+4*(s.n*c2);let c1:Sf:=Sf.mk s.u s.v s.a (fun i=>aE (rat (s.ku i) 2000)) s.b (fun i=>aE (rat (s.kv i) 2000)) s.n c2 (fq fun i=>aZ (s.f i) s.m 2000);some (aj [c3,bn (fun i=>rat (s.ku i) 2000) s.a 2048,bn (fun i=>rat (s.kv i) 2000) s.b 2048,dG (fun i=>aZ (s.f i) s.m 2000) s.n 2048,(1:Nat)<=s.a,s.a<2^20,s.b<2^20,s.n<2^10,c2<2^10] (aj [bn (fun i=>rat (jH c1 i) 2048) c4 2048,c4<c7,73=73\/73=80] (aj [c3,c3,c5,s.a<c7] (aj [(gC s.a (fun i=>aE (rat (s.ku i) 2000)) s.u !=(0:Int))=false] (aj [c3,c3,c6,s.b<c7] (aj [(gC s.b (fun i=>aE (rat (s.kv i) 2000)) s.v !=(0:Int))=false] (aj [c3,c5,c6,dG (fun i=>aZ (s.f i) s.m 2000) s.n sJ,de c1] (aj [c3] (leaf normal ([int i64 0,ak 3 c4 fun i=>rat (jH c1 i) 2048,ak 1 s.n fun i=>ak 12 s.m fun i_1=>agg [agg [rat (s.f i i_1).n.x 2000,rat (s.f i i_1).n.y 2000,rat (s.f i i_1).n.z 2000],rat (s.f i i_1).d 2000],int i64 (↑s.n:Int),int i64 0],[])))))))))):=ah
theorem Yy {s:Sf} {l i:Nat}:aH T Co [35] 60 yg [part wD [1,1,1,1,1,1,0,1,0,0]] ⟨aA yg (F0 s l i),[],0⟩=
  let c4:Int:=(↑s.n:Int);let c3:AV:=ak 3 l fun i=>rat (jH s i) 2048;let c2:Int:=(↑i:Int);let c1:AV:=ak 1 s.n fun i=>ak 12 s.m fun i_1=>agg [agg [rat (s.f i i_1).n.x 2000,rat (s.f i i_1).n.y 2000,rat (s.f i i_1).n.z 2000],rat (s.f i i_1).d 2000];let c5:Int:=c2+1;some (fork (decide (c2<c4)) (aj [(0:Int)<=c2/\c2.toNat<s.n] (aj [lW (fun i=>bJ (s.f c2.toNat i) 2000) s.m 2048,s.m<2^40,∀(i:Nat),i<s.m->0<aE (rat (s.f c2.toNat i).d 2000),78=78] (aj [-(2:Int)^63<=c5/\c5<2^63] (leaf normal ([int i64 0,c3,c1,int i64 c4,int i64 c5],[]))))) (leaf (exit 0) ([int i64 0,c3,c1,int i64 c4,int i64 c2],[]))):=ah
theorem ag0 {s:Sf} {l i:Nat}:cy T Co [] 60 f17 [part wD [1,1,1,1,1,1,1]] ⟨aA yg (F0 s l i),[],0⟩=
  some (aj [bn (fun i=>rat (jH s i) 2048) l 2048,l<2^40,80=73\/80=80] (leaf ret [int i64 0])):=ah
theorem Wn:aU P Md 71:=ct fun⟨s,_⟩ K hn=>X1 hn.1 hn.2.1 hn.2.2.1 hn.2.2.2.1 hn.2.2.2.2 K
theorem T6:bq P Co:=cz (aI Wn (aI Jk (aI Nn (aI Hr (aI DF bB)))))
theorem adt {s:Sf} (hs:de s) (K:Nat):aS P 17 K [bu s 2000 2000] [] (aJ (.int .i64 0) []):=by
 obtain⟨ku,kv,u0,u6,v0,v6,ha,hb,hn,hm2,hw⟩:=id hs
 have la:=ku.len
 have lb:=kv.len
 have pu:=ku.p1
 have pv:=kv.p1
 have c1:gC s.a s.ku s.u=0:=by have:=ku.zK aa ha;rwa [Int.toNat_of_nonneg aa]at this
 have c2:gC s.b s.kv s.v=0:=by have:=kv.zK aa hb;rwa [Int.toNat_of_nonneg aa]at this
 have hN:s.n*s.m<=1024*1024:=Nat.mul_le_mul aa aa
 have lv:dn (aZ (s.f 0) s.m 2000)=s.m:=rfl
 refine iB (r:=aJ (.int .i64 0) []) hT T6 hm aeQ rfl aV rfl [1,1,1,1,1,1,0,1] (i:=0) (y:=part wD [1,1,1,1,1,1,0,1,0,0]) (z:=part wD [1,1,1,1,1,1,1]) ah ah ah (f1:=[200018,200026]) (f2:=[35]) (f3:=[]) 60 yg 0
  (fun i:Nat=>F0 s (s.a+s.b+4*(s.n*s.m)) i) (fun _=>[]) (fun i=>i<=s.n) (fun i=>i=s.n) (fun i=>s.n-i) (fun _=>⟨⟨_,VL,?_⟩,fun i h1=>⟨_,Yy,?_⟩,fun i h1=>⟨_,ag0,?_⟩⟩) K []
 all_goals try simp only[ag.all,az,bk,bt,bf,lv]
 ·exact⟨⟨aa,bI (by decide),bI (by decide),fc (by decide),aa,aa,aa,aa,aa⟩,⟨bI (by decide),aa,.inl trivial⟩,⟨aa,aa,bI (by decide),aa⟩,bne_eq_false_iff_eq.2 c1,⟨aa,aa,bI (by decide),aa⟩,bne_eq_false_iff_eq.2 c2,⟨aa,bI (by decide),bI (by decide),fc (by decide),hs⟩,aa,0,Nat.zero_le _,.vals rfl⟩
 ·exact⟨fun h=>⟨aa,⟨ql (by decide),aa,fun j hj=>hw i j aa hj,trivial⟩,aa,i+1,aa,by dsimp only;omega,.vals rfl⟩,fun h=>⟨rfl,i,aa,.vals rfl⟩⟩
 ·exact⟨⟨bI (by decide),aa,.inr trivial⟩,.refl _⟩
def Lg:Spec:=cA (kC (ir 2000 2000) kN) (fun _=>.int .i64 0) fun a=>[de a.1]
theorem aex:aU P Lg 17:=ct fun⟨s,_⟩ K hn=>adt hn K
abbrev mS:Nat:=549755813888
abbrev DR:FuncId:=67
abbrev Dw:Func:=f67
abbrev wm:Code:=aF Dw
abbrev Da (n m:Nat) (f g:Nat->Rat) (i:Nat):List AV:=[bD f n mS,bD g m mS,.func 63 [],.bool false,bD f n mS,.int .i64 n,.int .i64 i]
def Pv:aX:=[(62,iZ T (sG::oX) [200016] 60 f62)]
def MZ:Spec:=cA (kC (kL mS) (kC (kL mS) (kC (kF 63) kN))) (fun _=>.bool true) fun a=>[a.1.1<2^40,a.1.1=a.2.1.1,∀i,i<a.1.1->a.1.2 i=a.2.1.2 i]
theorem T2:aW DR Dw:=aT func67
theorem Xe {n m:Nat} {f g:Nat->Rat}:aH T gP [200014] 60 kg (before xO [1,1,0,1]) ⟨aQ 0 [bD f n mS,bD g m mS,.func 63 []],[],0⟩=
  let c1:AV:=ak 3 n fun i=>rat (f i) 549755813888;some (aj [((↑n:Int)!=(↑m:Int))=false] (leaf normal ([c1,ak 3 m fun i=>rat (g i) 549755813888,func 63 [],AV.bool false,c1,int i64 (↑n:Int),int i64 0],[]))):=ah
theorem abw {n m i:Nat} {f g:Nat->Rat}:aH T gP [18,200030] 60 kg [part xO [1,1,0,1,0,0]] ⟨aA kg (Da n m f g i),[],0⟩=
  let c6:Int:=(↑n:Int);let c4:AV:=ak 3 m fun i=>rat (g i) 549755813888;let c3:Prop:=0<1;let c2:Int:=(↑i:Int);let c1:AV:=ak 3 n fun i=>rat (f i) 549755813888;let c5:Int:=c2+1;some (fork (decide (c2<c6)) (aj [(0:Int)<=c2/\c2.toNat<n,c3] (aj [(0:Int)<=c2/\c2.toNat<m,c3] (aj [c3,c3] (aj [(!decide (f c2.toNat=g c2.toNat))=false] (aj [-(2:Int)^63<=c5/\c5<2^63] (leaf normal ([c1,c4,func 63 [],AV.bool false,c1,int i64 c6,int i64 c5],[]))))))) (leaf (exit 0) ([c1,c4,func 63 [],AV.bool false,c1,int i64 c6,int i64 c2],[]))):=ah
theorem X7 {n m i:Nat} {f g:Nat->Rat}:cy T gP [] 60 D3 [part xO [1,1,1]] ⟨aA kg (Da n m f g i),[],0⟩=
  some (leaf ret [AV.bool true]):=ah
theorem Wp:bq P Pv:=aI (jn hT (kW qM) hm (aT func62) _ _) bB
theorem Wk:aU P MZ Fb:=ct fun⟨⟨n,f⟩,⟨m,g⟩,_⟩ K hn=>by
 obtain⟨h1,h2,h3⟩:=hn
 have h1:n<2^40:=h1
 have h2:n=m:=h2
 have h3:∀i,i<n->f i=g i:=h3
 refine iB (r:=aJ (.bool true) []) hT lY hm agd rfl aV rfl [1,1,0,1] (i:=0) (y:=part xO [1,1,0,1,0,0]) (z:=part xO [1,1,1]) ah ah ah (f1:=[200014]) (f2:=[18,200030]) (f3:=[]) 60 kg 0
  (fun i:Nat=>Da n m f g i) (fun _=>[]) (fun i=>i<=n) (fun i=>i=n) (fun i=>n-i) (fun _=>⟨⟨_,Xe,?_⟩,fun i h1=>⟨_,abw,?_⟩,fun i h1=>⟨_,X7,?_⟩⟩) K []
 all_goals try simp only[ag.all,az,bk,bt,bf]
 ·exact⟨bne_eq_false_iff_eq.2 aa,0,Nat.zero_le _,.vals rfl⟩
 ·refine⟨fun h=>?_,fun h=>⟨rfl,i,aa,.vals rfl⟩⟩
  have e:=h3 i aa
  (repeat' with_reducible refine And.intro ?_ ?_)
  all_goals first|omega|exact congrArg (!·) (decide_eq_true e)|skip
  exact⟨i+1,aa,by dsimp only;omega,.vals rfl⟩
 ·exact .refl _
abbrev BZ:FuncId:=65
abbrev Ge:Func:=f65
abbrev yw:Code:=aF Ge
abbrev Fx (n m:Nat) (f g:Nat->Pl) (i:Nat):List AV:=[aZ f n 2000,aZ g m 2000,.func 61 [],.bool false,aZ f n 2000,.int .i64 n,.int .i64 i]
def CQ:aX:=nG::(61,iZ T (sG::(Pv++oX)) [100010] 60 f61)::[]
def Iy:Spec:=cA (kC (qq 2000) (kC (qq 2000) (kC (kF 61) kN))) (fun _=>.bool true) fun a=>[a.1.1<2^40,a.1.1=a.2.1.1,∀i,i<a.1.1->a.1.2 i=a.2.1.2 i]
def OQ:aX:=nG::(DR,Iy)::[]
abbrev wT:AV:=.bg (.func 61 [])
def Jj:Spec:=cA (kC (qq 2000) (kC (qq 2000) (kC (AH (kF 61)) kN))) (fun _=>.bool true) fun a=>[a.1.1<2^40,a.1.1=a.2.1.1,∀i,i<a.1.1->a.1.2 i=a.2.1.2 i]
def CI:aX:=nG::(66,Jj)::[]
abbrev FB (s t:Sf) (i:Nat):List AV:=[fN s.f s.n s.m 2000,fN t.f t.n t.m 2000,.func 66 [wT],.bool false,fN s.f s.n s.m 2000,.int .i64 s.n,.int .i64 i]
def I7:Spec:=cA (kC (uD 2000) (kC (uD 2000) (kC (zV (kF 61)) kN))) (fun _=>.bool true) fun a=>[a.2.2.1.1=66,a.1.1<2^40,a.1.2.1<2^40,a.1.1=a.2.1.1,a.1.2.1=a.2.1.2.1,∀i j,i<a.1.1->j<a.1.2.1->a.1.2.2 i j=a.2.1.2.2 i j]
def Dx:aX:=nG::(Fb,MZ)::(BZ,I7)::[]
theorem Zo:aW BZ Ge:=aT func65
theorem WK:aW 61 f61:=aT func61
theorem Ur:aW 66 f66:=aT func66
theorem P4:aW 14 f14:=aT func14
theorem agu {n m:Nat} {f g:Nat->Pl}:aH T CQ [200014] 60 kg (before wm [1,1,0,1]) ⟨aQ 0 [aZ f n 2000,aZ g m 2000,.func 61 []],[],0⟩=
  let c1:AV:=ak 12 n fun i=>agg [agg [rat (f i).n.x 2000,rat (f i).n.y 2000,rat (f i).n.z 2000],rat (f i).d 2000];some (aj [((↑n:Int)!=(↑m:Int))=false] (leaf normal ([c1,ak 12 m fun i=>agg [agg [rat (g i).n.x 2000,rat (g i).n.y 2000,rat (g i).n.z 2000],rat (g i).d 2000],func 61 [],AV.bool false,c1,int i64 (↑n:Int),int i64 0],[]))):=ah
theorem Rv {n m i:Nat} {f g:Nat->Pl}:aH T CQ [18,200030] 60 kg [part wm [1,1,0,1,0,0]] ⟨aA kg (Fx n m f g i),[],0⟩=
  let c9:Int:=(↑n:Int);let c5:Prop:=0<1;let c4:Int:=(↑i:Int);let c3:AV:=ak 12 m fun i=>agg [agg [rat (g i).n.x 2000,rat (g i).n.y 2000,rat (g i).n.z 2000],rat (g i).d 2000];let c1:AV:=ak 12 n fun i=>agg [agg [rat (f i).n.x 2000,rat (f i).n.y 2000,rat (f i).n.z 2000],rat (f i).d 2000];let c8:Int:=c4+1;let c2:Nat:=c4.toNat;let c7:V3:=(f c2).n;let c6:V3:=(g c2).n;some (fork (decide (c4<c9)) (aj [(0:Int)<=c4/\c2<n,c5] (aj [(0:Int)<=c4/\c2<m,c5] (aj [c5,c5,(!decide (c7.x=c6.x))=false,(!decide (c7.y=c6.y))=false,(!decide (c7.z=c6.z))=false,true=true] (aj [(!bif true then decide ((f c2).d=(g c2).d)else false)=false] (aj [-(2:Int)^63<=c8/\c8<2^63] (leaf normal ([c1,c3,func 61 [],AV.bool false,c1,int i64 c9,int i64 c8],[]))))))) (leaf (exit 0) ([c1,c3,func 61 [],AV.bool false,c1,int i64 c9,int i64 c4],[]))):=ah
theorem adj {n m i:Nat} {f g:Nat->Pl}:cy T CQ [] 60 Dw [part wm [1,1,1]] ⟨aA kg (Fx n m f g i),[],0⟩=
  some (leaf ret [AV.bool true]):=ah
theorem agG {n m:Nat} {f g:Nat->Pl}:bU T OQ [] 60 f66 (aF f66) ⟨aQ 0 [aZ f n 2000,aZ g m 2000,wT],[],0⟩=
  some (aj [lW (fun i=>bJ (f i) 2000) n 2000,lW (fun i=>bJ (g i) 2000) m 2000,n<2^40,n=m,∀(i:Nat),i<n->oy (bJ (f i) 2000)=oy (bJ (g i) 2000)] (leaf ret [AV.bool true])):=ah
theorem ajJ {s t:Sf}:aH T CI [200014] 60 kg (before yw [1,1,0,1]) ⟨aQ 0 [fN s.f s.n s.m 2000,fN t.f t.n t.m 2000,.func 66 [wT]],[],0⟩=
  let c1:AV:=ak 1 s.n fun i=>ak 12 s.m fun i_1=>agg [agg [rat (s.f i i_1).n.x 2000,rat (s.f i i_1).n.y 2000,rat (s.f i i_1).n.z 2000],rat (s.f i i_1).d 2000];some (aj [((↑s.n:Int)!=(↑t.n:Int))=false] (leaf normal ([c1,ak 1 t.n fun i=>ak 12 t.m fun i_1=>agg [agg [rat (t.f i i_1).n.x 2000,rat (t.f i i_1).n.y 2000,rat (t.f i i_1).n.z 2000],rat (t.f i i_1).d 2000],func 66 [(func 61 []).bg],AV.bool false,c1,int i64 (↑s.n:Int),int i64 0],[]))):=ah
theorem aa5 {s t:Sf} {i:Nat}:aH T CI [18,200030] 60 kg [part yw [1,1,0,1,0,0]] ⟨aA kg (FB s t i),[],0⟩=
  let c5:Int:=(↑s.n:Int);let c4:AV:=func 66 [(func 61 []).bg];let c3:Int:=(↑i:Int);let c2:AV:=ak 1 t.n fun i=>ak 12 t.m fun i_1=>agg [agg [rat (t.f i i_1).n.x 2000,rat (t.f i i_1).n.y 2000,rat (t.f i i_1).n.z 2000],rat (t.f i i_1).d 2000];let c1:AV:=ak 1 s.n fun i=>ak 12 s.m fun i_1=>agg [agg [rat (s.f i i_1).n.x 2000,rat (s.f i i_1).n.y 2000,rat (s.f i i_1).n.z 2000],rat (s.f i i_1).d 2000];let c6:Int:=c3+1;some (fork (decide (c3<c5)) (aj [(0:Int)<=c3/\c3.toNat<s.n] (aj [(0:Int)<=c3/\c3.toNat<t.n] (aj [lW (fun i=>bJ (s.f c3.toNat i) 2000) s.m 2000,lW (fun i=>bJ (t.f c3.toNat i) 2000) t.m 2000,s.m<2^40,s.m=t.m,∀(i:Nat),i<s.m->oy (bJ (s.f c3.toNat i) 2000)=oy (bJ (t.f c3.toNat i) 2000)] (aj [(!true)=false] (aj [-(2:Int)^63<=c6/\c6<2^63] (leaf normal ([c1,c2,c4,AV.bool false,c1,int i64 c5,int i64 c6],[]))))))) (leaf (exit 0) ([c1,c2,c4,AV.bool false,c1,int i64 c5,int i64 c3],[]))):=ah
theorem aiy {s t:Sf} {i:Nat}:cy T CI [] 60 Ge [part yw [1,1,1]] ⟨aA kg (FB s t i),[],0⟩=
  some (leaf ret [AV.bool true]):=ah
theorem SW {s t:Sf}:aH T Dx [] 60 [2,3,4,5] (before (aF f14) [1,1]) ⟨aQ 0 [bu s 2000 2000,bu t 2000 2000],[],0⟩=
  let c2:Nat:=(bp (bu s 2000 2000)).size;let c1:Nat:=(bp (bu t 2000 2000)).size;some (aj [(0:Nat)<1] (leaf normal ([ptr 0 0 c2 0 [],ptr 4096 0 c1 0 [],AV.bool false,ptr 12288 0 1 0 []],[(12288,au.mk false true 1 1 fun j=>if(j==0)=true then bp (func 61 [])else void),(4096,au.mk false true c1 1 fun x=>agg [int i64 t.u,int i64 t.v,ak 3 t.a fun i=>rat (t.ku i) 2000,ak 3 t.b fun i=>rat (t.kv i) 2000,ak 1 t.n fun i=>ak 12 t.m fun i_1=>agg [agg [rat (t.f i i_1).n.x 2000,rat (t.f i i_1).n.y 2000,rat (t.f i i_1).n.z 2000],rat (t.f i i_1).d 2000]]),(0,au.mk false true c2 1 fun x=>agg [int i64 s.u,int i64 s.v,ak 3 s.a fun i=>rat (s.ku i) 2000,ak 3 s.b fun i=>rat (s.kv i) 2000,ak 1 s.n fun i=>ak 12 s.m fun i_1=>agg [agg [rat (s.f i i_1).n.x 2000,rat (s.f i i_1).n.y 2000,rat (s.f i i_1).n.z 2000],rat (s.f i i_1).d 2000]])]))):=ah
theorem Y0 {s t:Sf}:cy T Dx [100011,100018,100025,100032] 60 f14 [part (aF f14) [1,1]] ⟨aA [2,3,4,5] [.ptr 0 0 5 0 [],.ptr 1 0 5 0 [],.bool false,wT],[(2,⟨false,false,1,1,fun _=>.func 61 []⟩),(1,⟨false,true,5,1,fun _=>bu t 2000 2000⟩),(0,⟨false,true,5,1,fun _=>bu s 2000 2000⟩)],3⟩=
  let c4:Prop:=(bif true then true else false)=true;let c3:Nat:=dn (aZ (s.f 0) s.m 2000);let c2:Nat:=2^40;let c1:Prop:=0<1;some (aj [c1,c1,(s.u==t.u)=true,c1,c1,(bif true then s.v==t.v else false)=true,c1,c1,bn (fun i=>rat (s.ku i) 2000) s.a mS,bn (fun i=>rat (t.ku i) 2000) t.a mS,s.a<c2,s.a=t.a,∀(i:Nat),i<s.a->aE (rat (s.ku i) 2000)=aE (rat (t.ku i) 2000),c4,c1,c1,bn (fun i=>rat (s.kv i) 2000) s.b mS,bn (fun i=>rat (t.kv i) 2000) t.b mS,s.b<c2,s.b=t.b,∀(i:Nat),i<s.b->aE (rat (s.kv i) 2000)=aE (rat (t.kv i) 2000),c4,c1,c1,dG (fun i=>aZ (s.f i) s.m 2000) s.n 2000,dG (fun i=>aZ (t.f i) t.m 2000) t.n 2000,66=66,s.n<c2,c3<c2,s.n=t.n,c3=dn (aZ (t.f 0) t.m 2000),∀(i j:Nat),i<s.n->j<c3->fq (fun i=>aZ (s.f i) s.m 2000) i j=fq (fun i=>aZ (t.f i) t.m 2000) i j] (leaf ret [AV.bool true])):=ah
theorem abi:bq P CQ:=cz (aI (jn hT (kW (zM Wp qM)) hm WK _ _) bB)
theorem agH:aU P Iy DR:=ct fun⟨⟨n,f⟩,⟨m,g⟩,_⟩ K hn=>by
 obtain⟨h1,h2,h3⟩:=hn
 have h1:n<2^40:=h1
 have h2:n=m:=h2
 have h3:∀i,i<n->f i=g i:=h3
 refine iB (r:=aJ (.bool true) []) hT abi hm T2 rfl aV rfl [1,1,0,1] (i:=0) (y:=part wm [1,1,0,1,0,0]) (z:=part wm [1,1,1]) ah ah ah (f1:=[200014]) (f2:=[18,200030]) (f3:=[]) 60 kg 0
  (fun i:Nat=>Fx n m f g i) (fun _=>[]) (fun i=>i<=n) (fun i=>i=n) (fun i=>n-i) (fun _=>⟨⟨_,agu,?_⟩,fun i h1=>⟨_,Rv,?_⟩,fun i h1=>⟨_,adj,?_⟩⟩) K []
 all_goals try simp only[ag.all,az,bk,bt,bf]
 ·exact⟨bne_eq_false_iff_eq.2 aa,0,Nat.zero_le _,.vals rfl⟩
 ·refine⟨fun h=>?_,fun h=>⟨rfl,i,aa,.vals rfl⟩⟩
  have e:=h3 i aa
  (repeat' with_reducible refine And.intro ?_ ?_)
  all_goals first|omega|exact congrArg (!·) (decide_eq_true (congrArg (fun p:Pl=>p.n.x) e))|exact congrArg (!·) (decide_eq_true (congrArg (fun p:Pl=>p.n.y) e))|exact congrArg (!·) (decide_eq_true (congrArg (fun p:Pl=>p.n.z) e))|exact congrArg (!·) (decide_eq_true (congrArg (fun p:Pl=>p.d) e))|exact trivial|exact⟨i+1,aa,by dsimp only;omega,.vals rfl⟩
 ·exact .refl _
theorem adz:bq P OQ:=cz (aI agH bB)
theorem agb:aU P Jj 66:=ct fun⟨⟨n,f⟩,⟨m,g⟩,w,_⟩ K hn=>by
 obtain⟨h1,h2,h3⟩:=hn
 refine bX (r:=aJ (.bool true) []) hT adz hm Ur rfl aV rfl 60 agG (fun _=>?_) K []
 simp only[ag.all,az]
 exact⟨⟨ql bz,ql bz,h1,h2,h3⟩,.refl _⟩
theorem acF:bq P CI:=cz (aI agb bB)
theorem Wc {s t:Sf} (h1:s.n<2^40) (h2:s.m<2^40) (h3:s.n=t.n) (h4:s.m=t.m) (h5:∀i j,i<s.n->j<s.m->s.f i j=t.f i j) (K:Nat):aS P BZ K [fN s.f s.n s.m 2000,fN t.f t.n t.m 2000,.func 66 [wT]] [] (aJ (.bool true) []):=by
 refine iB (r:=aJ (.bool true) []) hT acF hm Zo rfl aV rfl [1,1,0,1] (i:=0) (y:=part yw [1,1,0,1,0,0]) (z:=part yw [1,1,1]) ah ah ah (f1:=[200014]) (f2:=[18,200030]) (f3:=[]) 60 kg 0
  (fun i:Nat=>FB s t i) (fun _=>[]) (fun i=>i<=s.n) (fun i=>i=s.n) (fun i=>s.n-i) (fun _=>⟨⟨_,ajJ,?_⟩,fun i h1=>⟨_,aa5,?_⟩,fun i h1=>⟨_,aiy,?_⟩⟩) K []
 all_goals try simp only[ag.all,az,bk,bt,bf]
 ·exact⟨bne_eq_false_iff_eq.2 aa,0,Nat.zero_le _,.vals rfl⟩
 ·refine⟨fun h=>?_,fun h=>⟨rfl,i,aa,.vals rfl⟩⟩
  exact⟨aa,aa,⟨ql bz,ql bz,h2,h4,fun j hj=>h5 i j aa hj⟩,rfl,aa,i+1,aa,by dsimp only;omega,.vals rfl⟩
 ·exact .refl _
theorem Us:aU P I7 BZ:=ct fun⟨⟨n,m,f⟩,⟨n',m',g⟩,⟨q,w⟩,_⟩ K hn=>by
 obtain⟨rfl,h1,h2,h3,h4,h5⟩:q=66/\n<2^40/\m<2^40/\n=n'/\m=m'/\∀i j,i<n->j<m->f i j=g i j:=hn
 exact Wc (s:={u:=0,v:=0,a:=0,ku:=fun _=>0,b:=0,kv:=fun _=>0,n:=n,m:=m,f:=f}) (t:={u:=0,v:=0,a:=0,ku:=fun _=>0,b:=0,kv:=fun _=>0,n:=n',m:=m',f:=g}) h1 h2 h3 h4 h5 K
theorem PE:bq P Dx:=cz (aI Wk (aI Us bB))
def I6:Spec:=cA (kC (ir 2000 2000) (kC (ir 2000 2000) kN)) (fun _=>.bool true) fun a=>[AQ a.1 a.2.1,a.1.n<2^40,a.1.m<2^40,a.1.a<2^40,a.1.b<2^40]
theorem WY:aU P I6 14:=ct fun⟨s,t,_⟩ K hn=>by
 obtain⟨h,n1,n2,n3,n4⟩:AQ s t/\s.n<2^40/\s.m<2^40/\s.a<2^40/\s.b<2^40:=hn
 refine fX (r:=aJ (.bool true) []) hT P4 rfl aV rfl (fun _ cx h00=>?_) K []
 have hk:=jk h00
 refine ax.hole [1,1] ah (aG.bE hT PE hm 60 [2,3,4,5] SW (jM P4.dst) ?_)
 refine⟨Nat.zero_lt_one,?_⟩
 intro s' hs'
 show ax _ _ _ (part (aF f14) [1,1]) s' _
 rw[show behind (aF f14) [1,1]=[]from by kernel_rfl]
 refine ax.ja (s2:=⟨aA [2,3,4,5] [.ptr 0 0 5 0 [],.ptr 1 0 5 0 [],.bool false,.ptr 2 0 1 0 []],[(2,⟨false,true,1,1,fun _=>.func 61 []⟩),(1,⟨false,true,5,1,fun _=>bu t 2000 2000⟩),(0,⟨false,true,5,1,fun _=>bu s 2000 2000⟩)],3⟩) (dN.le ⟨[(0,0),(1,4096),(2,12288)],rfl,rfl,rfl,aM (aM (aM trivial))⟩ hs' hk) ((?_:ax P cx f14.ntmps (part (aF f14) [1,1]) _ (dH cx (Fin T f14 (.bool true)))).mono fun e s' h=>by cases e<;>exact h)
 refine ax.tE (t:=5) (k:=2) rfl rfl rfl rfl rfl ?_
 refine ax.gZ ((aG.fin hT PE hm 60 Y0 ah ?_).mono fun _ _ h=>.inl h)
 simp only[ag.all,az]
 (repeat' with_reducible refine And.intro ?_ ?_)
 all_goals first|omega|exact beq_iff_eq.2 h.u|exact beq_iff_eq.2 h.v|exact bI (by decide)|exact fc (by decide)|exact h.ku|exact h.kv|exact h.a|exact h.b|exact h.n|exact h.m|exact h.f|exact .refl _|exact n2|exact trivial|skip
abbrev rD (s:Sf) (u:Rat):Cu:=uV (fU s) u
theorem aae {s:Sf} {u:Rat} {j:Nat} (hs:de s) (hu:¬bQ s.a s.ku u) (hj:j<s.m):bM ((rD s u).f j)=gF (eE s j) u:=by
 have h:gF (eE s j) u=fm (cK s j) u:=(if_neg (show¬bQ (cK s j).n (cK s j).k u from hu)).symm
 have hp:=NW hs hu hj
 rw[<-h]at hp
 show bM ⟨tL (gF (eE s j) u),(gF (eE s j) u).d⟩=_
 rw[<-HU,PG (by grind)]
theorem Pj {s:Sf} {u v:Rat} (hs:de s) (hu:¬bQ s.a s.ku u):iL s u v=lf (rD s u) v:=(Sj hs hu).trans (congrArg (fun c=>lf c v) (if_neg hu))
def Qd:aX:=[(42,iZ T (sG::rR) [100010,100017] 60 f42)]
theorem Xs:bq P Qd:=aI (jn hT (kW uE) hm (aT func42) _ _) bB
theorem VX:aW 13 f13:=aT func13
def Qu:aX:=nG::(37,Fp)::Qd
def H6:Spec:=cA (kC (ir 2000 2000) (kC (ir 2000 2000) (kC (gp 2000) (kC (gp 2000) (kC (gp 2000) (kC (gp 2000) kN)))))) (fun _=>.bool true) fun⟨s,t,u,v,x,y,_⟩=>[de s,de t,¬bQ s.a s.ku u,¬bQ s.b s.kv v,¬bQ t.a t.ku x,¬bQ t.b t.kv y,iL t x y=iL s u v]
theorem aho {s t:Sf} {u v x y:Rat}:bU T Qu [100033,100037] 60 f13 (aF f13) ⟨aQ 0 [bu s 2000 2000,bu t 2000 2000,.rat u 2000,.rat v 2000,.rat x 2000,.rat y 2000],[],0⟩=
  let c4:Prop:=2000<=sK;let c3:Prop:=0<1;let c2:Sf:=Sf.mk s.u s.v s.a (fun i=>aE (rat (s.ku i) 2000)) s.b (fun i=>aE (rat (s.kv i) 2000)) s.n (dn (aZ (s.f 0) s.m 2000)) (fq fun i=>aZ (s.f i) s.m 2000);let c1:Sf:=Sf.mk t.u t.v t.a (fun i=>aE (rat (t.ku i) 2000)) t.b (fun i=>aE (rat (t.kv i) 2000)) t.n (dn (aZ (t.f 0) t.m 2000)) (fq fun i=>aZ (t.f i) t.m 2000);let c6:V3:=iL c1 x y;let c5:V3:=iL c2 u v;some (aj [c3,c3,c3,bn (fun i=>rat (s.ku i) 2000) s.a 2000,bn (fun i=>rat (s.kv i) 2000) s.b 2000,dG (fun i=>aZ (s.f i) s.m 2000) s.n 2000,c4,c4,de c2,c3] (aj [c3,c3,c3,bn (fun i=>rat (t.ku i) 2000) t.a 2000,bn (fun i=>rat (t.kv i) 2000) t.b 2000,dG (fun i=>aZ (t.f i) t.m 2000) t.n 2000,c4,c4,de c1,c3] (aj [(oC c2 u v==0)=true,(bif true then oC c1 x y==0 else false)=true,c3,c3,decide (c5.x=c6.x)=true,(bif true then decide (c5.y=c6.y)else false)=true] (leaf ret [AV.bool (bif true then bif true then decide (c5.z=c6.z)else false else false)])))):=ah
theorem UK:bq P Qu:=cz (aI MJ Xs)
theorem O9 {s:Sf} {u v:Rat} (hu:¬bQ s.a s.ku u) (hv:¬bQ s.b s.kv v):oC s u v=0:=by unfold oC;rw[if_neg hu];exact if_neg hv
theorem abx:aU P H6 13:=ct fun⟨s,t,u,v,x,y,_⟩ K hn=>by
 obtain⟨h1,h2,h3,h4,h5,h6,h7⟩:de s/\de t/\¬bQ s.a s.ku u/\¬bQ s.b s.kv v/\¬bQ t.a t.ku x/\¬bQ t.b t.kv y/\iL t x y=iL s u v:=hn
 have o:0<1:=Nat.zero_lt_one
 have z:2000<=sK:=by decide
 refine bX (r:=aJ (.bool true) []) hT UK hm VX rfl aV rfl 60 aho (fun _=>?_) K []
 simp only[ag.all,az]
 refine⟨⟨o,o,o,bI (by decide),bI (by decide),fc (by decide),z,z,h1,o⟩,⟨o,o,o,bI (by decide),bI (by decide),fc (by decide),z,z,h2,o⟩,⟨beq_iff_eq.2 (O9 h3 h4),beq_iff_eq.2 (O9 h5 h6),o,o,decide_eq_true (congrArg V3.x h7.symm),decide_eq_true (congrArg V3.y h7.symm)⟩,?_⟩
 exact fF (decide_eq_true (congrArg V3.z h7.symm))
end Go.Am.B
