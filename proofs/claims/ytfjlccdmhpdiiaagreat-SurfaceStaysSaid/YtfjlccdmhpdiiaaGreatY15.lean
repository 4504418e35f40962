/- ref12: IsoV, IsoU, Eval at any parameters; program and reference say the same. -/
import Derived.Test.YtfjlccdmhpdiiaaGreatY11
import Derived.Test.YtfjlccdmhpdiiaaGreatM18
import Derived.Test.YtfjlccdmhpdiiaaGreatY10
import Derived.Test.YtfjlccdmhpdiiaaGreatY12
import Derived.Test.YtfjlccdmhpdiiaaGreatZ2
import Derived.Test.YtfjlccdmhpdiiaaGreatY9
import Derived.Test.YtfjlccdmhpdiiaaGreatY13
set_option linter.unusedVariables false
variable {i j l m n w:Nat}{t u v:Rat}{F g k:Nat->Rat}
noncomputable section
namespace Go.Am.B
open Go Go.Am.N AV ag au IntKind Proofs.Tryz
variable {s:Sf}{f:Nat->Pl}{α:Type}{c:Cu}
def AI (s:Sf) (v:Rat):Cu:=if bf s.b s.kv v then p8 else vN s v
theorem cO.weak (h:cO s):Cm s:=⟨h.ku,h.kv,h.u0,h.u6,h.v0,h.v6,by have:=h.a;have:=h.u6;omega,by have:=h.b;have:=h.v6;omega,h.n,h.m⟩
theorem Cm.swap (h:Cm s):Cm (dc s):=⟨h.kv,h.ku,h.v0,h.v6,h.u0,h.u6,h.b,h.a,h.m,h.n⟩
theorem QU {h:Pl} (hd:h.d≠0):cy (dG h)=h:=by
 obtain⟨⟨x,y,z⟩,d⟩:=h;have e:∀q:Rat,d*(q/d)=q:=fun q=>by rw[Rat.mul_comm];exact Rat.div_mul_cancel hd
 show Pl.mk ⟨d*(x/d),d*(y/d),d*(z/d)⟩ d=_;rw[e,e,e]
theorem B7 {h:Pl}:dG h=⟨lQ h,h.d⟩:=by
 rw[<-Mv];rfl
theorem Y7:jQ s u=AI (dc s) u:=by
 by_cases hout:bf s.a s.ku u
 ·rw[show jQ s u=p8 from if_pos hout];exact(if_pos hout).symm
 ·rw[show jQ s u=⟨s.v,s.b,s.kv,s.m,fun j=>dG (eC (cq s j) u)⟩from if_neg hout,show AI (dc s) u=vN (dc s) u from if_neg hout];show Cu.mk s.v s.b s.kv s.m (fun j=>dG (eC (cq s j) u))=Cu.mk s.v s.b s.kv s.m (pQ (dc s) u);congr 1;funext j;rw[B7];unfold pQ eC;rw[if_neg (show¬bf (cq s j).n (cq s j).k u from hout)];rfl
theorem HW (hs:cO s) (hin:¬bf s.a s.ku u) (hj:j<s.m):0<(eC (cq s j) u).d:=by
 have hiv:=hs.ku.lf hin;have hIs:=hs.ku.xp hin;have h1:=hs.n;have h2:=hs.u0;unfold eC;rw[if_neg (show¬bf (cq s j).n (cq s j).k u from hin)];show 0<bU (s.u.toNat+1) fun i=>vB s.ku (bJ s.a s.ku u) u s.u.toNat i*(s.f (bJ s.a s.ku u-s.u.toNat+i) j).d;exact PV (fun i _=>Lc hIs.at_ hIs.lo hIs.hi hiv.1 aa i) (fun i hi=>hs.w _ j aa hj) (by rw[Pj];decide)
theorem alw (hs:cO s) (hu:¬bf s.a s.ku u):fB s u v=kU (AI (dc s) u) v:=by
 have hG:AI (dc s) u=vN (dc s) u:=if_neg hu;unfold fB;rw[if_neg hu];by_cases hv:bf s.b s.kv v
 ·rw[if_pos hv,hG];unfold kU;rw[if_pos (show bf (vN (dc s) u).n (vN (dc s) u).k v from hv)]
 ·rw[if_neg hv,Mv,<-Y7];have hiv:=hs.kv.lf hv;have h1:=hs.m;have h2:=hs.v0;rw[show jQ s u=⟨s.v,s.b,s.kv,s.m,fun j=>dG (eC (cq s j) u)⟩from if_neg hu,CL hu];unfold kU eC;rw[if_neg (show¬bf s.b s.kv v from hv),if_neg (show¬bf s.b s.kv v from hv)];congr 1;have key:∀(g:Pl->Rat) (x:Nat->Rat),bU (s.v.toNat+1) (fun j=>x j*g (eC (cq s (bJ s.b s.kv v-s.v.toNat+j)) u))=bU (s.v.toNat+1) (fun j=>x j*g (cy (dG (eC (cq s (bJ s.b s.kv v-s.v.toNat+j)) u)))):=fun g x=>
   oz fun j hj=>by rw[QU (by have:=HW hs hu (j:=bJ s.b s.kv v-s.v.toNat+j) aa;grind)]
  have ext:∀{a b c d a' b' c' d':Rat},a=a'->b=b'->c=c'->d=d'->Pl.mk ⟨a,b,c⟩ d=Pl.mk ⟨a',b',c'⟩ d':=by intros;subst_vars;rfl
  exact ext (key (fun h=>h.n.x) _) (key (fun h=>h.n.y) _) (key (fun h=>h.n.z) _) (key (fun h=>h.d) _)
theorem Vh:aU 73 f73:=aS func73
theorem Ve:aU 78 f78:=aS func78
theorem Td:aU 80 f80:=aS func80
def ry:aX:=nG::(73,BP)::(80,BP)::(78,LO)::[]
def M4:Spec:=cz (kC (kL 2048) (kC AR kN)) (fun _=>.int .i64 (-1)) fun a=>[a.1.1<2^40,a.2.1=73\/a.2.1=80]
def Hp:Spec:=cz (kC (kL 2048) (kC AR kN)) (fun _=>.bool false) fun a=>[a.1.1<2^40,a.2.1=73\/a.2.1=80]
def OK:aX:=nG::(138,M4)::[]
def Qg:Spec:=cz (kC (nh 2048) (kC AR kN)) (fun _=>.int .i64 (-1)) fun a=>[a.1.1<2^40,∀i,i<a.1.1->0<(a.1.2 i).d,a.2.1=78]
def Hf:Spec:=cz (kC (nh 2048) (kC AR kN)) (fun _=>.bool false) fun a=>[a.1.1<2^40,∀i,i<a.1.1->0<(a.1.2 i).d,a.2.1=78]
def Jd:aX:=nG::(154,Qg)::[]
theorem WG {q:Rat}:bX T Dw [] 60 f73 (aE f73) ⟨aN 0 [.rat q n],[],0⟩=
  some (aj [(0:Nat)<1,n<2^44] (leaf ret [AV.bool false])):=ah
theorem alK {q:Rat}:bX T Dw [] 60 f80 (aE f80) ⟨aN 0 [.rat q n],[],0⟩=
  some (aj [(0:Nat)<1,n<2^44] (leaf ret [AV.bool (decide ((↑(dj q):Int)>2048))])):=ah
theorem VX {p:Pl}:bX T Dw [] 60 f78 (aE f78) ⟨aN 0 [bH p 2048],[],0⟩=
  some (aj [(0:Nat)<1,(2048:Nat)<2^42] (leaf ret [AV.bool (decide (fy p.d<=0))])):=ah
theorem QA {g:FuncId}:aI T ry [] 60 l7 (before qC [1,0,1]) ⟨aN 0 [bu k n 2048,.func g []],[],0⟩=
  some (leaf normal ([int i64 0,ak 3 n fun i=>rat (k i) 2048,func g [],int i64 (↑n:Int),int i64 0],[])):=ah
theorem Xz:aI T ry [9] 60 l7 [part qC [1,0,1,0,0]] ⟨aA l7 (zV n i k 73),[],0⟩=
  let d:=(↑n:Int);let e:=ak 3 n fun i=>rat (k i) 2048;let a:=(↑i:Int);let b:=a+1;some (fork (decide (a<d)) (aj [(0:Int)<=a/\a.toNat<n,(2048:Nat)<=2048] (aj [-(2:Int)^63<=b/\b<2^63] (leaf normal ([int i64 0,e,func 73 [],int i64 d,int i64 b],[])))) (leaf (exit 0) ([int i64 0,e,func 73 [],int i64 d,int i64 a],[]))):=ah
theorem adO:aI T ry [9] 60 l7 [part qC [1,0,1,0,0]] ⟨aA l7 (zV n i k 80),[],0⟩=
  let d:=(↑n:Int);let e:=ak 3 n fun i=>rat (k i) 2048;let a:=(↑i:Int);let b:=a+1;some (fork (decide (a<d)) (aj [(0:Int)<=a/\a.toNat<n,(2048:Nat)<=2048] (aj [-(2:Int)^63<=b/\b<2^63] (leaf normal ([int i64 0,e,func 80 [],int i64 d,int i64 b],[])))) (leaf (exit 0) ([int i64 0,e,func 80 [],int i64 d,int i64 a],[]))):=ah
theorem PA {g:FuncId}:ct T ry [] 60 f138 [part qC [1,1]] ⟨aA l7 (zV n i k g),[],0⟩=
  some (leaf ret [int i64 (-1:Int)]):=ah
theorem ac5:aI T ry [] 60 l7 (before wZ [1,0,1]) ⟨aN 0 [aT f n 2048,.func 78 []],[],0⟩=
  some (leaf normal ([int i64 0,ak 12 n fun i=>bH (f i) 2048,func 78 [],int i64 (↑n:Int),int i64 0],[])):=ah
theorem afG:aI T ry [9] 60 l7 [part wZ [1,0,1,0,0]] ⟨aA l7 (Gw n i f 78),[],0⟩=
  let e:=(↑n:Int);let h:=2048<=2048;let a:=(↑i:Int);let g:=ak 12 n fun i=>bH (f i) 2048;let b:=a+1;some (fork (decide (a<e)) (aj [(0:Int)<=a/\a.toNat<n,h,h,Max.max 2048 2048<=2048,(0:Rat)<(f a.toNat).d] (aj [-(2:Int)^63<=b/\b<2^63] (leaf normal ([int i64 0,g,func 78 [],int i64 e,int i64 b],[])))) (leaf (exit 0) ([int i64 0,g,func 78 [],int i64 e,int i64 a],[]))):=ah
theorem aik:ct T ry [] 60 f154 [part wZ [1,1]] ⟨aA l7 (Gw n i f 78),[],0⟩=
  some (leaf ret [int i64 (-1:Int)]):=ah
theorem adG {g:FuncId}:bX T OK [] 60 f72 (aE f72) ⟨aN 0 [bu k n 2048,.func g []],[],0⟩=
  some (aj [bh (fun i=>rat (k i) 2048) n 2048,n<2^40,g=73\/g=80] (leaf ret [AV.bool false])):=ah
theorem Uc:bX T Jd [] 60 f77 (aE f77) ⟨aN 0 [aT f n 2048,.func 78 []],[],0⟩=
  some (aj [iX (fun i=>bH (f i) 2048) n 2048,n<2^40,∀(i:Nat),i<n->0<aF (rat (f i).d 2048),78=78] (leaf ret [AV.bool false])):=ah
theorem ahf:aW P BP 73:=by
 refine cK fun K args r hk hs _=>?_;split at hs
 ·rename_i q n;simp only[az]at hs;subst hs;intro need;have hn:n<=2048:=need;refine b9 (r:=aJ (.bool false) [n<=2048]) hT F8 hm Vh rfl aV rfl 60 WG (fun _=>?_) K [] need;simp only[ag.all,ay]
  (repeat' with_reducible refine And.intro ?_ ?_)
  all_goals first|omega|exact .refl _|skip
 ·simp at hs
theorem VJ:aW P BP 80:=by
 refine cK fun K args r hk hs _=>?_;split at hs
 ·rename_i q n;simp only[az]at hs;subst hs;intro need;have hn:n<=2048:=need;refine(jn (P:=P) (f:=80) (K:=K) (args:=[.rat q n]) (pre:=[]) (v:=.bool false) (l:=[n<=2048]) fun⟨hs1,_⟩=>?_) need;have h1:=Tl.1 hs1;refine b9 (r:=aJ (.bool false) [n<=2048]) hT F8 hm Td rfl aV rfl 60 alK (fun _=>?_) K [];simp only[ag.all,ay]
  (repeat' with_reducible refine And.intro ?_ ?_)
  all_goals first|omega|skip
  exact gQ (decide_eq_false aa)
 ·simp at hs
theorem ajK:aW P LO 78:=cr fun⟨p,_⟩ K hn=>by
 have hd:0<p.d:=hn;refine b9 (r:=aJ (.bool false) []) hT F8 hm Ve rfl aV rfl 60 VX (fun _=>?_) K [];have hs:fy p.d=1:=by
  unfold fy;rw[if_neg (by grind),if_pos hd]
 simp only[ag.all,ay,hs]
 (repeat' with_reducible refine And.intro ?_ ?_)
 all_goals first|omega|decide|exact .refl _|skip
theorem Gh:bn P ry:=cB (aH ahf (aH VJ (aH ajK bw)))
theorem TT {g:FuncId} (hn:n<2^40) (hg:g=73\/g=80) (K:Nat):aQ P 138 K [bu k n 2048,.func g []] [] (aJ (.int .i64 (-1)) []):=by
 rcases hg with rfl|rfl
 ·refine gP (r:=aJ (.int .i64 (-1)) []) hT Gh hm Ja rfl aV rfl [1,0,1] (i:=0) (y:=part qC [1,0,1,0,0]) (z:=part qC [1,1]) ah ah ah (f1:=[]) (f2:=[9]) (f3:=[]) 60 l7 0
   (fun i:Nat=>zV n i k 73) (fun _=>[]) (fun i=>i<=n) (fun i=>i=n) (fun i=>n-i) (fun _=>⟨⟨_,QA,?_⟩,fun i hi=>⟨_,Xz,?_⟩,fun i hi=>⟨_,PA,?_⟩⟩) K []
  ·simp only[ag.all,ay];exact⟨0,Nat.zero_le _,[],rfl,rfl,rfl,trivial⟩
  ·simp only[ag.all,ay,br,bC,bg];exact⟨fun h=>⟨⟨aa,aa⟩,aa,i+1,aa,by dsimp only;omega,[],rfl,rfl,rfl,trivial⟩,fun h=>⟨rfl,i,aa,[],rfl,rfl,rfl,trivial⟩⟩
  ·simp only[ag.all,ay];exact .refl _
 ·refine gP (r:=aJ (.int .i64 (-1)) []) hT Gh hm Ja rfl aV rfl [1,0,1] (i:=0) (y:=part qC [1,0,1,0,0]) (z:=part qC [1,1]) ah ah ah (f1:=[]) (f2:=[9]) (f3:=[]) 60 l7 0
   (fun i:Nat=>zV n i k 80) (fun _=>[]) (fun i=>i<=n) (fun i=>i=n) (fun i=>n-i) (fun _=>⟨⟨_,QA,?_⟩,fun i hi=>⟨_,adO,?_⟩,fun i hi=>⟨_,PA,?_⟩⟩) K []
  ·simp only[ag.all,ay];exact⟨0,Nat.zero_le _,[],rfl,rfl,rfl,trivial⟩
  ·simp only[ag.all,ay,br,bC,bg];exact⟨fun h=>⟨⟨aa,aa⟩,aa,i+1,aa,by dsimp only;omega,[],rfl,rfl,rfl,trivial⟩,fun h=>⟨rfl,i,aa,[],rfl,rfl,rfl,trivial⟩⟩
  ·simp only[ag.all,ay];exact .refl _
theorem Ug:aW P M4 138:=cr fun⟨⟨n,k⟩,g,_⟩ K hn=>TT hn.1 hn.2 K
theorem aj9:bn P OK:=cB (aH Ug bw)
theorem LD:aW P Hp 72:=cr fun⟨⟨n,k⟩,g,_⟩ K hn=>by
 refine b9 (r:=aJ (.bool false) []) hT aj9 hm WJ rfl aV rfl 60 adG (fun _=>?_) K [];simp only[ag.all,ay];exact⟨⟨bL bq,hn.1,hn.2⟩,.refl _⟩
theorem agC (hn:n<2^40) (hf:∀i,i<n->0<(f i).d) (K:Nat):aQ P 154 K [aT f n 2048,.func 78 []] [] (aJ (.int .i64 (-1)) []):=by
 refine gP (r:=aJ (.int .i64 (-1)) []) hT Gh hm WR rfl aV rfl [1,0,1] (i:=0) (y:=part wZ [1,0,1,0,0]) (z:=part wZ [1,1]) ah ah ah (f1:=[]) (f2:=[9]) (f3:=[]) 60 l7 0
  (fun i:Nat=>Gw n i f 78) (fun _=>[]) (fun i=>i<=n) (fun i=>i=n) (fun i=>n-i) (fun _=>⟨⟨_,ac5,?_⟩,fun i hi=>⟨_,afG,?_⟩,fun i hi=>⟨_,aik,?_⟩⟩) K []
 ·simp only[ag.all,ay];exact⟨0,Nat.zero_le _,[],rfl,rfl,rfl,trivial⟩
 ·simp only[ag.all,ay,br,bC,bg];exact⟨fun h=>⟨⟨aa,aa,aa,by decide,hf i aa⟩,aa,i+1,aa,by dsimp only;omega,[],rfl,rfl,rfl,trivial⟩,fun h=>⟨rfl,i,aa,[],rfl,rfl,rfl,trivial⟩⟩
 ·simp only[ag.all,ay];exact .refl _
theorem Yr:aW P Qg 154:=cr fun⟨⟨n,f⟩,g,_⟩ K hn=>by
 have hg:g=78:=hn.2.2;subst hg;exact agC hn.1 hn.2.1 K
theorem Zs:bn P Jd:=cB (aH Yr bw)
theorem QM:aW P Hf 77:=cr fun⟨⟨n,f⟩,g,_⟩ K hn=>by
 have hg:g=78:=hn.2.2;subst hg;refine b9 (r:=aJ (.bool false) []) hT Zs hm ajw rfl aV rfl 60 Uc (fun _=>?_) K [];simp only[ag.all,ay];exact⟨⟨mQ bq,hn.1,hn.2.1,by trivial⟩,.refl _⟩
theorem Uq:aU 198 f198:=aS func198
theorem Zg:aU 147 f147:=aS func147
theorem ahR:aU 7 f7:=aS func7
abbrev JU:FuncId:=198
abbrev Yi:Func:=f198
abbrev Qi:FuncId:=147
abbrev X6:Func:=f147
def L9:Spec:=o6 fun K l=>match l with
 |[.nil,.int .i64 n]=>some ⟨iK [.own K 3 0 0],[(K,⟨true,true,3,n.toNat,fun _=>.rat 0 1⟩)],[0<n/\n<2^30]⟩
 |_=>none
abbrev Er (na nb:Nat) (f g:Nat->Rat):AV:=.ak 1 2 fun i=>nth [bu f na 2048,bu g nb 2048] .nil i
def vi (na:Nat) (f g:Nat->Rat) (i:Nat):Rat:=if i<na then f i else g (i-na)
def OE:Spec:=o6 fun K l=>match l with
 |[.ak 1 2 h]=>match h 0,h 1 with
  |.ak 3 na f,.ak 3 nb g=>some ⟨iK [.own K 3 0 (na+nb)],[(K,⟨true,true,3,na+nb,fun i=>.rat (vi na (fun i=>aF (f i)) (fun i=>aF (g i)) i) 2048⟩)],[bh f na 2048,bh g nb 2048,0<na+nb,na+nb<2^30]⟩
  |_,_=>none
 |_=>none
def qq:aX:=nG::(Qi,OE)::[]
def Mp:aX:=nG::(71,iR T qq [] 400 f71)::(72,Hp)::(77,Hf)::(75,vg)::(76,Dp)::[]
def NR:Spec:=ck fun l=>match l with
 |[.rat q _]=>match decide (q=1/4),decide (q=1)with
  |true,_=>some (aJ (.str [49,47,52]) [])
  |false,true=>some (aJ (.str [49]) [])
  |_,_=>none
 |_=>none
def My:aX:=sG::(37,BB)::(38,F4)::(17,iR T Mp [200018,200026] 400 f17)::(46,iR T (sG::oT) [] 200 f46)::(45,uA)::(47,NR)::oT
theorem UH {n:Int}:aI T [nG] [200006,100016] 60 [4] [aE Yi] ⟨aN 0 [.nil,.int .i64 n],[],0⟩=
  let e:=(0:Int)<=0;let d:=(2:Int)^63;let b:=(↑(0:Nat):Int);let a:=(0:Int)-b;let f:=(n-a).toNat;some (aj [decide (n<0)=false] (aj [-d<=a/\a<d,-d<=n-a/\n-a<d] (aj [decide (n-a>0)=true] (aj [e/\e/\e/\(0:Int)<=b,(0:Int)<n-a/\f*((56:Nat)+1)*2<=2^47,e/\(0:Int)<=b/\b<=b/\b<=(↑f:Int)] (leaf ret ([own 73728 3 0 0],[(73728,aq.mk true true 3 f fun x=>rat 0 1)])))))):=ah
theorem ab8 {na nb:Nat} {f:Nat->Rat}:aI T [nG,(JU,L9)] [200020] 60 [2] [aE X6] ⟨aN 0 [Er na nb f g],[],0⟩=
  let j:=(0:Int)<=0/\Int.toNat (0:Int)<2;let d:=0+na;let h:=(0:Int)+(↑na:Int);let b:=(0:Int)+1;let a:=(2:Int)^63;let l:=(0:Int)<=b/\b.toNat<2;let k:=-a<=b+1/\b+1<a;let e:=h+(↑nb:Int);some (aj [j] (aj [-a<=h/\h<a] (aj [decide (h<0)=false] (aj [-a<=b/\b<a] (aj [l] (aj [-a<=e/\e<a] (aj [decide (e<0)=false] (aj [k] (aj [(0:Int)<e/\e<2^30] (aj [j] (aj [d*((56:Nat)+1)*2<=2^47] (aj [-a<=b/\b<a] (aj [l] (aj [(d+nb)*((56:Nat)+1)*2<=2^47] (aj [k] (leaf ret ([own 221184 3 0 (d+nb)],[(221184,aq.mk true true 3 (d+nb) fun i=>if i<d then if i<0 then rat 0 1 else rat (f (i-0)) 2048 else rat (g (i-d)) 2048)]))))))))))))))))):=ah
theorem Yq:bX T CX [] 60 f47 (aE f47) ⟨aN 0 [.agg [.bool false,.mag 1,.mag 0]],[],0⟩=
  some (leaf ret [str [(49:UInt8)]]):=ah
theorem aa7:bX T My [100023,100027,100033,100037,100043] 400 f7 (aE f7) ⟨aN 0 [],[],0⟩=
  let K:=78=78;let J:List UInt8:=[(49:UInt8),(47:UInt8),(52:UInt8)];let I:=(↑(1:Int):Rat)/(↑(2:Int):Rat);let x:=2^47;let w:=56+1;let h:=2^40;let p:=4*3<=2^24;let n:=(0:Int)<=0/\Int.toNat (0:Int)<2;let k:=4+4;let B:=(↑(3:Nat):Int);let f:=(2:Int)^63;let g:=(0:Int)+1;let a:=0<1;let N:=agg [AV.bool (decide ((0:Rat)<0)),mag (↑(nat_lit 0):Int).natAbs,mag (if 1=1 then 0 else 1)];let b:=rat 0 1;let e:=rat (↑(1:Int):Rat) (Max.max 1 (bT (Int.natAbs (1:Int))));let z:=k+4;let D:=[agg [agg [b,b,b],e],agg [agg [N,e,b],e]];let C:=[agg [agg [e,b,b],e],agg [agg [e,e,e],e]];let y:=-f<=g/\g<f;let j:=agg [agg [b,b,b],b];let u:=(0:Int)<=1/\(1:Int)<B;let t:=(0:Int)<=g/\g.toNat<2;let s:=(0:Int)<=0/\(0:Int)<B;let q:=(0:Int)<=2/\(2:Int)<B;let o:=-f<=g+1/\g+1<f;let r:=[N,N,e,e];let G:=bh (fun i=>nth r b (i+0)) 4 2048;let E:=(fq 4 (fun i=>aF (nth r b (i+0))) (1:Int)!=0)=false;let m:=bh (fun i=>nth r b (i+0)) 4 sJ;let l:=bh (fun i=>nth r b (i+0)) 4 2000;let O:=z+4;let L:=[ak 12 2 fun i=>nth D j (i+0),ak 12 2 fun i=>nth C j (i+0)];let H:=dn (nth L nil ((0:Nat)+0));let F:=dN (fun i=>nth L nil (i+0)) 2 2000;let v:=O+4;let A:=v+4;let M:Sf:=Sf.mk (1:Int) (1:Int) 4 (fun i=>aF (nth r b (i+0))) 4 (fun i=>aF (nth r b (i+0))) 2 H (dh fun i=>nth L nil (i+0));let P:=bh (fun i=>if i+0<v then if i+0<O then if i+0<z then if i+0<k then rat (vi 4 (fun i=>aF (nth r b (i+0))) (fun i=>aF (nth r b (i+0))) (i+0)) 2048 else nth [b,b,b,e] b (i+0-k+0)else nth [N,e,b,e] b (i+0-z+0)else nth [e,b,b,e] b (i+0-O+0)else nth [e,e,e,e] b (i+0-v+0)) A 2048;some (aj [-f<=1,(1:Int)<f,-f<=2,(2:Int)<f] (aj [a,l,l,F,(64:Nat)<=sK,(64:Nat)<=sK,cO M] (aj [a,l,l,F,(1:Nat)<=sK,cO M] (aj [a,a,a,a,(2:Nat)*1<=2^24,G,G,(0:Nat)<k,k<2^30,a,n,n,a,s,a,u,a,q,a,a,p,z*w*2<=x,y,t,a,s,a,u,a,q,a,a,p,O*w*2<=x,o,y,t,n,a,s,a,u,a,q,a,a,p,v*w*2<=x,y,t,a,s,a,u,a,q,a,a,p,A*w*2<=x,o,o,P,A<h,73=73\/73=80,a,a,m,(4:Nat)<h,E,a,a,m,(4:Nat)<h,E,a,m,m,dN (fun i=>nth L nil (i+0)) 2 sJ,cO M,a,n,iX (fun i=>nth D j (i+0)) 2 2048,(2:Nat)<h,∀(i:Nat),i<2->0<(mP (nth D j (i+0))).d,K,y,t,iX (fun i=>nth C j (i+0)) 2 2048,(2:Nat)<h,∀(i:Nat),i<2->0<(mP (nth C j (i+0))).d,K,o,P,A<h,80=73\/80=80,((0:Int)==0)=true,(bif true then nq M I I==0 else false)=true,(bif true then J==J else false)=true,(bif true then cA 4 (fun i=>aF (nth r b (i+0))) 0==(0:Int)else false)=true,(bif true then(↑H:Int)==2 else false)=true] (leaf ret [AV.bool true]))))):=ah
theorem afB:aW P L9 JU:=by
 refine sA fun K args r hk hs=>?_;split at hs
 ·rename_i n;simp only[az]at hs;subst hs;refine Cz hT Uq (fun _=>uu hk rfl (show fP [.nil,.int .i64 n] [.nil,.int .i64 n]from⟨.refl _,.refl _,trivial⟩)) aV fun need c hkp=>?_;have need:0<n/\n<2^30:=need;obtain⟨h1,h2⟩:=need;refine ax.bE hT (cB bw) hm 60 [4] UH ah ?_;have e:n-(0-((0:Nat):Int))=n:=aa;simp only[ag.all,ay,e];exact⟨decide_eq_false aa,⟨aa,aa⟩,decide_eq_true aa,⟨aa,aa,aa⟩,fun s' hs'=>⟨by simp,[4],_,[.own 73728 3 0 0],_,73728,_,hs',ah,⟨⟨rfl,cN (by simp[bk,look]) rfl rfl⟩,trivial⟩,rfl,ji rfl fun i hi=>gm rfl⟩⟩
 ·simp at hs
theorem afD:aW P OE Qi:=by
 refine sA fun K args r hk hs=>?_;split at hs
 ·rename_i h;split at hs
  ·rename_i na f nb g h0 h1;simp only[az]at hs;subst hs;refine Cz hT Zg (args0:=[Er na nb (fun i=>aF (f i)) (fun i=>aF (g i))]) (fun need=>uu hk rfl (show fP [.ak 1 2 h] [Er na nb (fun i=>aF (f i)) (fun i=>aF (g i))]from⟨fI fun i hi=>?_,trivial⟩)) aV fun need c hkp=>?_
   ·obtain⟨n1,n2,n3,n4⟩:=need
    match i,hi with
    |0,_=>rw[h0];exact yo n1
    |1,_=>rw[h1];exact yo n2
   ·obtain⟨n1,n2,n3,n4⟩:bh f na 2048/\bh g nb 2048/\0<na+nb/\na+nb<2^30:=need;refine ax.bE hT (cB (aH afB bw)) hm 60 [2] ab8 ah ?_;simp only[ag.all,ay]
    (repeat' with_reducible refine And.intro ?_ ?_)
    all_goals first|omega|exact decide_eq_false aa|skip
    intro s' hs';refine⟨by simp,[2],_,[.own 221184 3 0 (0+na+nb)],_,221184,_,hs',ah,⟨⟨rfl,cN (by simp[bk,look]) rfl aa⟩,trivial⟩,rfl,ji aa fun i hi=>?_⟩;have e:(if i<0+na then if i<0 then AV.rat 0 1 else .rat (aF (f (i-0))) 2048 else .rat (aF (g (i-(0+na)))) 2048)=AV.rat (vi na (fun i=>aF (f i)) (fun i=>aF (g i)) i) 2048:=by
     unfold vi;rw[Nat.zero_add,Nat.sub_zero,if_neg (Nat.not_lt_zero i)];split<;>rfl
    show gq _ (if i<0+na then if i<0 then AV.rat 0 1 else .rat (aF (f (i-0))) 2048 else .rat (aF (g (i-(0+na)))) 2048) _;rw[e];exact gm rfl
  ·simp at hs
 ·simp at hs
theorem akm:aW P NR 47:=by
 refine cK fun K args r hk hs _=>?_;have fin:∀{q:Rat} {n a b:Nat} {t:ag (List AV)} {l:List UInt8},kids (.rat q n)=[.bool false,.mag a,.mag b]->bX T CX [] 60 f47 (aE f47) ⟨aN 0 [.agg [.bool false,.mag a,.mag b]],[],0⟩=some t->(t.all fun _ us=>fF us (.str l))->aQ P 47 K [.rat q n] [] (aJ (.str l) []):=fun h0 h1 h2=>
  gW (b9 (r:=aJ _ []) hT Ut hm alV rfl aV rfl 60 h1 (fun _=>h2) K []) rfl (show fP [_] [_]from⟨by rw[<-h0];exact K2,trivial⟩) []
 split at hs
 ·rename_i q n;split at hs
  all_goals simp only[az,reduceCtorEq]at hs
  all_goals subst hs
  ·obtain rfl:q=1/4:=of_decide_eq_true ‹_›;exact fin ah TB (.refl _)
  ·obtain rfl:q=1:=of_decide_eq_true ‹decide (q=1)=true›;exact fin ah Yq (.refl _)
 ·simp at hs
theorem Hr:bn P qq:=cB (aH afD bw)
theorem amk:bn P Mp:=cB (aH (je hT Hr hm (aS func71) _ _) (aH LD (aH QM (aH D3 (aH Ic bw)))))
theorem X4:bn P My:=kq (aH DR (aH R7 (aH (je hT amk hm (aS func17) _ _) (aH (je hT (kq qv) hm (aS func46) _ _) (aH yx (aH akm qv))))))
theorem He {f:Nat->Rat} (h:∀i,i<4->f i=nE 1 0 (fun _=>((0:Int):Rat)) ((0:Int):Rat) i):Kn 4 1 f:=
 ((KG.start (p:=1) aa (z:=0) aa aa).done:Kn (2*1+2+0) 1 _).congr fun i hi=>(h i hi).symm
set_option maxHeartbeats 1000000 in
theorem agS (K:Nat):aQ P 7 K [] [] (aJ (.bool true) []):=by
 refine b9 (r:=aJ (.bool true) []) hT X4 hm ahR rfl aV rfl 400 aa7 (fun _=>?_) K [];simp only[ag.all,ay]
 (repeat' with_reducible first|refine And.intro ?_ ?_)
 all_goals first|omega|decide|exact .inl trivial|exact .inr trivial|trivial|exact .refl _|skip
 all_goals first|decide+kernel|skip
 all_goals first
  |exact bne_eq_false_iff_eq.2 ((He fun i hi=>by
    match i,hi with
    |0,_|1,_|2,_|3,_=>decide+kernel).uM (by decide) (by decide))
  |refine⟨He fun i hi=>?_,He fun i hi=>?_,by decide,by decide,by decide,by decide,by decide,by decide,by decide,by decide,fun i j hi hj=>?_⟩
  |intro i hi
 all_goals first
  |match i,hi with
   |0,_|1,_|2,_|3,_=>decide+kernel
  |match i,hi,j,hj with
   |0,_,0,_|0,_,1,_|1,_,0,_|1,_,1,_=>decide+kernel
  |skip
 all_goals first
  |match i,hi with
   |0,_|1,_=>exact jB
   |2,_|3,_=>exact dU (by decide)
  |match i,hi with
   |0,_|1,_=>first|exact cM ⟨cM ⟨dU (by decide),dU (by decide),dU (by decide),trivial⟩,dU (by decide),trivial⟩|exact cM ⟨cM ⟨jB,dU (by decide),dU (by decide),trivial⟩,dU (by decide),trivial⟩
  |match i,hi with
   |0,_|1,_=>
    refine fI fun j hj=>?_
    match j,hj with
    |0,_|1,_=>first|exact cM ⟨cM ⟨dU (by decide),dU (by decide),dU (by decide),trivial⟩,dU (by decide),trivial⟩|exact cM ⟨cM ⟨jB,dU (by decide),dU (by decide),trivial⟩,dU (by decide),trivial⟩
  |(replace hi:i<24:=hi
    rcases(by omega:i=0\/i=1\/i=2\/i=3\/i=4\/i=5\/i=6\/i=7\/i=8\/i=9\/i=10\/i=11\/i=12\/i=13\/i=14\/i=15\/i=16\/i=17\/i=18\/i=19\/i=20\/i=21\/i=22\/i=23)with rfl|rfl|rfl|rfl|rfl|rfl|rfl|rfl|rfl|rfl|rfl|rfl|rfl|rfl|rfl|rfl|rfl|rfl|rfl|rfl|rfl|rfl|rfl|rfl<;>first|exact bV.refl _|exact jB|exact dU (by decide))
  |skip
def Ny:Spec:=ck fun l=>match l with
 |[]=>some (aJ (.bool true) [])
 |_=>none
theorem Vo:aW P Ny 7:=by
 refine cK fun K args r hk hs _=>?_;split at hs
 ·simp only[az]at hs;subst hs;exact fun need=>agS K need
 ·simp at hs
theorem QT:aU 71 f71:=aS func71
theorem abt:aU 17 f17:=aS func17
def jR (s:Sf) (j:Nat):Rat:=if j<s.a+s.b then vi s.a s.ku s.kv j else bY (s.f ((j-(s.a+s.b))/4/s.m) ((j-(s.a+s.b))/4%s.m)) ((j-(s.a+s.b))%4)
abbrev yH:Code:=aE f71
abbrev w7:Code:=part yH [1,1,0,1,0,0]
abbrev xX:Code:=part w7 [1,1,0,0]
abbrev sk:List Nat:=[2,3,15,16,17]
abbrev xS (s:Sf) (l i:Nat):List AV:=[.nil,.own 0 3 0 l,fK s.f s.n s.m 2048,.int .i64 s.n,.int .i64 i]
abbrev zW:List Nat:=[2,3,15,16,17,21,22,23]
abbrev G0 (s:Sf) (l i j:Nat):List AV:=[.nil,.own 0 3 0 l,fK s.f s.n s.m 2048,.int .i64 s.n,.int .i64 i,aT (s.f i) s.m 2048,.int .i64 s.m,.int .i64 j]
abbrev rC (F:Nat->Rat) (l:Nat):aC:=[(0,⟨true,true,3,l,fun j=>.rat (F j) 2048⟩)]
theorem amb:aI T qq [] 60 sk (before yH [1,1,0,1]) ⟨aN 0 [bM s 2048 2048],[],0⟩=
  let e:=0<1;some (aj [e,e,(2:Nat)*1<=2^24,bh (fun i=>rat (s.ku i) 2048) s.a 2048,bh (fun i=>rat (s.kv i) 2048) s.b 2048,(0:Nat)<s.a+s.b,s.a+s.b<2^30] (aj [e] (leaf normal ([nil,own 28672 3 0 (s.a+s.b),ak 1 s.n fun i=>ak 12 s.m fun i_1=>agg [agg [rat (s.f i i_1).n.x 2048,rat (s.f i i_1).n.y 2048,rat (s.f i i_1).n.z 2048],rat (s.f i i_1).d 2048],int i64 (↑s.n:Int),int i64 0],[(28672,aq.mk true true 3 (s.a+s.b) fun i=>rat (vi s.a (fun i=>aF (rat (s.ku i) 2048)) (fun i=>aF (rat (s.kv i) 2048)) i) 2048)])))):=ah
theorem agr:aI T qq [18] 60 sk (before w7 [1,1,0]) ⟨aA sk (xS s l i),rC F l,1⟩=
  let a:List AV×aC:=([nil,own 0 3 0 l,ak 1 s.n fun i=>ak 12 s.m fun i_1=>agg [agg [rat (s.f i i_1).n.x 2048,rat (s.f i i_1).n.y 2048,rat (s.f i i_1).n.z 2048],rat (s.f i i_1).d 2048],int i64 (↑s.n:Int),int i64 (↑i:Int)],[(0,aq.mk true true 3 l fun j=>rat (F j) 2048)]);some (fork (decide ((↑i:Int)<(↑s.n:Int))) (leaf normal a) (leaf (exit 0) a)):=ah
theorem abp:aI T qq [] 60 zW (before xX [1,1]) ⟨aA sk (xS s l i),rC F l,1⟩=
  let a:=(↑i:Int).toNat;some (aj [(0:Int)<=(↑i:Int)/\a<s.n] (leaf normal ([nil,own 0 3 0 l,ak 1 s.n fun i=>ak 12 s.m fun i_1=>agg [agg [rat (s.f i i_1).n.x 2048,rat (s.f i i_1).n.y 2048,rat (s.f i i_1).n.z 2048],rat (s.f i i_1).d 2048],int i64 (↑s.n:Int),int i64 (↑i:Int),ak 12 s.m fun i=>agg [agg [rat (s.f a i).n.x 2048,rat (s.f a i).n.y 2048,rat (s.f a i).n.z 2048],rat (s.f a i).d 2048],int i64 (↑s.m:Int),int i64 0],[(0,aq.mk true true 3 l fun j=>rat (F j) 2048)]))):=ah
theorem acw:aI T qq [24] 60 zW [part xX [1,1,0,0]] ⟨aA zW (G0 s l i j),rC F l,1⟩=
  let h:=(↑s.m:Int);let g:=(↑(3:Nat):Int);let b:=0<1;let a:=(↑j:Int);let p:=ak 12 s.m fun i_1=>agg [agg [rat (s.f i i_1).n.x 2048,rat (s.f i i_1).n.y 2048,rat (s.f i i_1).n.z 2048],rat (s.f i i_1).d 2048];let o:=ak 1 s.n fun i=>ak 12 s.m fun i_1=>agg [agg [rat (s.f i i_1).n.x 2048,rat (s.f i i_1).n.y 2048,rat (s.f i i_1).n.z 2048],rat (s.f i i_1).d 2048];let k:=a+1;let e:Pl:=s.f i a.toNat;some (fork (decide (a<h)) (aj [(0:Int)<=a/\a.toNat<s.m,b] (aj [(0:Int)<=0/\(0:Int)<g,b,(0:Int)<=1/\(1:Int)<g,b,(0:Int)<=2/\(2:Int)<g,b,b,(4:Nat)*3<=2^24,(l+4)*((56:Nat)+1)*2<=2^47] (aj [-(2:Int)^63<=k/\k<2^63] (leaf normal ([nil,own 73729 3 0 (l+4),o,int i64 (↑s.n:Int),int i64 (↑i:Int),p,int i64 h,int i64 k],[(73729,aq.mk true true 3 (l+4) fun i=>if i<l then rat (F i) 2048 else nth [rat e.n.x 2048,rat e.n.y 2048,rat e.n.z 2048,rat e.d 2048] (rat 0 1) (i-l+0))]))))) (leaf (exit 2) ([nil,own 0 3 0 l,o,int i64 (↑s.n:Int),int i64 (↑i:Int),p,int i64 h,int i64 a],[(0,aq.mk true true 3 l fun j=>rat (F j) 2048)]))):=ah
theorem TC:aI T qq [] 60 sk (behind xX [1,1]++[part w7 [1,1,1]]) ⟨aA zW (G0 s l i j),rC F l,1⟩=
  let a:=(↑i:Int)+1;some (aj [-(2:Int)^63<=a/\a<2^63] (leaf normal ([nil,own 0 3 0 l,ak 1 s.n fun i=>ak 12 s.m fun i_1=>agg [agg [rat (s.f i i_1).n.x 2048,rat (s.f i i_1).n.y 2048,rat (s.f i i_1).n.z 2048],rat (s.f i i_1).d 2048],int i64 (↑s.n:Int),int i64 a],[(0,aq.mk true true 3 l fun j=>rat (F j) 2048)]))):=ah
theorem To:ct T qq [] 60 f71 [part yH [1,1,1]] ⟨aA sk (xS s l i),rC F l,1⟩=
  some (leaf ret [ak 3 l fun i=>rat (F (i+0)) 2048]):=ah
theorem alR {a:Nat} (hj:j<s.m) (ha:a<4):jR s (s.a+s.b+4*(i*s.m+j)+a)=bY (s.f i j) a:=by
 have e1:(i*s.m+j)/s.m=i:=by rw[Nat.mul_comm,Nat.mul_add_div aa,Nat.div_eq_of_lt hj,Nat.add_zero]
 have e2:(i*s.m+j)%s.m=j:=by rw[Nat.mul_comm,Nat.mul_add_mod,Nat.mod_eq_of_lt hj]
 unfold jR;rw[if_neg aa,show(s.a+s.b+4*(i*s.m+j)+a-(s.a+s.b))/4=i*s.m+j by omega,show(s.a+s.b+4*(i*s.m+j)+a-(s.a+s.b))%4=a by omega,e1,e2]
theorem abx {rl:List (Nat×Nat)} {k:Nat} (hl:l=s.a+s.b+4*(i*s.m+j)) (hj:j<s.m) (hk:k<l+4):gD rl (if k<l then .rat (jR s k) 2048 else nth [.rat (s.f i j).n.x 2048,.rat (s.f i j).n.y 2048,.rat (s.f i j).n.z 2048,.rat (s.f i j).d 2048] (.rat 0 1) (k-l+0)) (.rat (jR s k) 2048):=by
 by_cases h:k<l
 ·rw[if_pos h];exact cW rfl rfl
 ·rw[if_neg h];obtain⟨a,ha,rfl⟩:∃a,a<4/\k=l+a:=⟨k-l,aa,aa⟩
  have e:=alR (s:=s) (i:=i) hj ha;rw[<-hl]at e;rw[e,show l+a-l+0=a by omega];rcases four ha with rfl|rfl|rfl|rfl<;>exact cW rfl rfl
theorem Wn (h1:1<=s.a) (ha:s.a<2^20) (hb:s.b<2^20) (hn:s.n<2^10) (hm2:s.m<2^10) (K:Nat):aQ P 71 K [bM s 2048 2048] [] (aJ (bu (jR s) (s.a+s.b+4*(s.n*s.m)) 2048) []):=by
 refine fV (r:=aJ (bu (jR s) (s.a+s.b+4*(s.n*s.m)) 2048) []) hT QT rfl aV rfl (fun _ cx h00=>?_) K [];have hk:=iL h00;have hM:∀i j,i<=s.n->j<=s.m->i*s.m+j<=2^21:=fun i j hi hj=>by
  have:=Nat.mul_le_mul (show i<=2^10 by omega) (show s.m<=2^10 by omega);omega
 refine ax.vP hT Hr hm (x:=yH) [1,1,0,1] (i:=0) (y:=w7) (z:=part yH [1,1,1]) ah ah ah QT.dst [1,1,0] (j:=1) (x1:=xX) (zb:=part w7 [1,1,1]) ah ah ah [1,1] (i2:=2) (y2:=part xX [1,1,0,0]) ah ah rfl
  hk (f1:=[]) (f2:=[18]) (f3:=[]) (f4:=[24]) (f5:=[]) 60 sk zW 1 1 (fun i:Nat=>xS s (s.a+s.b+4*(i*s.m)) i) (fun i=>rC (jR s) (s.a+s.b+4*(i*s.m))) (fun i=>i<=s.n) (fun i=>i=s.n) (fun i=>s.n-i) (fun i=>i<s.n) (fun _=>False) (fun _=>False)
  (fun i (j:Nat)=>G0 s (s.a+s.b+4*(i*s.m+j)) i j) (fun i j=>rC (jR s) (s.a+s.b+4*(i*s.m+j))) (fun _ j=>j<=s.m) (fun _ j=>j=s.m) (fun _ j=>s.m-j) ⟨_,amb,?_⟩ (fun i hi=>⟨_,agr,?_⟩) (fun i hi hg=>⟨_,abp,?_⟩) (fun i hi hg j hj=>⟨_,acw,?_⟩) (fun i hi hg j hj=>⟨_,TC,?_⟩) (fun i hi=>?_) (fun _ _ h=>h.elim) (fun _ _ h=>h.elim)
 all_goals try simp only[ag.all,ay,br,bC,bg]
 ·refine⟨⟨aa,aa,aa,bL bq,bL bq,aa,aa⟩,aa,0,Nat.zero_le _,[(0,28672)],rfl,?_,rfl,cj rfl rfl (by show s.a+s.b=s.a+s.b+4*(0*s.m);omega) (fun j hj=>cW rfl ?_) trivial⟩
  ·show _=[_,AV.own 0 3 0 (s.a+s.b+4*(0*s.m)),_,_,_].map _;rw[show s.a+s.b+4*(0*s.m)=s.a+s.b by omega];rfl
  ·unfold jR;rw[if_pos (by have hj:j<s.a+s.b+4*(0*s.m):=hj;omega)];rfl
 ·exact⟨fun h=>⟨aa,[(0,0)],rfl,rfl,rfl,cX trivial⟩,fun h=>⟨rfl,i,aa,[(0,0)],rfl,rfl,rfl,cX trivial⟩⟩
 ·exact⟨aa,0,Nat.zero_le _,[(0,0)],rfl,rfl,rfl,cX trivial⟩
 ·have hMi:=hM i j aa hj;refine⟨fun h=>?_,fun h=>⟨rfl,j,aa,[(0,0)],rfl,rfl,rfl,cX trivial⟩⟩;refine⟨aa,⟨aa,aa,aa,aa,aa,aa,aa,aa,aa⟩,aa,j+1,aa,by dsimp only;omega,[(0,73729)],rfl,?_,rfl,cj rfl rfl ?_ (fun k hk=>abx rfl aa (by have hk:k<s.a+s.b+4*(i*s.m+(j+1)):=hk;omega)) trivial⟩
  ·show _=[_,AV.own 0 3 0 (s.a+s.b+4*(i*s.m+(j+1))),_,_,_,_,_,_].map _;rw[show s.a+s.b+4*(i*s.m+(j+1))=s.a+s.b+4*(i*s.m+j)+4 by omega];rfl
  ·show s.a+s.b+4*(i*s.m+(j+1))=s.a+s.b+4*(i*s.m+j)+4;omega
 ·subst hj;have e:s.a+s.b+4*((i+1)*s.m)=s.a+s.b+4*(i*s.m+s.m):=by rw[show(i+1)*s.m=i*s.m+s.m from Nat.succ_mul i s.m]
  refine⟨aa,i+1,aa,by dsimp only;omega,?_⟩;show cT [] _ (xS s (s.a+s.b+4*((i+1)*s.m)) (i+1)) (rC (jR s) (s.a+s.b+4*((i+1)*s.m))) 1;rw[e];exact⟨[(0,0)],rfl,rfl,rfl,cX trivial⟩
 ·subst hi;refine ax.hH ((aG.fin hT Hr hm 60 To ah ?_).mono fun _ _ h=>.inl h);simp only[ag.all,ay];exact .refl _
def RK:Spec:=cz (kC (gh 2048 2048) kN) (fun a=>bu (jR a.1) (a.1.a+a.1.b+4*(a.1.n*a.1.m)) 2048) fun a=>[1<=a.1.a,a.1.a<2^20,a.1.b<2^20,a.1.n<2^10,a.1.m<2^10]
def Bt:aX:=nG::(71,RK)::(72,Hp)::(77,Hf)::(75,vg)::(76,Dp)::[]
abbrev xj:Code:=aE f17
abbrev xm:List Nat:=[2,3,32,33,34]
abbrev FW (s:Sf) (l i:Nat):List AV:=[.int .i64 0,bu (jR s) l 2048,fK s.f s.n s.m 2000,.int .i64 s.n,.int .i64 i]
theorem akb:aI T Bt [200018,200026] 60 xm (before xj [1,1,1,1,1,1,0,1]) ⟨aN 0 [bM s 2000 2000],[],0⟩=
  let k:=2^40;let o:=bh (fun i=>rat (s.kv i) 2000) s.b sJ;let l:=bh (fun i=>rat (s.ku i) 2000) s.a sJ;let e:=0<1;let h:=dn (aT (s.f 0) s.m 2000);let j:=s.a+s.b+4*(s.n*h);let g:Sf:=Sf.mk s.u s.v s.a (fun i=>aF (rat (s.ku i) 2000)) s.b (fun i=>aF (rat (s.kv i) 2000)) s.n h (dh fun i=>aT (s.f i) s.m 2000);some (aj [e,bh (fun i=>rat (s.ku i) 2000) s.a 2048,bh (fun i=>rat (s.kv i) 2000) s.b 2048,dN (fun i=>aT (s.f i) s.m 2000) s.n 2048,(1:Nat)<=s.a,s.a<2^20,s.b<2^20,s.n<2^10,h<2^10] (aj [bh (fun i=>rat (jR g i) 2048) j 2048,j<k,73=73\/73=80] (aj [e,e,l,s.a<k] (aj [(fq s.a (fun i=>aF (rat (s.ku i) 2000)) s.u !=(0:Int))=false] (aj [e,e,o,s.b<k] (aj [(fq s.b (fun i=>aF (rat (s.kv i) 2000)) s.v !=(0:Int))=false] (aj [e,l,o,dN (fun i=>aT (s.f i) s.m 2000) s.n sJ,cO g] (aj [e] (leaf normal ([int i64 0,ak 3 j fun i=>rat (jR g i) 2048,ak 1 s.n fun i=>ak 12 s.m fun i_1=>agg [agg [rat (s.f i i_1).n.x 2000,rat (s.f i i_1).n.y 2000,rat (s.f i i_1).n.z 2000],rat (s.f i i_1).d 2000],int i64 (↑s.n:Int),int i64 0],[])))))))))):=ah
theorem ZB:aI T Bt [35] 60 xm [part xj [1,1,1,1,1,1,0,1,0,0]] ⟨aA xm (FW s l i),[],0⟩=
  let b:=(↑s.n:Int);let h:=ak 3 l fun i=>rat (jR s i) 2048;let a:=(↑i:Int);let g:=ak 1 s.n fun i=>ak 12 s.m fun i_1=>agg [agg [rat (s.f i i_1).n.x 2000,rat (s.f i i_1).n.y 2000,rat (s.f i i_1).n.z 2000],rat (s.f i i_1).d 2000];let e:=a+1;some (fork (decide (a<b)) (aj [(0:Int)<=a/\a.toNat<s.n] (aj [iX (fun i=>bH (s.f a.toNat i) 2000) s.m 2048,s.m<2^40,∀(i:Nat),i<s.m->0<aF (rat (s.f a.toNat i).d 2000),78=78] (aj [-(2:Int)^63<=e/\e<2^63] (leaf normal ([int i64 0,h,g,int i64 b,int i64 e],[]))))) (leaf (exit 0) ([int i64 0,h,g,int i64 b,int i64 a],[]))):=ah
theorem adL:ct T Bt [] 60 f17 [part xj [1,1,1,1,1,1,1]] ⟨aA xm (FW s l i),[],0⟩=
  some (aj [bh (fun i=>rat (jR s i) 2048) l 2048,l<2^40,80=73\/80=80] (leaf ret [int i64 0])):=ah
theorem Xc:aW P RK 71:=cr fun⟨s,_⟩ K hn=>Wn hn.1 hn.2.1 hn.2.2.1 hn.2.2.2.1 hn.2.2.2.2 K
theorem acX:bn P Bt:=cB (aH Xc (aH LD (aH QM (aH D3 (aH Ic bw)))))
theorem acf (hs:cO s) (K:Nat):aQ P 17 K [bM s 2000 2000] [] (aJ (.int .i64 0) []):=by
 obtain⟨ku,kv,u0,u6,v0,v6,ha,hb,hn,hm2,hw⟩:=id hs;have la:=ku.len;have lb:=kv.len;have pu:=ku.p1;have pv:=kv.p1;have c1:fq s.a s.ku s.u=0:=by have:=ku.uM aa ha;rwa [Int.toNat_of_nonneg aa]at this
 have c2:fq s.b s.kv s.v=0:=by have:=kv.uM aa hb;rwa [Int.toNat_of_nonneg aa]at this
 have hN:s.n*s.m<=1024*1024:=Nat.mul_le_mul aa aa;have lv:dn (aT (s.f 0) s.m 2000)=s.m:=rfl;refine gP (r:=aJ (.int .i64 0) []) hT acX hm abt rfl aV rfl [1,1,1,1,1,1,0,1] (i:=0) (y:=part xj [1,1,1,1,1,1,0,1,0,0]) (z:=part xj [1,1,1,1,1,1,1]) ah ah ah (f1:=[200018,200026]) (f2:=[35]) (f3:=[]) 60 xm 0
  (fun i:Nat=>FW s (s.a+s.b+4*(s.n*s.m)) i) (fun _=>[]) (fun i=>i<=s.n) (fun i=>i=s.n) (fun i=>s.n-i) (fun _=>⟨⟨_,akb,?_⟩,fun i h1=>⟨_,ZB,?_⟩,fun i h1=>⟨_,adL,?_⟩⟩) K []
 all_goals try simp only[ag.all,ay,br,bC,bg,lv]
 ·exact⟨⟨aa,bL (by decide),bL (by decide),fo (by decide),aa,aa,aa,aa,aa⟩,⟨bL (by decide),aa,.inl trivial⟩,⟨aa,aa,bL (by decide),aa⟩,bne_eq_false_iff_eq.2 c1,⟨aa,aa,bL (by decide),aa⟩,bne_eq_false_iff_eq.2 c2,⟨aa,bL (by decide),bL (by decide),fo (by decide),hs⟩,aa,0,Nat.zero_le _,.vals rfl⟩
 ·exact⟨fun h=>⟨aa,⟨mQ (by decide),aa,fun j hj=>hw i j aa hj,trivial⟩,aa,i+1,aa,by dsimp only;omega,.vals rfl⟩,fun h=>⟨rfl,i,aa,.vals rfl⟩⟩
 ·exact⟨⟨bL (by decide),aa,.inr trivial⟩,.refl _⟩
def N4:Spec:=cz (kC (gh 2000 2000) kN) (fun _=>.int .i64 0) fun a=>[cO a.1]
theorem agE:aW P N4 17:=cr fun⟨s,_⟩ K hn=>acf hn K
abbrev nI:Nat:=549755813888
abbrev Ef:FuncId:=67
abbrev D9:Func:=f67
abbrev zM:Code:=aE D9
abbrev DK (n m:Nat) (f g:Nat->Rat) (i:Nat):List AV:=[bu f n nI,bu g m nI,.func 63 [],.bool false,bu f n nI,.int .i64 n,.int .i64 i]
def OL:aX:=[(62,iR T (sG::qV) [200016] 60 f62)]
def RE:Spec:=cz (kC (kL nI) (kC (kL nI) (kC (kF 63) kN))) (fun _=>.bool true) fun a=>[a.1.1<2^40,a.1.1=a.2.1.1,∀i,i<a.1.1->a.1.2 i=a.2.1.2 i]
theorem acj:aU Ef D9:=aS func67
theorem UA {f:Nat->Rat}:aI T g9 [200014] 60 kE (before x3 [1,1,0,1]) ⟨aN 0 [bu f n nI,bu g m nI,.func 63 []],[],0⟩=
  let a:=ak 3 n fun i=>rat (f i) 549755813888;some (aj [((↑n:Int)!=(↑m:Int))=false] (leaf normal ([a,ak 3 m fun i=>rat (g i) 549755813888,func 63 [],AV.bool false,a,int i64 (↑n:Int),int i64 0],[]))):=ah
theorem agI {f:Nat->Rat}:aI T g9 [18,200030] 60 kE [part x3 [1,1,0,1,0,0]] ⟨aA kE (DK n m f g i),[],0⟩=
  let h:=(↑n:Int);let j:=ak 3 m fun i=>rat (g i) 549755813888;let d:=0<1;let a:=(↑i:Int);let b:=ak 3 n fun i=>rat (f i) 549755813888;let e:=a+1;some (fork (decide (a<h)) (aj [(0:Int)<=a/\a.toNat<n,d] (aj [(0:Int)<=a/\a.toNat<m,d] (aj [d,d] (aj [(!decide (f a.toNat=g a.toNat))=false] (aj [-(2:Int)^63<=e/\e<2^63] (leaf normal ([b,j,func 63 [],AV.bool false,b,int i64 h,int i64 e],[]))))))) (leaf (exit 0) ([b,j,func 63 [],AV.bool false,b,int i64 h,int i64 a],[]))):=ah
theorem Ww {f:Nat->Rat}:ct T g9 [] 60 Gc [part x3 [1,1,1]] ⟨aA kE (DK n m f g i),[],0⟩=
  some (leaf ret [AV.bool true]):=ah
theorem aeE:bn P OL:=aH (je hT (kq tV) hm (aS func62) _ _) bw
theorem XN:aW P RE H6:=cr fun⟨⟨n,f⟩,⟨m,g⟩,_⟩ K hn=>by
 obtain⟨h1,h2,h3⟩:=hn;have h1:n<2^40:=h1;have h2:n=m:=h2;have h3:∀i,i<n->f i=g i:=h3;refine gP (r:=aJ (.bool true) []) hT lK hm ak2 rfl aV rfl [1,1,0,1] (i:=0) (y:=part x3 [1,1,0,1,0,0]) (z:=part x3 [1,1,1]) ah ah ah (f1:=[200014]) (f2:=[18,200030]) (f3:=[]) 60 kE 0
  (fun i:Nat=>DK n m f g i) (fun _=>[]) (fun i=>i<=n) (fun i=>i=n) (fun i=>n-i) (fun _=>⟨⟨_,UA,?_⟩,fun i h1=>⟨_,agI,?_⟩,fun i h1=>⟨_,Ww,?_⟩⟩) K []
 all_goals try simp only[ag.all,ay,br,bC,bg]
 ·exact⟨bne_eq_false_iff_eq.2 aa,0,Nat.zero_le _,.vals rfl⟩
 ·refine⟨fun h=>?_,fun h=>⟨rfl,i,aa,.vals rfl⟩⟩;have e:=h3 i aa
  (repeat' with_reducible refine And.intro ?_ ?_)
  all_goals first|omega|exact congrArg (!·) (decide_eq_true e)|skip
  exact⟨i+1,aa,by dsimp only;omega,.vals rfl⟩
 ·exact .refl _
abbrev BH:FuncId:=65
abbrev Gf:Func:=f65
abbrev yD:Code:=aE Gf
abbrev F1 (n m:Nat) (f g:Nat->Pl) (i:Nat):List AV:=[aT f n 2000,aT g m 2000,.func 61 [],.bool false,aT f n 2000,.int .i64 n,.int .i64 i]
def BK:aX:=nG::(61,iR T (sG::(OL++qV)) [100010] 60 f61)::[]
def Mi:Spec:=cz (kC (nh 2000) (kC (nh 2000) (kC (kF 61) kN))) (fun _=>.bool true) fun a=>[a.1.1<2^40,a.1.1=a.2.1.1,∀i,i<a.1.1->a.1.2 i=a.2.1.2 i]
def Rb:aX:=nG::(Ef,Mi)::[]
abbrev wV:AV:=.bZ (.func 61 [])
def Kz:Spec:=cz (kC (nh 2000) (kC (nh 2000) (kC (BW (kF 61)) kN))) (fun _=>.bool true) fun a=>[a.1.1<2^40,a.1.1=a.2.1.1,∀i,i<a.1.1->a.1.2 i=a.2.1.2 i]
def BC:aX:=nG::(66,Kz)::[]
abbrev Gk (s t:Sf) (i:Nat):List AV:=[fK s.f s.n s.m 2000,fK t.f t.n t.m 2000,.func 66 [wV],.bool false,fK s.f s.n s.m 2000,.int .i64 s.n,.int .i64 i]
def K6:Spec:=cz (kC (uH 2000) (kC (uH 2000) (kC (Bk (kF 61)) kN))) (fun _=>.bool true) fun a=>[a.2.2.1.1=66,a.1.1<2^40,a.1.2.1<2^40,a.1.1=a.2.1.1,a.1.2.1=a.2.1.2.1,∀i j,i<a.1.1->j<a.1.2.1->a.1.2.2 i j=a.2.1.2.2 i j]
def ID:aX:=nG::(H6,RE)::(BH,K6)::[]
theorem ajG:aU BH Gf:=aS func65
theorem T1:aU 61 f61:=aS func61
theorem abb:aU 66 f66:=aS func66
theorem KV:aU 14 f14:=aS func14
theorem Vk {g:Nat->Pl}:aI T BK [200014] 60 kE (before zM [1,1,0,1]) ⟨aN 0 [aT f n 2000,aT g m 2000,.func 61 []],[],0⟩=
  let a:=ak 12 n fun i=>agg [agg [rat (f i).n.x 2000,rat (f i).n.y 2000,rat (f i).n.z 2000],rat (f i).d 2000];some (aj [((↑n:Int)!=(↑m:Int))=false] (leaf normal ([a,ak 12 m fun i=>agg [agg [rat (g i).n.x 2000,rat (g i).n.y 2000,rat (g i).n.z 2000],rat (g i).d 2000],func 61 [],AV.bool false,a,int i64 (↑n:Int),int i64 0],[]))):=ah
theorem Sv {g:Nat->Pl}:aI T BK [18,200030] 60 kE [part zM [1,1,0,1,0,0]] ⟨aA kE (F1 n m f g i),[],0⟩=
  let o:=(↑n:Int);let h:=0<1;let b:=(↑i:Int);let p:=ak 12 m fun i=>agg [agg [rat (g i).n.x 2000,rat (g i).n.y 2000,rat (g i).n.z 2000],rat (g i).d 2000];let e:=ak 12 n fun i=>agg [agg [rat (f i).n.x 2000,rat (f i).n.y 2000,rat (f i).n.z 2000],rat (f i).d 2000];let l:=b+1;let a:=b.toNat;let k:=(f a).n;let j:=(g a).n;some (fork (decide (b<o)) (aj [(0:Int)<=b/\a<n,h] (aj [(0:Int)<=b/\a<m,h] (aj [h,h,(!decide (k.x=j.x))=false,(!decide (k.y=j.y))=false,(!decide (k.z=j.z))=false,true=true] (aj [(!bif true then decide ((f a).d=(g a).d)else false)=false] (aj [-(2:Int)^63<=l/\l<2^63] (leaf normal ([e,p,func 61 [],AV.bool false,e,int i64 o,int i64 l],[]))))))) (leaf (exit 0) ([e,p,func 61 [],AV.bool false,e,int i64 o,int i64 b],[]))):=ah
theorem ai7 {g:Nat->Pl}:ct T BK [] 60 D9 [part zM [1,1,1]] ⟨aA kE (F1 n m f g i),[],0⟩=
  some (leaf ret [AV.bool true]):=ah
theorem Z1 {g:Nat->Pl}:bX T Rb [] 60 f66 (aE f66) ⟨aN 0 [aT f n 2000,aT g m 2000,wV],[],0⟩=
  some (aj [iX (fun i=>bH (f i) 2000) n 2000,iX (fun i=>bH (g i) 2000) m 2000,n<2^40,n=m,∀(i:Nat),i<n->mP (bH (f i) 2000)=mP (bH (g i) 2000)] (leaf ret [AV.bool true])):=ah
theorem ajp {t:Sf}:aI T BC [200014] 60 kE (before yD [1,1,0,1]) ⟨aN 0 [fK s.f s.n s.m 2000,fK t.f t.n t.m 2000,.func 66 [wV]],[],0⟩=
  let a:=ak 1 s.n fun i=>ak 12 s.m fun i_1=>agg [agg [rat (s.f i i_1).n.x 2000,rat (s.f i i_1).n.y 2000,rat (s.f i i_1).n.z 2000],rat (s.f i i_1).d 2000];some (aj [((↑s.n:Int)!=(↑t.n:Int))=false] (leaf normal ([a,ak 1 t.n fun i=>ak 12 t.m fun i_1=>agg [agg [rat (t.f i i_1).n.x 2000,rat (t.f i i_1).n.y 2000,rat (t.f i i_1).n.z 2000],rat (t.f i i_1).d 2000],func 66 [(func 61 []).bZ],AV.bool false,a,int i64 (↑s.n:Int),int i64 0],[]))):=ah
theorem YC {t:Sf}:aI T BC [18,200030] 60 kE [part yD [1,1,0,1,0,0]] ⟨aA kE (Gk s t i),[],0⟩=
  let e:=(↑s.n:Int);let j:=func 66 [(func 61 []).bZ];let a:=(↑i:Int);let h:=ak 1 t.n fun i=>ak 12 t.m fun i_1=>agg [agg [rat (t.f i i_1).n.x 2000,rat (t.f i i_1).n.y 2000,rat (t.f i i_1).n.z 2000],rat (t.f i i_1).d 2000];let b:=ak 1 s.n fun i=>ak 12 s.m fun i_1=>agg [agg [rat (s.f i i_1).n.x 2000,rat (s.f i i_1).n.y 2000,rat (s.f i i_1).n.z 2000],rat (s.f i i_1).d 2000];let g:=a+1;some (fork (decide (a<e)) (aj [(0:Int)<=a/\a.toNat<s.n] (aj [(0:Int)<=a/\a.toNat<t.n] (aj [iX (fun i=>bH (s.f a.toNat i) 2000) s.m 2000,iX (fun i=>bH (t.f a.toNat i) 2000) t.m 2000,s.m<2^40,s.m=t.m,∀(i:Nat),i<s.m->mP (bH (s.f a.toNat i) 2000)=mP (bH (t.f a.toNat i) 2000)] (aj [(!true)=false] (aj [-(2:Int)^63<=g/\g<2^63] (leaf normal ([b,h,j,AV.bool false,b,int i64 e,int i64 g],[]))))))) (leaf (exit 0) ([b,h,j,AV.bool false,b,int i64 e,int i64 a],[]))):=ah
theorem aey {t:Sf}:ct T BC [] 60 Gf [part yD [1,1,1]] ⟨aA kE (Gk s t i),[],0⟩=
  some (leaf ret [AV.bool true]):=ah
theorem af1 {t:Sf}:aI T ID [] 60 [2,3,4,5] (before (aE f14) [1,1]) ⟨aN 0 [bM s 2000 2000,bM t 2000 2000],[],0⟩=
  let g:=(bp (bM s 2000 2000)).size;let e:=(bp (bM t 2000 2000)).size;some (aj [(0:Nat)<1] (leaf normal ([ptr 0 0 g 0 [],ptr 4096 0 e 0 [],AV.bool false,ptr 12288 0 1 0 []],[(12288,aq.mk false true 1 1 fun j=>if(j==0)=true then bp (func 61 [])else void),(4096,aq.mk false true e 1 fun x=>agg [int i64 t.u,int i64 t.v,ak 3 t.a fun i=>rat (t.ku i) 2000,ak 3 t.b fun i=>rat (t.kv i) 2000,ak 1 t.n fun i=>ak 12 t.m fun i_1=>agg [agg [rat (t.f i i_1).n.x 2000,rat (t.f i i_1).n.y 2000,rat (t.f i i_1).n.z 2000],rat (t.f i i_1).d 2000]]),(0,aq.mk false true g 1 fun x=>agg [int i64 s.u,int i64 s.v,ak 3 s.a fun i=>rat (s.ku i) 2000,ak 3 s.b fun i=>rat (s.kv i) 2000,ak 1 s.n fun i=>ak 12 s.m fun i_1=>agg [agg [rat (s.f i i_1).n.x 2000,rat (s.f i i_1).n.y 2000,rat (s.f i i_1).n.z 2000],rat (s.f i i_1).d 2000]])]))):=ah
theorem aeS {t:Sf}:ct T ID [100011,100018,100025,100032] 60 f14 [part (aE f14) [1,1]] ⟨aA [2,3,4,5] [.ptr 0 0 5 0 [],.ptr 1 0 5 0 [],.bool false,wV],[(2,⟨false,false,1,1,fun _=>.func 61 []⟩),(1,⟨false,true,5,1,fun _=>bM t 2000 2000⟩),(0,⟨false,true,5,1,fun _=>bM s 2000 2000⟩)],3⟩=
  let h:=(bif true then true else false)=true;let g:=dn (aT (s.f 0) s.m 2000);let e:=2^40;let d:=0<1;some (aj [d,d,(s.u==t.u)=true,d,d,(bif true then s.v==t.v else false)=true,d,d,bh (fun i=>rat (s.ku i) 2000) s.a nI,bh (fun i=>rat (t.ku i) 2000) t.a nI,s.a<e,s.a=t.a,∀(i:Nat),i<s.a->aF (rat (s.ku i) 2000)=aF (rat (t.ku i) 2000),h,d,d,bh (fun i=>rat (s.kv i) 2000) s.b nI,bh (fun i=>rat (t.kv i) 2000) t.b nI,s.b<e,s.b=t.b,∀(i:Nat),i<s.b->aF (rat (s.kv i) 2000)=aF (rat (t.kv i) 2000),h,d,d,dN (fun i=>aT (s.f i) s.m 2000) s.n 2000,dN (fun i=>aT (t.f i) t.m 2000) t.n 2000,66=66,s.n<e,g<e,s.n=t.n,g=dn (aT (t.f 0) t.m 2000),∀(i j:Nat),i<s.n->j<g->dh (fun i=>aT (s.f i) s.m 2000) i j=dh (fun i=>aT (t.f i) t.m 2000) i j] (leaf ret [AV.bool true])):=ah
theorem adA:bn P BK:=cB (aH (je hT (kq (s9 aeE tV)) hm T1 _ _) bw)
theorem TD:aW P Mi Ef:=cr fun⟨⟨n,f⟩,⟨m,g⟩,_⟩ K hn=>by
 obtain⟨h1,h2,h3⟩:=hn;have h1:n<2^40:=h1;have h2:n=m:=h2;have h3:∀i,i<n->f i=g i:=h3;refine gP (r:=aJ (.bool true) []) hT adA hm acj rfl aV rfl [1,1,0,1] (i:=0) (y:=part zM [1,1,0,1,0,0]) (z:=part zM [1,1,1]) ah ah ah (f1:=[200014]) (f2:=[18,200030]) (f3:=[]) 60 kE 0
  (fun i:Nat=>F1 n m f g i) (fun _=>[]) (fun i=>i<=n) (fun i=>i=n) (fun i=>n-i) (fun _=>⟨⟨_,Vk,?_⟩,fun i h1=>⟨_,Sv,?_⟩,fun i h1=>⟨_,ai7,?_⟩⟩) K []
 all_goals try simp only[ag.all,ay,br,bC,bg]
 ·exact⟨bne_eq_false_iff_eq.2 aa,0,Nat.zero_le _,.vals rfl⟩
 ·refine⟨fun h=>?_,fun h=>⟨rfl,i,aa,.vals rfl⟩⟩;have e:=h3 i aa
  (repeat' with_reducible refine And.intro ?_ ?_)
  all_goals first|omega|exact congrArg (!·) (decide_eq_true (congrArg (fun p:Pl=>p.n.x) e))|exact congrArg (!·) (decide_eq_true (congrArg (fun p:Pl=>p.n.y) e))|exact congrArg (!·) (decide_eq_true (congrArg (fun p:Pl=>p.n.z) e))|exact congrArg (!·) (decide_eq_true (congrArg (fun p:Pl=>p.d) e))|exact trivial|exact⟨i+1,aa,by dsimp only;omega,.vals rfl⟩
 ·exact .refl _
theorem ael:bn P Rb:=cB (aH TD bw)
theorem abH:aW P Kz 66:=cr fun⟨⟨n,f⟩,⟨m,g⟩,w,_⟩ K hn=>by
 obtain⟨h1,h2,h3⟩:=hn;refine b9 (r:=aJ (.bool true) []) hT ael hm abb rfl aV rfl 60 Z1 (fun _=>?_) K [];simp only[ag.all,ay];exact⟨⟨mQ bq,mQ bq,h1,h2,h3⟩,.refl _⟩
theorem abL:bn P BC:=cB (aH abH bw)
theorem afp {t:Sf} (h1:s.n<2^40) (h2:s.m<2^40) (h3:s.n=t.n) (h4:s.m=t.m) (h5:∀i j,i<s.n->j<s.m->s.f i j=t.f i j) (K:Nat):aQ P BH K [fK s.f s.n s.m 2000,fK t.f t.n t.m 2000,.func 66 [wV]] [] (aJ (.bool true) []):=by
 refine gP (r:=aJ (.bool true) []) hT abL hm ajG rfl aV rfl [1,1,0,1] (i:=0) (y:=part yD [1,1,0,1,0,0]) (z:=part yD [1,1,1]) ah ah ah (f1:=[200014]) (f2:=[18,200030]) (f3:=[]) 60 kE 0
  (fun i:Nat=>Gk s t i) (fun _=>[]) (fun i=>i<=s.n) (fun i=>i=s.n) (fun i=>s.n-i) (fun _=>⟨⟨_,ajp,?_⟩,fun i h1=>⟨_,YC,?_⟩,fun i h1=>⟨_,aey,?_⟩⟩) K []
 all_goals try simp only[ag.all,ay,br,bC,bg]
 ·exact⟨bne_eq_false_iff_eq.2 aa,0,Nat.zero_le _,.vals rfl⟩
 ·refine⟨fun h=>?_,fun h=>⟨rfl,i,aa,.vals rfl⟩⟩;exact⟨aa,aa,⟨mQ bq,mQ bq,h2,h4,fun j hj=>h5 i j aa hj⟩,rfl,aa,i+1,aa,by dsimp only;omega,.vals rfl⟩
 ·exact .refl _
theorem acv:aW P K6 BH:=cr fun⟨⟨n,m,f⟩,⟨n',m',g⟩,⟨q,w⟩,_⟩ K hn=>by
 obtain⟨rfl,h1,h2,h3,h4,h5⟩:q=66/\n<2^40/\m<2^40/\n=n'/\m=m'/\∀i j,i<n->j<m->f i j=g i j:=hn;exact afp (s:={u:=0,v:=0,a:=0,ku:=fun _=>0,b:=0,kv:=fun _=>0,n:=n,m:=m,f:=f}) (t:={u:=0,v:=0,a:=0,ku:=fun _=>0,b:=0,kv:=fun _=>0,n:=n',m:=m',f:=g}) h1 h2 h3 h4 h5 K
theorem Sm:bn P ID:=cB (aH XN (aH acv bw))
def Px:Spec:=cz (kC (gh 2000 2000) (kC (gh 2000 2000) kN)) (fun _=>.bool true) fun a=>[EF a.1 a.2.1,a.1.n<2^40,a.1.m<2^40,a.1.a<2^40,a.1.b<2^40]
theorem YS:aW P Px 14:=cr fun⟨s,t,_⟩ K hn=>by
 obtain⟨h,n1,n2,n3,n4⟩:EF s t/\s.n<2^40/\s.m<2^40/\s.a<2^40/\s.b<2^40:=hn;refine fV (r:=aJ (.bool true) []) hT KV rfl aV rfl (fun _ cx h00=>?_) K [];have hk:=iL h00;refine ax.hole [1,1] ah (aG.bE hT Sm hm 60 [2,3,4,5] af1 (kZ KV.dst) ?_);refine⟨Nat.zero_lt_one,?_⟩;intro s' hs';show ax _ _ _ (part (aE f14) [1,1]) s' _;rw[show behind (aE f14) [1,1]=[]from by kernel_rfl];refine ax.jh (s2:=⟨aA [2,3,4,5] [.ptr 0 0 5 0 [],.ptr 1 0 5 0 [],.bool false,.ptr 2 0 1 0 []],[(2,⟨false,true,1,1,fun _=>.func 61 []⟩),(1,⟨false,true,5,1,fun _=>bM t 2000 2000⟩),(0,⟨false,true,5,1,fun _=>bM s 2000 2000⟩)],3⟩) (cT.le ⟨[(0,0),(1,4096),(2,12288)],rfl,rfl,rfl,aL (aL (aL trivial))⟩ hs' hk) ((?_:ax P cx f14.ntmps (part (aE f14) [1,1]) _ (ej cx (Fin T f14 (.bool true)))).mono fun e s' h=>by cases e<;>exact h);refine ax.Dn (t:=5) (k:=2) rfl rfl rfl rfl rfl ?_;refine ax.hH ((aG.fin hT Sm hm 60 aeS ah ?_).mono fun _ _ h=>.inl h);simp only[ag.all,ay]
 (repeat' with_reducible refine And.intro ?_ ?_)
 all_goals first|omega|exact beq_iff_eq.2 h.u|exact beq_iff_eq.2 h.v|exact bL (by decide)|exact fo (by decide)|exact h.ku|exact h.kv|exact h.a|exact h.b|exact h.n|exact h.m|exact h.f|exact .refl _|exact n2|exact trivial|skip
abbrev iq (s:Sf) (u:Rat):Cu:=vN (dc s) u
theorem agB (hs:cO s) (hu:¬bf s.a s.ku u) (hj:j<s.m):cy ((iq s u).f j)=cL (bK s j) u:=by
 have h:cL (bK s j) u=eC (cq s j) u:=(if_neg (show¬bf (cq s j).n (cq s j).k u from hu)).symm;have hp:=HW hs hu hj;rw[<-h]at hp;show cy ⟨lQ (cL (bK s j) u),(cL (bK s j) u).d⟩=_;rw[<-B7,QU (by grind)]
theorem TE {s':Sf} {u':Rat} (h:∀e,bY (cL (bK s' j) u') e=bY (cL (bK s j) u) e):(iq s' u').f j=(iq s u).f j:=by
 have e3:cL (bK s' j) u'=cL (bK s j) u:=by
  show(⟨⟨bY (cL (bK s' j) u') 0,bY (cL (bK s' j) u') 1,bY (cL (bK s' j) u') 2⟩,bY (cL (bK s' j) u') 3⟩:Pl)=⟨⟨bY (cL (bK s j) u) 0,bY (cL (bK s j) u) 1,bY (cL (bK s j) u) 2⟩,bY (cL (bK s j) u) 3⟩
  rw[h 0,h 1,h 2,h 3]
 show(⟨lQ (cL (bK s' j) u'),(cL (bK s' j) u').d⟩:Pl)=⟨lQ (cL (bK s j) u),(cL (bK s j) u).d⟩
 rw[e3]
theorem uw (hs:cO s) (hu:¬bf s.a s.ku u):fB s u v=kU (iq s u) v:=(alw hs hu).trans (congrArg (fun c=>kU c v) (if_neg hu))
theorem Qx {s':Sf} {u':Rat} (hs:cO s) (hs':cO s') (hu:¬bf s.a s.ku u) (hu':¬bf s'.a s'.ku u') (ev:s'.v=s.v) (eb:s'.b=s.b) (ek:s'.kv=s.kv) (em:s'.m=s.m) (h:∀j e,bY (cL (bK s' j) u') e=bY (cL (bK s j) u) e):fB s' u' v=fB s u v:=by
 rw[uw hs hu,uw hs' hu'];have:iq s' u'=iq s u:=by
  show(⟨s'.v,s'.b,s'.kv,s'.m,(iq s' u').f⟩:Cu)=⟨s.v,s.b,s.kv,s.m,(iq s u).f⟩
  rw[ev,eb,ek,em,show(iq s' u').f=(iq s u).f from funext fun j=>TE (h j)]
 rw[this]
theorem NA (h:Kn c.n c.p.toNat c.k) (hin:¬bf c.n c.k t) (e:Nat):bY (cL c t) e=bU (c.p.toNat+1) fun j=>bY (cy (c.f (bJ c.n c.k t-c.p.toNat+j))) e*vB c.k (bJ c.n c.k t) t c.p.toNat j:=
 (qK h hin e).trans (BA (h.lf hin).1)
theorem Nl {f g:Nat->Rat}:∀{n:Nat},bU n (fun i=>f i+g i)=bU n f+bU n g
 |0=>by simp only[bU];grind
 |n+1=>by simp only[bU,Nl (n:=n)];grind
theorem JB {f:Nat->Rat} {c:Rat}:∀{n:Nat},bU n (fun i=>f i*c)=bU n f*c
 |0=>by simp only[bU];grind
 |n+1=>by simp only[bU,JB (n:=n)];grind
theorem IM {f:Nat->Nat->Rat} {A B:Nat->Rat} {m:Nat}:∀{n:Nat},bU n (fun b=>bU m (fun a=>f a b*A a)*B b)=bU m fun a=>bU n (fun b=>f a b*B b)*A a
 |0=>by
  have:∀m,bU m (fun a=>bU 0 (fun b=>f a b*B b)*A a)=0:=fun m=>by
   induction m with
   |zero=>rfl
   |succ m ih=>simp only[bU]at ih ⊢;rw[ih];grind
  rw[this];rfl
 |n+1=>by
  rw[bU,IM (n:=n),<-JB,<-Nl];exact oz fun a _=>by simp only[bU];grind
theorem Og (hs:cO s) (hu:¬bf s.a s.ku u) (hv:¬bf s.b s.kv v) (e:Nat):bY (cL (iq s u) v) e=bU (s.v.toNat+1) fun b=>bU (s.u.toNat+1) (fun a=>bY (cy (s.f (bJ s.a s.ku u-s.u.toNat+a) (bJ s.b s.kv v-s.v.toNat+b))) e*vB s.ku (bJ s.a s.ku u) u s.u.toNat a)*vB s.kv (bJ s.b s.kv v) v s.v.toNat b:=by
 have hiv:=hs.kv.lf hv;have h1:=hs.m;have h2:=hs.v0;refine(NA (c:=iq s u) hs.kv hv e).trans (oz fun b hb=>?_);have hb:b<s.v.toNat+1:=hb;show bY (cy ((iq s u).f (bJ s.b s.kv v-s.v.toNat+b))) e*_=_;rw[agB hs hu aa,NA (c:=bK s (bJ s.b s.kv v-s.v.toNat+b)) hs.ku hu e];rfl
theorem It (hs:cO s) (hu:¬bf s.a s.ku u) (hv:¬bf s.b s.kv v):fB (dc s) v u=fB s u v:=by
 rw[uw hs hu,uw hs.swap hv];refine VR (c:=iq s u) (d:=iq (dc s) v) hv hu fun e=>?_;rw[Og hs hu hv e];refine(Og hs.swap hv hu e).trans ?_;exact IM (f:=fun b a=>bY (cy (s.f (bJ s.a s.ku u-s.u.toNat+a) (bJ s.b s.kv v-s.v.toNat+b))) e) (A:=vB s.kv (bJ s.b s.kv v) v s.v.toNat) (B:=vB s.ku (bJ s.a s.ku u) u s.u.toNat)
theorem j5.col {F:Cu->Cu} {b:Bool} (h:j5 F b t s) (j:Nat):bK (gp F s) j=F (bK s j):=by
 have e1:(F (bK s 0)).p=(F (bK s j)).p:=by rw[<-h.p,<-h.p,Bl,Bl]
 have e2:(F (bK s 0)).n=(F (bK s j)).n:=by rw[<-h.n,<-h.n,CQ,CQ]
 have e3:(F (bK s 0)).k=(F (bK s j)).k:=funext fun i=>by rw[<-h.k,<-h.k,CW,CW]
 have e4:(F (bK s 0)).m=(F (bK s j)).m:=by rw[<-h.m,<-h.m,vU,vU]
 show(⟨(F (bK s 0)).p,(F (bK s 0)).n,(F (bK s 0)).k,(F (bK s 0)).m,(F (bK s j)).f⟩:Cu)=_;rw[e1,e2,e3,e4]
theorem j5.pts {F:Cu->Cu} {b:Bool} (h:j5 F b t s) (hs:fc s) (hk:∀j,jM (F (bK s j))) (hw:∀i j,i<(F (bK s 0)).m->0<((F (bK s j)).f i).d) (hu:¬bf s.a s.ku u)
  (hp:∀j,¬bf (F (bK s j)).n (F (bK s j)).k u/\∀e,bY (cL (F (bK s j)) u) e=bY (cL (bK s j) u) e):cO (gp F s)/\¬bf (gp F s).a (gp F s).ku u/\fB (gp F s) u v=fB s u v:=by
 obtain⟨k1,k2,k3,k4,k5⟩:=hk 0;have hO:cO (gp F s):=⟨k1,hs.ok.kv,show 0<=(F (bK s 0)).p by omega,k3,hs.ok.v0,hs.ok.v6,k4,hs.ok.b,k5,hs.ok.m,fun i j hi _=>hw i j hi⟩
 exact⟨hO,(hp 0).1,Qx hs.ok hO hu (hp 0).1 rfl rfl rfl rfl fun j e=>by rw[h.col];exact(hp j).2 e⟩
theorem aeZ {x y a b:Rat} {s:Nat} (ha:m7 a) (hb:m7 b) (ht:e9 t) (hx:Sz x s) (hy:Sz y s):Sz (x+fr a b t*(y-x)) (2*s+61):=by
 obtain⟨za,e1,a1,a2⟩:=ha;obtain⟨zb,e2,b1,b2⟩:=hb;obtain⟨zt,e3,t1,t2⟩:=ht;by_cases hv:zb=za
 ·have:fr a b t=0:=by
   unfold fr;rw[e1,e2,hv,Rat.div_def,show(za:Rat)/2-(za:Rat)/2=0 by grind,Rat.inv_zero,Rat.mul_zero]
  rw[this,Rat.zero_mul,Rat.add_zero];exact hx.more aa
 ·have hn:b-a≠0:=fun h=>hv (Rat.intCast_inj.1 (by
   have h2:(zb:Rat)/2=(za:Rat)/2:=by rw[<-e1,<-e2];grind
   calc (zb:Rat)=(zb:Rat)/2*2:=(Rat.div_mul_cancel (by decide)).symm
    _=(za:Rat)/2*2:=by rw[h2]
    _=za:=Rat.div_mul_cancel (by decide)))
  have hf:fr a b t*((27720*(zb-za):Int):Rat)=((zt-27720*za:Int):Rat):=by
   have h1:((27720*(zb-za):Int):Rat)=(b-a)*55440:=by rw[<-vm,e1,e2,Rat.intCast_sub,Rat.div_def,Rat.div_def,Rat.div_def];grind
   have h2:((zt-27720*za:Int):Rat)=(t-a)*55440:=by rw[Rat.intCast_sub,<-vm,e3,<-e1];grind
   rw[h1,h2,<-Rat.mul_assoc];unfold fr;rw[Rat.div_mul_cancel hn]
  have hv0:(27720*(zb-za):Int)≠0:=aa;have hv:((27720*(zb-za):Int):Rat)≠0:=fun e=>hv0 (Rat.intCast_inj.1 (show((27720*(zb-za):Int):Rat)=((0:Int):Rat)from e));have key:x+fr a b t*(y-x)=(((27720*(zb-za)-(zt-27720*za):Int):Rat)*x+((zt-27720*za:Int):Rat)*y)/((27720*(zb-za):Int):Rat):=by
   rw[Rat.intCast_sub (27720*(zb-za)),Rat.div_def,<-hf];generalize ((27720*(zb-za):Int):Rat)=v at*;have e2:(v-fr a b t*v)*x+fr a b t*v*y=(x+fr a b t*(y-x))*v:=by grind
   rw[e2,Rat.mul_assoc,Rat.mul_inv_cancel _ hv,Rat.mul_one]
  rw[key];have a1:=(ko (x:=27720*(zb-za)-(zt-27720*za)) (n:=20) aa (by decide)).mul hx;have a2:=(ko (x:=zt-27720*za) (n:=20) aa (by decide)).mul hy;exact((a1.add a2).div (ko (x:=27720*(zb-za)) (n:=20) aa (by decide))).more aa
def Kc:Nat->Nat->Nat
 |0,s=>s
 |r+1,s=>Kc r (2*s+61)
theorem J7 {k:Nat->Rat} {b p:Nat} (hk:∀i,m7 (k i)):∀{l:List Rat} {r s:Nat} {x:Nat->Rat},(∀t∈l,e9 t)->(∀j,Sz (x j) s)->∀j,Sz (bl k b p r x l j) (Kc l.length s)
 |[],_,_,_,_,hx,j=>hx j
 |t::l,r,s,x,hl,hx,j=>by
  rw[bl,List.length_cons];refine J7 hk (fun u hu=>hl u (List.mem_cons_of_mem _ hu)) (fun q=>?_) j;unfold ir;split
  ·exact aeZ (hk _) (hk _) (hl t (List.mem_cons_self ..)) (hx _) (hx _)
  ·exact(hx _).more aa
theorem afb (hb:C9 c) (ht:e9 t) (h3:c.p<=3) (hin:¬bf c.n c.k t) (e:Nat):Sz (bY (cL c t) e) 590:=by
 rw[qK hb.d.kn.1 hin e];have hx:∀i,Sz (bY (cy (c.f i)) e) 20:=fun i=>match e with
  |0=>hb.d.sx i
  |1=>hb.d.sy i
  |2=>hb.d.sz i
  |_+3=>hb.d.sd i
 have:=J7 (b:=bJ c.n c.k t-c.p.toNat) (p:=c.p.toNat) (r:=0) hb.h (l:=List.replicate c.p.toNat t) (fun u hu=>by rw[List.eq_of_mem_replicate hu];exact ht) (fun j=>hx (bJ c.n c.k t-c.p.toNat+j)) c.p.toNat;refine Sz.more this ?_;rw[List.length_replicate];have:c.p.toNat=0\/c.p.toNat=1\/c.p.toNat=2\/c.p.toNat=3:=aa;rcases this with h|h|h|h<;>rw[h]<;>decide
theorem Qz (hu:¬bf s.a s.ku u):jQ s u=iq s u:=by
 rw[show jQ s u=_ from if_neg hu];show(⟨s.v,s.b,s.kv,s.m,fun j=>dG (eC (cq s j) u)⟩:Cu)=⟨s.v,s.b,s.kv,s.m,(iq s u).f⟩
 congr 1;funext j;have h:cL (bK s j) u=eC (cq s j) u:=(if_neg (show¬bf (cq s j).n (cq s j).k u from hu)).symm;show _=(⟨lQ (cL (bK s j) u),(cL (bK s j) u).d⟩:Pl)
 rw[<-h,<-B7]
theorem Kw (hs:fc s) (h3:s.u<=3) (hu:e9 u) (hin:¬bf s.a s.ku u):wG (iq s u):=by
 have h:∀j e,Sz (bY (cL (bK s j) u) e) 590:=fun j e=>afb (hs.c j) hu h3 hin e;have e:∀j,(iq s u).f j=dG (cL (bK s j) u):=fun j=>B7.symm;exact⟨hs.z.kv,fun j _=>by rw[e];exact((h j 0).div (h j 3)).more (by decide),fun j _=>by rw[e];exact((h j 1).div (h j 3)).more (by decide),fun j _=>by rw[e];exact((h j 2).div (h j 3)).more (by decide),fun j _=>by rw[e];exact(h j 3).more (by decide)⟩
theorem L6 (hs:cO s) (hu:¬bf s.a s.ku u) (hj:j<s.m):0<((iq s u).f j).d:=by
 have h:cL (bK s j) u=eC (cq s j) u:=(if_neg (show¬bf (cq s j).n (cq s j).k u from hu)).symm;show 0<(cL (bK s j) u).d;rw[h];exact HW hs hu hj
def KC:Spec:=cz (kC (gh 2000 2000) (kC (gv 2000) kN)) (fun a=>.tuple [gC (iq a.1 a.2.1) 2000 2000,.int .i64 0]) fun a=>[fc a.1,a.1.u<=3,e9 a.2.1,¬bf a.1.a a.1.ku a.2.1]
def Q0:Spec:=cz (kC (gh 2000 2000) (kC (gv 2000) kN)) (fun a=>.tuple [gC (iq (dc a.1) a.2.1) 2000 2000,.int .i64 0]) fun a=>[fc a.1,a.1.v<=3,e9 a.2.1,¬bf a.1.b a.1.kv a.2.1]
theorem aaD:aW P KC 38:=cr fun⟨s,u,_⟩ K hn=>by
 obtain⟨hs,h3,hu,hin⟩:fc s/\s.u<=3/\e9 u/\¬bf s.a s.ku u:=hn;refine RG (gW (Qs (u:=u) hs.ok K) (args:=[bM s 2000 2000,.rat u 2000]) rfl ⟨.refl _,cm rfl (by decide),trivial⟩ []) id rfl ⟨?_,bP (if_neg hin),trivial⟩;rw[Qz hin];exact(Kw hs h3 hu hin).up
theorem WD:aW P Q0 39:=cr fun⟨s,u,_⟩ K hn=>by
 obtain⟨hs,h3,hu,hin⟩:fc s/\s.v<=3/\e9 u/\¬bf s.b s.kv u:=hn;have hf:=alb K [bM s 2000 2000,.rat u sK] [] _ rfl;refine RG (gW hf (args:=[bM s 2000 2000,.rat u 2000]) rfl ⟨.refl _,cm rfl (by decide),trivial⟩ []) (fun _=>⟨bL (by decide),bL (by decide),fo (by decide),bq,hs.ok,hs.z⟩) rfl ⟨?_,bP (if_neg hin),trivial⟩;show bV (gC (jQ (dc s) u) sK sE) (gC (iq (dc s) u) 2000 2000);rw[Qz (s:=dc s) hin];exact(Kw hs.swap h3 hu hin).up
def F9:aX:=[(42,iR T (sG::oT) [100010,100017] 60 f42)]
theorem MN:bn P F9:=aH (je hT (kq qv) hm (aS func42) _ _) bw
theorem aaI:aU 13 f13:=aS func13
theorem Vb:aU 40 f40:=aS func40
def LP:aX:=nG::(37,BB)::F9
def MX:Spec:=cz (kC (gh 2000 2000) (kC (gh 2000 2000) (kC (gv 2000) (kC (gv 2000) (kC (gv 2000) (kC (gv 2000) kN)))))) (fun _=>.bool true) fun⟨s,t,u,v,x,y,_⟩=>[cO s,cO t,¬bf s.a s.ku u,¬bf s.b s.kv v,¬bf t.a t.ku x,¬bf t.b t.kv y,fB t x y=fB s u v]
def Rl:aX:=nG::(117,NI)::[]
theorem YD {t:Sf} {x y:Rat}:bX T LP [100033,100037] 60 f13 (aE f13) ⟨aN 0 [bM s 2000 2000,bM t 2000 2000,.rat u 2000,.rat v 2000,.rat x 2000,.rat y 2000],[],0⟩=
  let e:=2000<=sK;let d:=0<1;let h:Sf:=Sf.mk s.u s.v s.a (fun i=>aF (rat (s.ku i) 2000)) s.b (fun i=>aF (rat (s.kv i) 2000)) s.n (dn (aT (s.f 0) s.m 2000)) (dh fun i=>aT (s.f i) s.m 2000);let g:Sf:=Sf.mk t.u t.v t.a (fun i=>aF (rat (t.ku i) 2000)) t.b (fun i=>aF (rat (t.kv i) 2000)) t.n (dn (aT (t.f 0) t.m 2000)) (dh fun i=>aT (t.f i) t.m 2000);let k:=fB g x y;let j:=fB h u v;some (aj [d,d,d,bh (fun i=>rat (s.ku i) 2000) s.a 2000,bh (fun i=>rat (s.kv i) 2000) s.b 2000,dN (fun i=>aT (s.f i) s.m 2000) s.n 2000,e,e,cO h,d] (aj [d,d,d,bh (fun i=>rat (t.ku i) 2000) t.a 2000,bh (fun i=>rat (t.kv i) 2000) t.b 2000,dN (fun i=>aT (t.f i) t.m 2000) t.n 2000,e,e,cO g,d] (aj [(nq h u v==0)=true,(bif true then nq g x y==0 else false)=true,d,d,decide (j.x=k.x)=true,(bif true then decide (j.y=k.y)else false)=true] (leaf ret [AV.bool (bif true then bif true then decide (j.z=k.z)else false else false)])))):=ah
theorem XU:bX T Rl [] 60 f40 (aE f40) ⟨aN 0 [gC c 2000 2000],[],0⟩=
  some (aj [(0:Nat)<1,bh (fun i=>rat (c.k i) 2000) c.n 2048,iX (fun i=>bH (c.f i) 2000) c.m 2048,Kn c.n c.p.toNat fun i=>aF (rat (c.k i) 2000),(0:Int)<=c.p,c.p<=6,c.n<=c.p.toNat+41,(↑c.m:Int)=(↑c.n:Int)-c.p-1,∀(i:Nat),i<c.m->0<aF (rat (c.f i).d 2000)] (leaf ret [AV.bool true])):=ah
theorem afa:bn P LP:=cB (aH DR MN)
theorem D4 (hu:¬bf s.a s.ku u) (hv:¬bf s.b s.kv v):nq s u v=0:=by unfold nq;rw[if_neg hu];exact if_neg hv
theorem adu:aW P MX 13:=cr fun⟨s,t,u,v,x,y,_⟩ K hn=>by
 obtain⟨h1,h2,h3,h4,h5,h6,h7⟩:cO s/\cO t/\¬bf s.a s.ku u/\¬bf s.b s.kv v/\¬bf t.a t.ku x/\¬bf t.b t.kv y/\fB t x y=fB s u v:=hn;have o:0<1:=Nat.zero_lt_one;have z:2000<=sK:=by decide
 refine b9 (r:=aJ (.bool true) []) hT afa hm aaI rfl aV rfl 60 YD (fun _=>?_) K [];simp only[ag.all,ay];refine⟨⟨o,o,o,bL (by decide),bL (by decide),fo (by decide),z,z,h1,o⟩,⟨o,o,o,bL (by decide),bL (by decide),fo (by decide),z,z,h2,o⟩,⟨beq_iff_eq.2 (D4 h3 h4),beq_iff_eq.2 (D4 h5 h6),o,o,decide_eq_true (congrArg V3.x h7.symm),decide_eq_true (congrArg V3.y h7.symm)⟩,?_⟩;exact gQ (decide_eq_true (congrArg V3.z h7.symm))
theorem Va:bn P Rl:=cB (aH aaR bw)
def KY:Spec:=cz (kC (CE 2000 2000) kN) (fun _=>.bool true) fun a=>[Kn a.1.n a.1.p.toNat a.1.k,0<=a.1.p,a.1.p<=6,a.1.n<=a.1.p.toNat+41,(a.1.m:Int)=(a.1.n:Int)-a.1.p-1,∀i,i<a.1.m->0<(a.1.f i).d]
theorem aeI:aW P KY 40:=cr fun⟨c,_⟩ K hn=>by
 refine b9 (r:=aJ (.bool true) []) hT Va hm Vb rfl aV rfl 60 XU (fun _=>?_) K [];simp only[ag.all,ay];exact⟨⟨Nat.zero_lt_one,bL (by decide),mQ (by decide),hn⟩,.refl _⟩
theorem afr:aU 29 f29:=aS func29
abbrev HJ:FuncId:=99
abbrev Cg:Func:=f99
abbrev BN:Code:=aE Cg
def lY {α:Type} (n k:Nat) (f:Nat->α) (r:Nat):α:=if r<k\/n-k<=r then f (n-1-r)else f r
abbrev m8 (w:Nat) (m n:Nat) (g:Nat->Nat->Pl):aq:=⟨true,true,1,n,fun i=>aT (g i) m w⟩
abbrev yT:List Nat:=[0,2,3]
abbrev B4 (n i j:Nat):List AV:=[.own 0 1 0 n,.int .i64 i,.int .i64 j]
def Eo:Spec:=fun _ args pre=>match args,pre with
 |[.own k 1 0 n],[(k',⟨true,true,1,m,f⟩)]=>match k'==k with
  |true=>some ⟨.tuple [],[(k,m8 2100 (dn (f 0)) n fun i=>dh f (n-1-i))],[m=n,1<=n,n<2^40,∀i,i<n->keys (f i)=[]/\bV (f i) (aT (dh f i) (dn (f 0)) 2100)]⟩
  |false=>none
 |_,_=>none
abbrev soA (s:Sf) (k:Nat):AV:=.agg [.int .i64 s.u,.int .i64 s.v,bu s.ku s.a 2100,bu s.kv s.b 2100,.own k 1 0 s.n]
def LX:Spec:=o6 fun K l=>match l with
 |[u,v]=>match(gh 2000 2000).read u,(kF 96).read v with
  |some (s,q1),some (_,q2)=>some ⟨iK [soA s K],[(K,m8 2100 s.m s.n s.f)],q1++(q2++[s.a<2^28,s.b<2^28,s.n<2^28,s.m<2^28])⟩
  |_,_=>none
 |_=>none
def Lz:Spec:=cz (kC (kL 2000) kN) (fun a=>bu (iJ a.1.1 a.1.2) a.1.1 6002) fun a=>[a.1.1<2^40]
def QC:aX:=nG::(98,Lz)::(95,LX)::(HJ,Eo)::[]
def mM (s:Sf):Sf:={s with ku:=iJ s.a s.ku,f:=fun i=>s.f (s.n-1-i)}
def QZ:Spec:=cz (kC (gh 2000 2000) kN) (fun a=>bM (mM a.1) 2000 2000) fun a=>[a.1.a<2^28,a.1.b<2^28,1<=a.1.n,a.1.n<2^28,a.1.m<2^28,gI (mM a.1)]
theorem Re:aU HJ Cg:=aS func99
theorem aeC {g:Nat->Nat->Pl}:aI T [nG] [] 60 yT (before BN [1]) ⟨aN 0 [.own 0 1 0 n],[(0,m8 w m n g)],1⟩=
  let a:=(↑n:Int)-1;some (aj [-(2:Int)^63<=a/\a<2^63] (leaf normal ([own 0 1 0 n,int i64 0,int i64 a],[(0,aq.mk true true 1 n fun i=>ak 12 m fun i_1=>agg [agg [rat (g i i_1).n.x w,rat (g i i_1).n.y w,rat (g i i_1).n.z w],rat (g i i_1).d w])]))):=ah
theorem aiw {g:Nat->Nat->Pl}:aI T [nG] [9] 60 yT [part BN [1,0,0]] ⟨aA yT (B4 n i j),[(0,m8 w m n g)],1⟩=
  let o:=own 0 1 0 n;let k:=(2:Int)^63;let e:=(↑j:Int);let b:=(↑i:Int);let a:=b+1;let l:=e-1;let q:=(0:Int)<=e/\e.toNat<n;let p:=(0:Int)<=b/\b.toNat<n;let h:=e.toNat+0;let f:=b.toNat+0;some (fork (decide (b<e)) (aj [q,h<n,p,f<n,p,f<n,q,h<n] (aj [-k<=a/\a<k,-k<=l/\l<k] (leaf normal ([o,int i64 a,int i64 l],[(0,aq.mk true true 1 n fun j=>ak 12 (bif j==h then m else bif j==f then m else m) fun i=>bif j==h then bH (g f i) w else bif j==f then bH (g h i) w else bH (g j i) w)])))) (leaf (exit 0) ([o,int i64 b,int i64 e],[(0,aq.mk true true 1 n fun i=>ak 12 m fun i_1=>agg [agg [rat (g i i_1).n.x w,rat (g i i_1).n.y w,rat (g i i_1).n.z w],rat (g i i_1).d w])]))):=ah
theorem ajq:aI T qA [] 60 [4] [part qM [1,1,1]] ⟨aA pE (uv s i),tR s i,3⟩=
  some (aj [(0:Nat)<1,(0:Nat)<1] (leaf ret ([ptr 0 0 5 0 []],[(2,aq.mk true true 1 i fun i=>ak 12 s.m fun i_1=>agg [agg [rat (s.f i i_1).n.x 2100,rat (s.f i i_1).n.y 2100,rat (s.f i i_1).n.z 2100],rat (s.f i i_1).d 2100]),(0,aq.mk false true 5 1 fun j=>if(j==0)=true then bp (agg [int i64 s.u,int i64 s.v,bu s.ku s.a 2100,bu s.kv s.b 2100,own 2 1 0 i])else agg [int i64 0,int i64 0,nil,nil,nil])]))):=ah
theorem ajD:bX T QC [] 60 f29 (aE f29) ⟨aN 0 [bM s 2000 2000],[],0⟩=
  let j:=s.n-1;let g:=dn (aT (s.f 0) s.m 2000);let k:=bh (fun i=>rat (s.ku i) 2000) s.a 2000;let h:=2^28;let e:=0<1;some (aj [e,k,bh (fun i=>rat (s.kv i) 2000) s.b 2000,dN (fun i=>aT (s.f i) s.m 2000) s.n 2000,s.a<h,s.b<h,s.n<h,g<h,e] (aj [e,k,s.a<2^40,e] (aj [e,s.n=s.n,(1:Nat)<=s.n,s.n<2^40,∀(i:Nat),i<s.n->(aT (dh (fun i=>aT (s.f i) s.m 2000) i) g 2100).keys=[]/\bV (aT (dh (fun i=>aT (s.f i) s.m 2000) i) g 2100) (aT (dh (fun i=>aT (dh (fun i=>aT (s.f i) s.m 2000) i) g 2100) i) (dn (aT (dh (fun i=>aT (s.f i) s.m 2000) 0) g 2100)) 2100)] (aj [e,e] (aj [e] (leaf ret [agg [int i64 s.u,int i64 s.v,ak 3 s.a fun i=>rat (iJ s.a (fun i=>aF (rat (s.ku i) 2000)) i) 6002,ak 3 s.b fun i=>rat (aF (rat (s.kv i) 2000)) 2100,ak 1 s.n fun i=>ak 12 (dn (aT (dh (fun i=>aT (s.f i) s.m 2000) 0) g 2100)) fun i_1=>agg [agg [rat (aF (rat (aF (rat (s.f (j-(i+0)) i_1).n.x 2000)) 2100)) 2100,rat (aF (rat (aF (rat (s.f (j-(i+0)) i_1).n.y 2000)) 2100)) 2100,rat (aF (rat (aF (rat (s.f (j-(i+0)) i_1).n.z 2000)) 2100)) 2100],rat (aF (rat (aF (rat (s.f (j-(i+0)) i_1).d 2000)) 2100)) 2100]]])))))):=ah
theorem YT {k r:Nat} {f:Nat->α} (h:2*k+1<n) (hr:r<n):lY n (k+1) f r=if r=n-1-k then lY n k f k else if r=k then lY n k f (n-1-k)else lY n k f r:=by
 unfold lY;by_cases h1:r=n-1-k
 ·subst h1;rw[if_pos rfl,if_pos (.inr aa),if_neg aa];congr 1;omega
 ·rw[if_neg h1];by_cases h2:r=k
  ·subst h2;rw[if_pos rfl,if_pos (.inl aa),if_neg aa]
  ·rw[if_neg h2];by_cases h3:r<k\/n-k<=r
   ·rw[if_pos h3,if_pos aa]
   ·rw[if_neg h3,if_neg aa]
theorem ajY {k r:Nat} {f:Nat->α} (h:2*k<=n) (h1:n<=2*k+1) (hr:r<n):lY n k f r=f (n-1-r):=by
 unfold lY;split
 ·rfl
 ·congr 1;omega
theorem aed {kk:Nat} {f:Nat->Nat->Pl} (hn:1<=n) (hn2:n<2^40) (c:Ctx) (hk:Kept [0] c):ax P c Cg.ntmps BN ⟨aN 0 [.own 0 1 0 n],[(0,m8 w m n f)],1⟩ (C3 Cg kk [] (m8 w m n fun i=>f (n-1-i))):=by
 have rf:∀{l1 l2:List Nat} {g1 g2:Nat->Nat->Pl},(∀i,i<n->g1 i=g2 i)->ki 1 [(0,0)] [(0,m8 w m n g1)] [(0,m8 w m n g2)]:=fun h=>cj rfl rfl rfl (fun i hi=>cW rfl (by show aT _ _ _=aT _ _ _;rw[h i hi])) trivial;refine ax.down (ax.oy hT (cB bw) hm [1] (i:=0) (y:=part BN [1,0,0]) ah ah Re.dst hk (f1:=[]) (f2:=[9]) 60 yT 1
  (fun k:Nat=>B4 n k (n-1-k)) (fun k=>[(0,m8 w m n (lY n k f))]) (fun k=>2*k<=n) (fun k=>2*k<=n/\n<=2*k+1) (fun k=>n-k) (fun _=>False) ⟨_,aeC,?_⟩ (fun k h1=>⟨_,aiw,?_⟩) (fun k s' ⟨h1,h2⟩ hle=>?_) (fun _ _ h=>h.elim))
 all_goals try simp only[ag.all,ay,br,bC,bg,Nat.add_zero]
 ·refine⟨aa,0,Nat.zero_le _,[(0,0)],rfl,?_,rfl,rf (l1:=[]) (l2:=[]) fun i hi=>(show f i=lY n 0 f i by unfold lY;rw[if_neg aa])⟩;show _=(B4 n 0 (n-1-0)).map _;have:((n-1-0:Nat):Int)=(n:Int)-1:=aa;show _=[_,_,AV.int .i64 ((n-1-0:Nat):Int)]
  rw[this];rfl
 ·refine⟨fun h=>⟨aa,aa,k+1,aa,by dsimp only;omega,[(0,0)],rfl,?_,rfl,cj rfl rfl rfl (fun i hi=>cW rfl ?_) trivial⟩,fun h=>⟨rfl,k,⟨h1,aa⟩,[(0,0)],rfl,rfl,rfl,rf (l1:=[]) (l2:=[]) fun _ _=>rfl⟩⟩
  ·have:((n-1-(k+1):Nat):Int)=((n-1-k:Nat):Int)-1:=aa;show _=[_,AV.int .i64 ((k+1:Nat):Int),AV.int .i64 ((n-1-(k+1):Nat):Int)]
   rw[this];rfl
  ·have hi:i<n:=hi;show ak 12 _ _=aT (lY n (k+1) f i) m w;rw[YT aa hi];by_cases a1:i=n-1-k
   ·subst a1;simp only[beq_self_eq_true,cond_true,if_true]
   ·have b1:(i==n-1-k)=false:=by simpa using a1
    by_cases a2:i=k
    ·subst a2;simp only[b1,beq_self_eq_true,cond_true,cond_false,if_true,if_neg a1]
    ·have b2:(i==k)=false:=by simpa using a2
     simp only[b1,b2,cond_false,if_neg a1,if_neg a2]
 ·refine .inr ⟨_,_,hle.choose_spec,.inl rfl,yT,B4 n k (n-1-k),[],[(0,m8 w m n (lY n k f))],_,rfl,ah,trivial,rfl,rfl,rfl,rfl,rfl,fun x hx=>?_⟩;have hx:x<n:=hx;show gq _ (aT (lY n k f x) m w) (aT (f (n-1-x)) m w);rw[ajY h1 h2 hx];exact gm rfl
theorem Yb:aW P Eo HJ:=by
 intro K args pre r h;unfold Eo at h;split at h
 ·rename_i k n k' m f;split at h
  ·rename_i hc;have hc:=eq_of_beq hc;subst hc;simp only[az]at h;subst h;intro need;have h0:=need;obtain⟨rfl,n1,n2,n3⟩:=need;exact Oo hT Re (rest:=[]) (ws:=[]) (o2:=⟨true,true,1,m,f⟩) (o:=m8 2100 (dn (f 0)) m (dh f)) rfl rfl aV (fun ρ=>⟨rfl,rfl,rfl,rfl,fun i hi=>mR (n3 i hi).1 (n3 i hi).2⟩) (fun _ c hk=>aed n1 n2 c hk) K h0
  ·simp at h
 ·simp at h
theorem Tb:aW P LX 95:=by
 refine sA fun K args r hk hs=>?_;split at hs
 ·rename_i u v;split at hs
  ·rename_i s q1 _ q2 hu hv;simp only[az]at hs;subst hs;refine akd hT FY (args0:=[bM s 2000 2000,.func 96 []]) (fun hn=>uu hk (by cases u<;>cases v<;>first|rfl|simp[gh,kF]at hu hv) ⟨(gh 2000 2000).ok hu (dS.1 hn).1,(kF 96).ok hv (dS.1 (dS.1 hn).2).1,trivial⟩) aV fun hn c hkp=>?_;obtain⟨h1,h2,h3,h4⟩:=(dS.1 (dS.1 hn).2).2;refine Oq h1 h2 h3 h4 hkp (ax.bE hT F2 hm 60 [4] ajq ah ?_);simp only[ag.all,ay];exact⟨aa,fun s' hs'=>⟨.inr trivial,[4],_,[.agg [.int .i64 s.u,.int .i64 s.v,bu s.ku s.a 2100,bu s.kv s.b 2100,.own 2 1 0 s.n]],[0<1],_,2,_,hs',ah,Nat.zero_lt_one,⟨⟨rfl,Lh ⟨aM,aM,aM,aM,⟨rfl,cN (by simp[bk,look]) rfl rfl⟩,trivial⟩⟩,trivial⟩,rfl,ji rfl fun i hi=>gm rfl⟩⟩
  ·simp at hs
 ·simp at hs
theorem ZI:aW P Lz 98:=cr fun⟨⟨n,k⟩,_⟩ K hn=>ZX (w:=6002) (by decide) (by decide) hn K
theorem ag7:bn P QC:=cB (aH ZI (aH Tb (aH Yb bw)))
theorem gI.mup (h:gI (mM s)) {x y z:Nat}:bV (.agg [.int .i64 s.u,.int .i64 s.v,bu (iJ s.a s.ku) s.a x,bu s.kv s.b y,fK (fun i=>s.f (s.n-1-i)) s.n s.m z]) (bM (mM s) 2000 2000):=
 cM ⟨.refl _,.refl _,fI fun i hi=>dB rfl (h.ku i hi),fI fun i hi=>dB rfl (h.kv i hi),fI fun i hi=>fI fun j hj=>cM ⟨cM ⟨dB rfl (h.x i j hi hj),dB rfl (h.y i j hi hj),dB rfl (h.z i j hi hj),trivial⟩,dB rfl (h.d i j hi hj),trivial⟩,trivial⟩
theorem afl:aW P QZ 29:=cr fun⟨s,_⟩ K hn=>by
 obtain⟨n1,n2,n3,n4,n5,n6⟩:s.a<2^28/\s.b<2^28/\1<=s.n/\s.n<2^28/\s.m<2^28/\gI (mM s):=hn;have lv:dn (aT (s.f 0) s.m 2000)=s.m:=rfl;refine b9 (r:=aJ (bM (mM s) 2000 2000) []) hT ag7 hm afr rfl aV rfl 60 ajD (fun _=>?_) K [];simp only[ag.all,ay,lv];exact⟨⟨aa,bL (by decide),bL (by decide),fo (by decide),aa,aa,aa,aa,aa⟩,⟨aa,bL (by decide),aa,aa⟩,⟨aa,trivial,n3,aa,fun i hi=>⟨rfl,.refl _⟩⟩,aa,aa,n6.mup⟩
theorem ack (hs:fc s) (ht:e9 t) (he:ig (bK s 0) t=0) (hu:¬bf s.a s.ku u):cO (ju s t)/\¬bf (ju s t).a (ju s t).ku u/\fB (ju s t) u v=fB s u v:=by
 rw[show ju s t=gp (fun c=>gx c t) s from if_pos he];have he2:∀j,ig (bK s j) t=0:=fun _=>he;exact(N6 hs ht he).pts hs (fun j=>((hs.c j).d.ins ht (he2 j)).kn) (fun i j _=>((hs.c j).d.ins ht (he2 j)).pos i) hu fun j=>akM (hs.c j).d.kn (hs.c j).d.pos (he2 j) hu
theorem aj1 (he:ig (bK s 0) t=0):(ju s t).b=s.b/\(ju s t).kv=s.kv:=by
 rw[show ju s t=gp (fun c=>gx c t) s from if_pos he];exact⟨rfl,rfl⟩
theorem ajL (hs:fc s) (h5:s.u<=5) (hu:¬bf s.a s.ku u):cO (gp fC s)/\¬bf (gp fC s).a (gp fC s).ku u/\fB (gp fC s) u v=fB s u v:=by
 have hk:∀j,jM (fC (bK s j)):=fun j=>Uf (hs.c j).d.kn h5 hs.kQ;refine(B0 hs h5).pts hs hk (fun i j hi=>?_) hu fun j=>Uj (hs.c j).d.kn (hs.c j).d.pos (show¬6<=s.u by omega) hu (hk j);have hi:i<(fC (bK s j)).m:=by rw[(B0 hs h5).mm j];exact hi
 rw[show fC (bK s j)=qu (gJ (eR (bK s j)))from if_neg (show¬6<=s.u by omega)]at hi ⊢;exact Ld (hs.c j).d.kn (hs.c j).d.pos hi
theorem amr (hs:fc s) (h5:s.v<=5) (hu:¬bf s.a s.ku u) (hv:¬bf s.b s.kv v):
  cO (dc (gp fC (dc s)))/\¬bf (dc (gp fC (dc s))).b (dc (gp fC (dc s))).kv v/\fB (dc (gp fC (dc s))) u v=fB s u v:=by
 obtain⟨a,b,c⟩:=ajL (s:=dc s) (u:=v) (v:=u) hs.swap h5 hv;exact⟨a.swap,b,(It a b (show¬bf (gp fC (dc s)).b (gp fC (dc s)).kv u from hu)).trans (c.trans (It hs.ok hu hv))⟩
theorem JM (hs:fc s):cO (mM s)/\gI (mM s):=by
 obtain⟨ku,kv,u0,u6,v0,v6,ha,hb,hn,hm2,hw⟩:=id hs.ok;obtain⟨z1,z2,z3,z4,z5,z6⟩:=id hs.z;refine⟨⟨ku.Ln,kv,u0,u6,v0,v6,ha,hb,hn,hm2,fun i j hi hj=>?_⟩,⟨fun i _=>?_,z2,fun i j hi hj=>?_,fun i j hi hj=>?_,fun i j hi hj=>?_,fun i j hi hj=>?_⟩⟩
 ·have hi:i<s.n:=hi;exact hw _ j (show s.n-1-i<s.n by omega) hj
 ·have h:=fun i=>((hs.c 0).h i).zn.sz;exact(((h 0).add (h (s.a-1))).sub (h (s.a-1-i))).more (by decide)
 all_goals
  have hi:i<s.n:=hi;have e:s.n-1-i<s.n:=aa
  first|exact z3 _ j e hj|exact z4 _ j e hj|exact z5 _ j e hj|exact z6 _ j e hj
theorem abe (hs:fc s) (hu:¬bf s.a s.ku u):¬bf (mM s).a (mM s).ku (s.ku 0+s.ku (s.a-1)-u)/\fB (mM s) (s.ku 0+s.ku (s.a-1)-u) v=fB s u v:=by
 have h:=fun j=>SJ (c:=bK s j) (hs.c j).d.kn hu;exact⟨(h 0).1,Qx hs.ok (JM hs).1 hu (h 0).1 rfl rfl rfl rfl fun j e=>(h j).2 e⟩
end Go.Am.B
