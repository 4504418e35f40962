/- surface: iso, Eval, IsoU. -/
import Derived.Test.YtfjlccdmhpdiiaaGreatY9
import Derived.Test.YtfjlccdmhpdiiaaGreatY7
import Derived.Test.YtfjlccdmhpdiiaaGreatZ2
import Derived.Test.YtfjlccdmhpdiiaaGreatY8
set_option linter.unusedVariables false
variable {a g k x:Nat->Rat}{N i j l m n p r s s' w:Nat}{q t u:Rat}{e:Int}
noncomputable section
namespace Go.Am.B
open Go Go.Am.N AV ag au IntKind Proofs.Tryz
variable {c:Cu}{h:Pl}{f:Nat->Pl}
theorem EU:aU 113 f113:=aS func113
theorem agi:aU 37 f37:=aS func37
theorem NW:aU 38 f38:=aS func38
theorem Hy (h:s<=s'):mJ (fun i=>bI (f i) s) m s':=fun _ _=>rM rfl h
def p8:Cu:=⟨0,0,fun _=>0,0,fun _=>⟨⟨0,0,0⟩,0⟩⟩
def lV (s:Sf) (u:Rat):Cu:=if bf s.a s.ku u then p8 else⟨s.v,s.b,s.kv,s.m,fun j=>eC (cq s j) u⟩
def vO:aX:=nG::(52,EO)::(135,Gq)::(114,OT)::[]
abbrev xH:List Nat:=[4,5,3,6,21,22,23]
abbrev DX (s:Sf) (j:Nat):List AV:=[.ptr 1 0 3 0 [],.int .i64 0,.ptr 0 0 3 0 [],.ptr 2 0 3 0 [],lS s s.m,.int .i64 s.m,.int .i64 j]
abbrev Iu (s:Sf) (u:Rat) (j:Nat):aC:=[(3,⟨true,true,12,j,fun j=>bI (eC (cq s j) u) sH⟩),(2,⟨false,true,3,1,fun _=>.agg [.int .i64 s.v,bu s.kv s.b 2000,.own 3 12 0 j]⟩),(1,⟨false,true,3,1,fun _=>.agg [.int .i64 0,.nil,.nil]⟩),(0,tP u sK)]
abbrev m9:Code:=aE f113
abbrev C8:List Nat:=[4,5,3,21,22,23]
abbrev K5 (s:Sf):List AV:=[.ptr 1 0 3 0 [],.int .i64 0,.ptr 0 0 3 0 [],lS s s.m,.int .i64 s.m,.int .i64 ((0:Nat):Int)]
abbrev Jr (u:Rat):aC:=[(1,⟨false,true,3,1,fun _=>.agg [.int .i64 0,.nil,.nil]⟩),(0,tP u sK)]
abbrev YO (u:Rat):aC:=[(0,tP u sK),(1,⟨false,true,3,1,fun j=>if(j==0)=true then bp (.agg (AV.kids (.agg [.int .i64 0,.nil,.nil])))else .agg [.int .i64 0,.nil,.nil]⟩)]
def I6:Spec:=cz (kC (sI sK sH) (kC (gv sK) kN)) (fun a=>.tuple [bI (eC a.1 a.2.1) oF,.int .i64 (cA a.1.n a.1.k a.2.1)]) fun a=>[Kn a.1.n a.1.p.toNat a.1.k,0<=a.1.p,a.1.p<=6,a.1.n<2^40,(a.1.m:Int)=(a.1.n:Int)-a.1.p-1]
def MS:Spec:=cz (kC (Br oF) kN) (fun a=>bH (dG a.1) HT) fun _=>[]
def Is:Spec:=cz (kC (gh 2000 2000) (kC (gv sK) kN)) (fun a=>.tuple [eo (lV a.1 a.2.1) 2000 sH,.int .i64 (cA a.1.a a.1.ku a.2.1)]) fun a=>[cO a.1,1<=a.1.u,1<=a.1.v]
def PM:aX:=nG::(113,Is)::(114,I6)::(115,MS)::[]
def Ct:aX:=nG::(113,Is)::(116,AQ 2000 sK)::(115,Sj)::[]
abbrev xY:List Nat:=[4,5,8,28,29,30]
abbrev EZ (c:Cu) (j:Nat):List AV:=[.ptr 0 0 3 0 [],.int .i64 0,.ptr 1 0 3 0 [],qY c.f c.m sH,.int .i64 c.m,.int .i64 j]
abbrev Ff (c:Cu) (j:Nat):aC:=[(2,⟨true,true,12,j,fun j=>bH (dG (c.f j)) sE⟩),(1,⟨false,true,3,1,fun _=>.agg [.int .i64 c.p,bu c.k c.n sK,.own 2 12 0 j]⟩),(0,⟨false,true,3,1,fun _=>.agg [.int .i64 0,.nil,.nil]⟩)]
abbrev wm:Code:=aE f38
theorem W4:kM T f38 .ret ⟨aA [4,5] [.ptr 8192 0 3 0 [],.int .i64 e],[(8192,⟨false,true,3,1,fun j=>if(j==0)=true then bp (.agg (AV.kids (.agg [.int .i64 0,.nil,.nil])))else .agg [.int .i64 0,.nil,.nil]⟩)],8193⟩=
  some (aj [(0:Nat)<1] (leaf ret [agg [int i64 0,nil,nil],int i64 e])):=ah
theorem aeB {s:Sf}:aI T vO [200013] 60 xH (before m9 [1,1,1,0,1]) ⟨aN 0 [bM s 2000 2000,.rat u sK],[],0⟩=
  let k:=int i64 0;let e:=0<1;let g:=dn (aT (s.f 0) s.m 2000);let h:=agg [k,nil,nil];some (aj [e,bh (fun i=>rat (s.ku i) 2000) s.a sJ,bh (fun i=>rat (s.kv i) 2000) s.b sJ,dN (fun i=>aT (s.f i) s.m 2000) s.n sJ,cO (Sf.mk s.u s.v s.a (fun i=>aF (rat (s.ku i) 2000)) s.b (fun i=>aF (rat (s.kv i) 2000)) s.n g (dh fun i=>aT (s.f i) s.m 2000))] (aj [(!true)=false] (aj [e,e,e] (aj [e,bh (fun i=>rat (s.ku i) 2000) s.a 2000,bh (fun i=>rat (s.kv i) 2000) s.b 2000,dN (fun i=>aT (s.f i) s.m 2000) s.n 2000,(1:Nat)<=s.n,s.n<2^28,g<2^28] (leaf normal ([ptr 8192 0 3 0 [],k,ptr 4096 0 (bp (rat u sK)).size 0 [],ptr 49152 0 3 0 [],ak 3 g fun j=>agg [int i64 s.u,ak 3 s.a fun i=>rat (aF (rat (s.ku i) 2000)) 2000,ak 12 s.n fun i=>agg [rat (aF (rat (s.f i j).d 2000)*aF (rat (s.f i j).n.x 2000)) 4000,rat (aF (rat (s.f i j).d 2000)*aF (rat (s.f i j).n.y 2000)) 4000,rat (aF (rat (s.f i j).d 2000)*aF (rat (s.f i j).n.z 2000)) 4000,rat (aF (rat (s.f i j).d 2000)) 4000]],int i64 (↑g:Int),k],[((49152:Nat),bG fun j=>if(j==0)=true then bp (agg ((h.kids.set 0 (bp (int i64 s.v))).set 1 (bp (bu s.kv s.b 2000))))else h),(4096,aq.mk false true (bp (rat u sK)).size 1 fun x=>rat u 4096),((8192:Nat),bG fun x=>h)])))))):=ah
theorem aml {s:Sf}:aI T vO [24,34] 60 xH [part m9 [1,1,1,0,1,0,0]] ⟨aA xH (DX s j),Iu s u j,4⟩=
  let l:=(↑s.m:Int);let k:=int i64 0;let w:=own 3 12 0 j;let t:=ptr 2 0 3 0 [];let r:=ptr 0 0 3 0 [];let q:=cA s.a (fun i=>aF (rat (s.ku i) 2000)) u;let e:=rat 0 1;let d:=(↑j:Int);let p:Nat×aq:=((0:Nat),bG fun x=>rat u 4096);let y:=ptr 1 0 3 0 [];let g:=0<1;let A:Nat×aq:=(3,aq.mk true true 12 j fun j=>bI (eC (cq s j) u) 2147483648);let z:=lS s s.m;let o:=d+1;let h:=agg [k,nil,nil];let E:=agg [int i64 s.v,bu s.kv s.b 2000,w];let D:=[r,t,z,int i64 l,int i64 d];let B:Nat×aq:=((2:Nat),bG fun x=>agg [int i64 s.v,ak 3 s.b fun i=>rat (s.kv i) 2000,w]);let F:Pl:=eC (Cu.mk s.u s.a (fun i=>aF (rat (s.ku i) 2000)) s.n fun i=>uo (bI (cy (s.f i d.toNat)) 4000)) u;let C:List (Nat×aq):=[p,((1:Nat),bG fun x=>h)];some (fork (decide (d<l)) (aj [(0:Int)<=d/\d.toNat<s.m,g] (aj [g,g,bh (fun i=>rat (s.ku i) 2000) s.a sK,mJ (fun i=>bI (cy (s.f i d.toNat)) 4000) s.n (sJ+sJ),sK<=sK,Kn s.a s.u.toNat fun i=>aF (rat (s.ku i) 2000),(0:Int)<=s.u,s.u<=6,s.a<2^40,(↑s.n:Int)=(↑s.a:Int)-s.u-1,g] (fork (q !=(0:Int)) (aj [g] (leaf ret (y::int i64 q::D,[A,B,p,((1:Nat),bG fun j=>if(j==0)=true then bp (agg h.kids)else h)]))) (aj [g,g,(1:Nat)*12<=2^24,(j+1)*((224:Nat)+1)*2<=2^47,g] (aj [-(2:Int)^63<=o/\o<2^63] (leaf normal ([y,k,r,t,z,int i64 l,int i64 o],(81924,aq.mk true true 12 (j+1) fun i=>if i<j then bI (eC (cq s i) u) sH else nth [bI F sH] (agg [e,e,e,e]) (i-j+0))::((2:Nat),bG fun j_1=>if(j_1==0)=true then agg (E.kids.set 2 (bp (own (nat_lit 81923+1) 12 0 (j+1))))else E)::C))))))) (leaf (exit 0) (y::k::D,A::B::C))):=ah
theorem aiL {s:Sf}:ct T vO [] 60 f113 [part m9 [1,1,1,1]] ⟨aA xH (DX s j),Iu s u j,4⟩=
  let a:=0<1;some (aj [a,a] (aj [a] (leaf ret [agg [int i64 s.v,ak 3 s.b fun i=>rat (s.kv i) 2000,ak 12 j fun i=>agg [rat (eC (cq s (i+0)) u).n.x 2147483648,rat (eC (cq s (i+0)) u).n.y 2147483648,rat (eC (cq s (i+0)) u).n.z 2147483648,rat (eC (cq s (i+0)) u).d 2147483648]],int i64 0]))):=ah
theorem abl {s:Sf}:aI T vO [200013] 60 C8 (before m9 [1,1,1,0,1]) ⟨aN 0 [bM s 2000 2000,.rat u sK],[],0⟩=
  let h:=int i64 0;let e:=0<1;let g:=dn (aT (s.f 0) s.m 2000);some (aj [e,bh (fun i=>rat (s.ku i) 2000) s.a sJ,bh (fun i=>rat (s.kv i) 2000) s.b sJ,dN (fun i=>aT (s.f i) s.m 2000) s.n sJ,cO (Sf.mk s.u s.v s.a (fun i=>aF (rat (s.ku i) 2000)) s.b (fun i=>aF (rat (s.kv i) 2000)) s.n g (dh fun i=>aT (s.f i) s.m 2000))] (aj [(!true)=false] (aj [e,e,e] (aj [e,bh (fun i=>rat (s.ku i) 2000) s.a 2000,bh (fun i=>rat (s.kv i) 2000) s.b 2000,dN (fun i=>aT (s.f i) s.m 2000) s.n 2000,(1:Nat)<=s.n,s.n<2^28,g<2^28] (leaf normal ([ptr 8192 0 3 0 [],h,ptr 4096 0 (bp (rat u sK)).size 0 [],ak 3 g fun j=>agg [int i64 s.u,ak 3 s.a fun i=>rat (aF (rat (s.ku i) 2000)) 2000,ak 12 s.n fun i=>agg [rat (aF (rat (s.f i j).d 2000)*aF (rat (s.f i j).n.x 2000)) 4000,rat (aF (rat (s.f i j).d 2000)*aF (rat (s.f i j).n.y 2000)) 4000,rat (aF (rat (s.f i j).d 2000)*aF (rat (s.f i j).n.z 2000)) 4000,rat (aF (rat (s.f i j).d 2000)) 4000]],int i64 (↑g:Int),h],[(4096,aq.mk false true (bp (rat u sK)).size 1 fun x=>rat u 4096),((8192:Nat),bG fun x=>agg [h,nil,nil])])))))):=ah
theorem T8 {s:Sf}:aI T vO [100024,100034] 60 C8 [part m9 [1,1,1,0,1,0,0]] ⟨aA C8 (K5 s),Jr u,2⟩=
  let g:=agg [int i64 0,nil,nil];let e:=cA s.a (fun i=>aF (rat (s.ku i) 2000)) u;let d:=(↑(0:Nat):Int);let b:=0<1;some (aj [decide (d<(↑s.m:Int))=true] (aj [(0:Int)<=d/\d.toNat<s.m,b] (aj [b,b,bh (fun i=>rat (s.ku i) 2000) s.a sK,mJ (fun i=>bI (cy (s.f i d.toNat)) 4000) s.n (sJ+sJ),sK<=sK,Kn s.a s.u.toNat fun i=>aF (rat (s.ku i) 2000),(0:Int)<=s.u,s.u<=6,s.a<2^40,(↑s.n:Int)=(↑s.a:Int)-s.u-1,b] (aj [(e !=(0:Int))=true] (aj [b] (leaf ret ([ptr 1 0 3 0 [],int i64 e,ptr 0 0 3 0 [],lS s s.m,int i64 (↑s.m:Int),int i64 0],[((0:Nat),bG fun x=>rat u 4096),((1:Nat),bG fun j=>if(j==0)=true then bp (agg g.kids)else g)]))))))):=ah
theorem UT:kM T f113 .ret ⟨aA [4,5,3] [.ptr 1 0 3 0 [],.int .i64 e,.ptr 0 0 3 0 []],YO u,2⟩=
  some (aj [(0:Nat)<1] (leaf ret [agg [int i64 0,nil,nil],int i64 e])):=ah
theorem Sr {s:Sf} {v:Rat}:bX T PM [18,28] 60 f37 (aE f37) ⟨aN 0 [bM s 2000 2000,.rat u sK,.rat v sK],[],0⟩=
  let q:=cA s.a (fun i=>aF (rat (s.ku i) 2000)) u;let j:=rat 0 1;let l:Sf:=Sf.mk s.u s.v s.a (fun i=>aF (rat (s.ku i) 2000)) s.b (fun i=>aF (rat (s.kv i) 2000)) s.n (dn (aT (s.f 0) s.m 2000)) (dh fun i=>aT (s.f i) s.m 2000);let g:=0<1;let e:Cu:=lV l u;let o:=cA e.n (fun i=>aF (rat (e.k i) 2000)) v;let h:Pl:=eC (Cu.mk e.p e.n (fun i=>aF (rat (e.k i) 2000)) e.m fun i=>uo (bI (e.f i) sH)) v;some (aj [g,g,bh (fun i=>rat (s.ku i) 2000) s.a 2000,bh (fun i=>rat (s.kv i) 2000) s.b 2000,dN (fun i=>aT (s.f i) s.m 2000) s.n 2000,sK<=sK,cO l,(1:Int)<=s.u,(1:Int)<=s.v,g] (fork (q !=(0:Int)) (aj [g] (aj [g] (leaf ret [agg [j,j,j],int i64 q]))) (aj [g,g,bh (fun i=>rat (e.k i) 2000) e.n sK,mJ (fun i=>bI (e.f i) sH) e.m sH,sK<=sK,Kn e.n e.p.toNat fun i=>aF (rat (e.k i) 2000),(0:Int)<=e.p,e.p<=6,e.n<2^40,(↑e.m:Int)=(↑e.n:Int)-e.p-1,g] (fork (o !=(0:Int)) (aj [g] (aj [g] (leaf ret [agg [j,j,j],int i64 o]))) (aj [g,oF<=oF,oF<=oF,oF<=oF,oF<=oF,g] (aj [g] (leaf ret [agg [rat (h.n.x/h.d) 137438953474,rat (h.n.y/h.d) 137438953474,rat (h.n.z/h.d) 137438953474],int i64 0]))))))):=ah
theorem af6 {s:Sf}:aI T Ct [18] 60 xY (before wm [1,1,1,1,0,1]) ⟨aN 0 [bM s 2000 2000,.rat u sK],[],0⟩=
  let h:=int i64 0;let q:=ptr 8192 0 3 0 [];let o:=cA s.a (fun i=>aF (rat (s.ku i) 2000)) u;let e:=0<1;let l:Sf:=Sf.mk s.u s.v s.a (fun i=>aF (rat (s.ku i) 2000)) s.b (fun i=>aF (rat (s.kv i) 2000)) s.n (dn (aT (s.f 0) s.m 2000)) (dh fun i=>aT (s.f i) s.m 2000);let d:Cu:=lV l u;let g:=agg [h,nil,nil];some (aj [e,e,bh (fun i=>rat (s.ku i) 2000) s.a 2000,bh (fun i=>rat (s.kv i) 2000) s.b 2000,dN (fun i=>aT (s.f i) s.m 2000) s.n 2000,sK<=sK,cO l,(1:Int)<=s.u,(1:Int)<=s.v,e] (fork (o !=(0:Int)) (aj [e] (leaf ret ([q,int i64 o,tuple [],tuple [],tuple [],tuple []],[((8192:Nat),bG fun j=>if(j==0)=true then bp (agg g.kids)else g)]))) (aj [e,e,bh (fun i=>rat (d.k i) 2000) d.n 2000,(2000:Nat)+10<=sK,sK<2^40,d.n<2^40,e] (aj [e] (leaf normal ([q,h,ptr 86016 0 3 0 [],ak 12 d.m fun i=>bI (d.f i) 2147483648,int i64 (↑d.m:Int),h],[((86016:Nat),bG fun j=>if(j==0)=true then bp (agg ((g.kids.set 0 (bp (int i64 d.p))).set 1 (bp (bu (fun i=>aF (rat (d.k i) 2000)) d.n sK))))else g),((8192:Nat),bG fun x=>g)])))))):=ah
theorem TG:aI T Ct [31] 60 xY [part wm [1,1,1,1,0,1,0,0]] ⟨aA xY (EZ c j),Ff c j,3⟩=
  let b:=(↑c.m:Int);let a:=int i64 0;let l:=own 2 12 0 j;let v:=ptr 1 0 3 0 [];let u:=ptr 0 0 3 0 [];let q:=0<1;let h:=(↑j:Int);let o:=rat 0 1;let r:=ak 12 c.m fun i=>bI (c.f i) 2147483648;let e:=h+1;let t:=agg [int i64 c.p,bu c.k c.n sK,l];let s:Nat×aq:=((0:Nat),bG fun x=>agg [a,nil,nil]);let g:Pl:=c.f h.toNat;some (fork (decide (h<b)) (aj [(0:Int)<=h/\h.toNat<c.m,q] (aj [q,q,sH<=sH,sH<=sH,sH<=sH,sH<=sH,(1:Nat)*12<=2^24,(j+1)*((224:Nat)+1)*2<=2^47,q] (aj [-(2:Int)^63<=e/\e<2^63] (leaf normal ([u,a,v,r,int i64 b,int i64 e],[(40963,aq.mk true true 12 (j+1) fun i=>if i<j then bH (dG (c.f i)) sE else nth [agg [agg [rat (g.n.x/g.d) sE,rat (g.n.y/g.d) sE,rat (g.n.z/g.d) sE],rat g.d sE]] (agg [agg [o,o,o],o]) (i-j+0)),((1:Nat),bG fun j_1=>if(j_1==0)=true then agg (t.kids.set 2 (bp (own (nat_lit 40962+1) 12 0 (j+1))))else t),s]))))) (leaf (exit 0) ([u,a,v,r,int i64 b,int i64 h],[(2,aq.mk true true 12 j fun j=>agg [agg [rat ((c.f j).n.x/(c.f j).d) 4294967298,rat ((c.f j).n.y/(c.f j).d) 4294967298,rat ((c.f j).n.z/(c.f j).d) 4294967298],rat (c.f j).d 4294967298]),((1:Nat),bG fun x=>agg [int i64 c.p,ak 3 c.n fun i=>rat (c.k i) 4096,l]),s]))):=ah
theorem ahl:ct T Ct [] 60 f38 [part wm [1,1,1,1,1]] ⟨aA xY (EZ c j),Ff c j,3⟩=
  let a:=0<1;some (aj [a,a] (aj [a] (leaf ret [agg [int i64 c.p,ak 3 c.n fun i=>rat (c.k i) 4096,ak 12 j fun i=>agg [agg [rat ((c.f (i+0)).n.x/(c.f (i+0)).d) 4294967298,rat ((c.f (i+0)).n.y/(c.f (i+0)).d) 4294967298,rat ((c.f (i+0)).n.z/(c.f (i+0)).d) 4294967298],rat (c.f (i+0)).d 4294967298]],int i64 0]))):=ah
theorem akN:aW P I6 114:=cr fun⟨c,t,_⟩ K hn=>On (by decide) (by decide) hn.1 hn.2.1 hn.2.2.1 hn.2.2.2.1 hn.2.2.2.2 K
theorem YH:aW P MS 115:=cr fun⟨h,_⟩ K _=>EY (by decide) (by decide) (by decide) K
theorem El:bn P vO:=cB (aH Rq (aH PC (aH WA bw)))
theorem ail {s:Sf} (h:bf s.a s.ku u):lV s u=p8:=if_pos h
theorem CL {s:Sf} (h:¬bf s.a s.ku u):lV s u=⟨s.v,s.b,s.kv,s.m,fun j=>eC (cq s j) u⟩:=if_neg h
theorem aek {x y:Nat}:bV (.agg [.int .i64 0,.nil,.nil]) (eo p8 x y):=cM ⟨.refl _,iT (by decide),iT (by decide),trivial⟩
theorem aiB {s:Sf} (hs:cO s) (K:Nat):aQ P 113 K [bM s 2000 2000,.rat u sK] [] (aJ (.tuple [eo (lV s u) 2000 sH,.int .i64 (cA s.a s.ku u)]) []):=by
 refine fV (r:=aJ (.tuple [eo (lV s u) 2000 sH,.int .i64 (cA s.a s.ku u)]) []) hT EU rfl aV rfl (fun _ cx h00=>?_) K [];have hk:=iL h00;obtain⟨ku,kv,u0,u6,v0,v6,ha,hb,hn,hm2,hw⟩:=id hs;have hlu:=ku.len;have hlv:=kv.len;have hpu:=ku.p1;have hpv:=kv.p1;have hm1:1<=s.m:=aa;have lv:dn (aT (s.f 0) s.m 2000)=s.m:=rfl;by_cases hout:bf s.a s.ku u
 ·have hE:cA s.a s.ku u=7:=by unfold cA;rw[if_pos hout]
  refine ax.mY hT El hm (x:=m9) [1,1,1,0,1] (i:=0) (y:=part m9 [1,1,1,0,1,0,0]) (z:=part m9 [1,1,1,1]) ah ah ah EU.dst hk (f1:=[200013]) (f2:=[100024,100034]) 60 C8 2 (fun _:Unit=>K5 s) (fun _=>Jr u) (fun _=>True) (fun _=>False) (fun _=>0) (vw T f113 [4,5,3] (.tuple [eo (lV s u) 2000 sH,.int .i64 (cA s.a s.ku u)]))
   ⟨_,abl,?_⟩ (fun _ _=>⟨_,T8,?_⟩) (fun _ h=>h.elim) (fun v s' hv hs'=>hv.fin (L1:=[21,22,23]) hk hs')
  ·simp only[ag.all,ay,lv];exact⟨⟨aa,bL (by decide),bL (by decide),fo (by decide),hs⟩,rfl,⟨aa,aa,aa⟩,⟨aa,bL (by decide),bL (by decide),fo (by decide),aa,aa,aa⟩,(),trivial,[(0,4096),(1,8192)],rfl,rfl,rfl,aL (aL trivial)⟩
  ·have hE':cA s.a (fun i=>aF (rat (s.ku i) 2000)) u=7:=hE;simp only[ag.all,ay,hE'];exact⟨decide_eq_true aa,⟨⟨aa,aa⟩,aa⟩,⟨aa,aa,bL (by decide),Hy (by decide),bq,ku,u0,u6,aa,hn,aa⟩,by decide,aa,[_,_,_],_,2,_,rfl,rfl,rfl,UT,rfl,⟨⟨aa,fun _ _=>rfl⟩,⟨aa,fun _ _=>qX rfl rfl⟩,trivial⟩,Nat.zero_lt_one,by rw[ail hout];exact aek,bP hE.symm,trivial⟩
 ·have hE:cA s.a s.ku u=0:=by unfold cA;rw[if_neg hout]
  refine ax.mY hT El hm (x:=m9) [1,1,1,0,1] (i:=0) (y:=part m9 [1,1,1,0,1,0,0]) (z:=part m9 [1,1,1,1]) ah ah ah EU.dst hk (f1:=[200013]) (f2:=[24,34]) 60 xH 4 (fun j:Nat=>DX s j) (fun j=>Iu s u j) (fun j=>j<=s.m) (fun j=>j=s.m) (fun j=>s.m-j) (fun _=>False)
   ⟨_,aeB,?_⟩ (fun j hj=>⟨_,aml,?_⟩) (fun j hj=>?_) (fun _ _ h=>h.elim)
  ·simp only[ag.all,ay,lv];exact⟨⟨aa,bL (by decide),bL (by decide),fo (by decide),hs⟩,rfl,⟨aa,aa,aa⟩,⟨aa,bL (by decide),bL (by decide),fo (by decide),aa,aa,aa⟩,0,Nat.zero_le _,[(0,4096),(1,8192),(2,49152)],rfl,rfl,rfl,jP rfl aa aa (cP rfl rfl (lP ⟨aM,aM,⟨rfl,pY aa⟩,trivial⟩) (aL (aL trivial)))⟩
  ·have hE':cA s.a (fun i=>aF (rat (s.ku i) 2000)) u=0:=hE;simp only[ag.all,ay,br,bC,bg,Nat.add_zero,hE'];exact⟨fun h=>⟨⟨⟨aa,aa⟩,aa⟩,⟨aa,aa,bL (by decide),Hy (by decide),bq,ku,u0,u6,aa,hn,aa⟩,fun h=>absurd h (by decide),fun _=>⟨⟨aa,aa,aa,aa,aa⟩,aa,j+1,aa,by dsimp only;omega,[(0,0),(1,1),(2,2),(3,81924)],rfl,rfl,rfl,cj rfl rfl rfl (fun k hk=>qe (g:=fun j=>bI (eC (cq s j) u) sH) (fun _ _=>⟨rfl,rfl⟩) rfl (rM (h:=eC (cq s j) u) rfl bq) hk) (cP rfl rfl (qT rfl rfl rfl) (aL (aL trivial)))⟩⟩,
    fun h=>⟨rfl,j,aa,[(0,0),(1,1),(2,2),(3,3)],rfl,rfl,rfl,cX (cP rfl rfl (qT rfl rfl rfl) (aL (aL trivial)))⟩⟩
  ·subst hj;refine ax.hH ((aG.fin hT El hm 60 aiL ah ?_).mono fun _ _ h=>.inl h);simp only[ag.all,ay];exact⟨⟨aa,aa⟩,aa,by rw[CL hout];exact .refl _,bP hE.symm,trivial⟩
theorem KH:aW P Is 113:=cr fun⟨s,u,_⟩ K hn=>aiB hn.1 K
def fB (s:Sf) (u v:Rat):V3:=if bf s.a s.ku u then⟨0,0,0⟩else if bf s.b s.kv v then⟨0,0,0⟩else(dG (eC (lV s u) v)).n
def nq (s:Sf) (u v:Rat):Int:=if bf s.a s.ku u then 7 else cA s.b s.kv v
theorem aaJ:bn P PM:=cB (aH KH (aH akN (aH YH bw)))
def BB:Spec:=cz (kC (gh 2000 2000) (kC (gv sK) (kC (gv sK) kN))) (fun a=>.tuple [vA (fB a.1 a.2.1 a.2.2.1) HT,.int .i64 (nq a.1 a.2.1 a.2.2.1)]) fun a=>[cO a.1]
theorem DR:aW P BB 37:=cr fun⟨s,u,v,_⟩ K hn=>by
 have hs:cO s:=hn;obtain⟨ku,kv,u0,u6,v0,v6,ha,hb,hn,hm2,hw⟩:=id hs;have hpu:=ku.p1;have hpv:=kv.p1;refine b9 (r:=aJ (.tuple [vA (fB s u v) HT,.int .i64 (nq s u v)]) []) hT aaJ hm agi rfl aV rfl 60 Sr (fun _=>?_) K [];have hE:cA s.a (fun i=>aF (rat (s.ku i) 2000)) u=cA s.a s.ku u:=rfl;simp only[ag.all,ay,hE,bne_iff_ne,ne_eq,bne_eq_false_iff_eq];generalize hg:lV _ u=c1;refine⟨⟨aa,aa,bL (by decide),bL (by decide),fo (by decide),bq,hs,aa,aa,aa⟩,fun h=>?_,fun h=>?_⟩
 ·have ho:=zK h;exact⟨aa,aa,Ak (u:=⟨0,0,0⟩) (by unfold fB;rw[if_pos ho]) (by decide),bP (by unfold nq cA;rw[if_pos ho,if_pos ho]),trivial⟩
 ·have ho:=uB h;have hc:c1=lV s u:=hg.symm;have hi:=CL ho;rw[hi]at hc;subst hc;have hE2:cA s.b (fun i=>aF (rat (s.kv i) 2000)) v=cA s.b s.kv v:=rfl;simp only[hE2];refine⟨⟨aa,aa,bL (by decide),Hy (by decide),bq,kv,v0,v6,aa,hm2,aa⟩,fun h2=>?_,fun h2=>⟨⟨aa,bq,bq,bq,bq,aa⟩,aa,?_⟩⟩
  ·have ho2:=zK h2;exact⟨aa,aa,Ak (u:=⟨0,0,0⟩) (by unfold fB;rw[if_neg ho,if_pos ho2]) (by decide),bP (by unfold nq;rw[if_neg ho]),trivial⟩
  ·have ho2:=uB h2;refine⟨Ak (u:=(dG (eC ⟨s.v,s.b,s.kv,s.m,fun j=>eC (cq s j) u⟩ v)).n) (by unfold fB;rw[if_neg ho,if_neg ho2,hi]) (by decide),bP (by unfold nq;rw[if_neg ho,h2]),trivial⟩
def jQ (s:Sf) (u:Rat):Cu:=if bf s.a s.ku u then p8 else⟨s.v,s.b,s.kv,s.m,fun j=>dG (eC (cq s j) u)⟩
theorem QH:bn P Ct:=cB (aH KH (aH (DI _ _) (aH aiH bw)))
def F4:Spec:=cz (kC (gh 2000 2000) (kC (gv sK) kN)) (fun a=>.tuple [gC (jQ a.1 a.2.1) sK sE,.int .i64 (cA a.1.a a.1.ku a.2.1)]) fun a=>[cO a.1]
theorem ajB {x y:Nat}:bV (.agg [.int .i64 0,.nil,.nil]) (gC p8 x y):=cM ⟨.refl _,iT (by decide),iT (by decide),trivial⟩
theorem Qs {s:Sf} (hs:cO s) (K:Nat):aQ P 38 K [bM s 2000 2000,.rat u sK] [] (aJ (.tuple [gC (jQ s u) sK sE,.int .i64 (cA s.a s.ku u)]) []):=by
 refine fV (r:=aJ (.tuple [gC (jQ s u) sK sE,.int .i64 (cA s.a s.ku u)]) []) hT NW rfl aV rfl (fun _ cx h00=>?_) K [];have hk:=iL h00;obtain⟨ku,kv,u0,u6,v0,v6,ha,hb,hn,hm2,hw⟩:=id hs;have hpu:=ku.p1;have hpv:=kv.p1;obtain⟨c,hc⟩:∃c:Cu,c=⟨s.v,s.b,s.kv,s.m,fun j=>eC (cq s j) u⟩:=⟨_,rfl⟩
 refine ax.mY hT QH hm (x:=wm) [1,1,1,1,0,1] (i:=0) (y:=part wm [1,1,1,1,0,1,0,0]) (z:=part wm [1,1,1,1,1]) ah ah ah NW.dst hk (f1:=[18]) (f2:=[31]) 60 xY 3 (fun j:Nat=>EZ c j) (fun j=>Ff c j) (fun j=>j<=c.m/\¬bf s.a s.ku u) (fun j=>j=c.m/\¬bf s.a s.ku u) (fun j=>c.m-j) (vw T f38 [4,5] (.tuple [gC (jQ s u) sK sE,.int .i64 (cA s.a s.ku u)]))
  ⟨_,af6,?_⟩ (fun j ⟨hj,hin⟩=>⟨_,TG,?_⟩) (fun j ⟨hj,hin⟩=>?_) (fun v s' hv hs'=>hv.fin (L1:=[8,28,29,30]) hk hs')
 ·have hE:cA s.a (fun i=>aF (rat (s.ku i) 2000)) u=cA s.a s.ku u:=rfl;simp only[ag.all,ay,hE,bne_iff_ne,ne_eq,bne_eq_false_iff_eq];generalize hg:lV _ u=c1;refine⟨⟨aa,aa,bL (by decide),bL (by decide),fo (by decide),bq,hs,aa,aa,aa⟩,fun h=>?_,fun h=>?_⟩
  ·have ho:=zK h;exact⟨aa,[_,_],_,8193,_,rfl,rfl,rfl,W4,rfl,⟨⟨aa,fun _ _=>qX rfl rfl⟩,trivial⟩,Nat.zero_lt_one,by rw[show jQ s u=p8 from if_pos ho];exact ajB,bP rfl,trivial⟩
  ·have ho:=uB h;have hc1:c1=c:=by
    have:c1=lV s u:=hg.symm;rw[this,CL ho,hc]
   subst hc1;have hn2:c1.n=s.b:=by rw[hc]
   exact⟨⟨aa,aa,bL (by decide),by decide,by decide,aa,aa⟩,aa,0,⟨Nat.zero_le _,ho⟩,[(0,8192),(1,86016)],rfl,rfl,rfl,jP rfl aa aa (cP rfl rfl (lP ⟨aM,aM,⟨rfl,pY aa⟩,trivial⟩) (aL trivial))⟩
 ·have hcm:c.m<2^28:=by rw[hc];dsimp only;omega
  simp only[ag.all,ay,br,bC,bg,Nat.add_zero];refine⟨fun h=>?_,fun h=>⟨rfl,j,⟨aa,hin⟩,[(0,0),(1,1),(2,2)],rfl,rfl,rfl,cX (cP rfl rfl (qT rfl rfl rfl) (aL trivial))⟩⟩
  (repeat' with_reducible refine And.intro ?_ ?_)
  all_goals first|omega|exact Nat.le_refl _|skip
  exact⟨j+1,⟨aa,hin⟩,by dsimp only;omega,[(0,0),(1,1),(2,40963)],rfl,rfl,rfl,cj rfl rfl rfl (fun i hi=>qe (g:=fun j=>bH (dG (c.f j)) sE) (fun _ _=>⟨rfl,rfl⟩) rfl (.refl _) hi) (cP rfl rfl (qT rfl rfl rfl) (aL trivial))⟩
 ·subst hj;refine ax.hH ((aG.fin hT QH hm 60 ahl ah ?_).mono fun _ _ h=>.inl h);simp only[ag.all,ay];have hE:cA s.a s.ku u=0:=by unfold cA;rw[if_neg hin]
  exact⟨⟨aa,aa⟩,aa,by rw[show jQ s u=⟨s.v,s.b,s.kv,s.m,fun j=>dG (eC (cq s j) u)⟩from if_neg hin,hc];exact .refl _,bP hE.symm,trivial⟩
theorem R7:aW P F4 38:=cr fun⟨s,u,_⟩ K hn=>Qs hn K
theorem QS:aU 235 f235:=aS func235
def ud:aX:=nG::(152,pB)::(222,HQ)::iZ
abbrev Bd:Code:=aE f235
abbrev sU:Code:=part Bd [1,1,1,1,0,1,0,0]
abbrev zB:Code:=part sU [1,1,0,0]
abbrev sB:Nat:=536870912
theorem xz:bn P ud:=cB (aH y9 (aH JA jA))
def iO (n:Nat) (k:Nat->Rat) (p m l:Nat) (i:Int):Int:=if(m:Int)≠(n:Int)-p-1\/l≠p then 1 else if i<p\/(m:Int)<=i\/k (i.toNat+1)<=k i.toNat then 7 else 0
def mD (n:Nat) (k:Nat->Rat) (p m:Nat) (c:Nat->Rat) (i:Int) (l:Nat) (a:Nat->Rat):Rat:=if iO n k p m l i=0 then bR k (i.toNat-p) p a (fun j=>c (i.toNat-p+j)) p p else 0
abbrev MH (n:Nat) (k:Nat->Rat) (p m:Nat) (c:Nat->Rat) (i:Int) (l:Nat) (a:Nat->Rat):AV:=.tuple [.rat (mD n k p m c i l a) sB,.int .i64 (iO n k p m l i)]
theorem adr {c:Nat->Rat} {i:Int} (h:iO n k p m l i=e) (he:e≠0):fF [.agg [.bool false,.mag 0,.mag 0],.int .i64 e] (MH n k p m c i l a):=
 ⟨by unfold mD;rw[if_neg (by rw[h];exact he)];exact jB,bP h.symm,trivial⟩
theorem Py {i:Int} (h:(m:Int)≠(n:Int)-p-1\/l≠p):iO n k p m l i=1:=if_pos h
theorem Gm {i:Int} (h:(m:Int)=(n:Int)-p-1) (hl:l=p) (h2:i<p\/(m:Int)<=i\/k (i.toNat+1)<=k i.toNat):iO n k p m l i=7:=by
 unfold iO;rw[if_neg aa,if_pos h2]
theorem BO {i:Int} (h:(m:Int)=(n:Int)-p-1) (hl:l=p) (h2:¬(i<p\/(m:Int)<=i\/k (i.toNat+1)<=k i.toNat)):iO n k p m l i=0:=by
 unfold iO;rw[if_neg aa,if_neg h2]
def nM (k:Nat->Rat) (b p r:Nat) (t:Rat) (x:Nat->Rat) (j i:Nat):Rat:=if i<=j then x i else ir k b p r t x i
def nO (r j i:Nat):Nat:=if i<=j then SB r else SB (r+1)
theorem aiW {rl:List (Nat×Nat)} {b:Nat} (hj:r<j) (hs:s<=SB (r+1)):
  gD rl (.rat (bif i==j then nM k b p r t x j (j-1)+fr (k (b+j)) (k (b+j+(p-r))) t*(nM k b p r t x j j-nM k b p r t x j (j-1))else nM k b p r t x j i) (bif i==j then s else nO r j i)) (.rat (nM k b p r t x (j-1) i) (nO r (j-1) i)):=by
 refine .inr ⟨rfl,?_⟩;by_cases h:i=j
 ·subst h;simp only[beq_self_eq_true,cond_true];refine cm ?_ ?_
  ·unfold nM;rw[if_pos aa,if_pos aa,if_neg aa];unfold ir;rw[if_pos hj]
  ·unfold nO;rw[if_neg aa];exact hs
 ·have hb:(i==j)=false:=by simpa using h
  rw[hb];refine cm ?_ ?_
  ·simp only[cond_false];unfold nM;by_cases h2:i<=j
   ·rw[if_pos h2,if_pos aa]
   ·rw[if_neg h2,if_neg aa]
  ·simp only[cond_false];unfold nO;by_cases h2:i<=j
   ·rw[if_pos h2,if_pos aa];exact Nat.le_refl _
   ·rw[if_neg h2,if_neg aa];exact Nat.le_refl _
theorem ago {b:Nat}:nM k b p r t x r i=ir k b p r t x i:=by
 unfold nM;split
 ·unfold ir;rw[if_neg aa]
 ·rfl
abbrev mh (m:Nat) (c:Nat->Rat):aq:=⟨true,true,3,m,fun i=>.rat (c i) sK⟩
abbrev pS:List Nat:=[10,11,2,4,0,1,3,12,66,67,68]
abbrev vZ (n:Nat) (k:Nat->Rat) (p m:Nat) (a:Nat->Rat) (i:Nat) (r:Nat):List AV:=[.ptr 1 0 3 0 [],.int .i64 0,.own 0 3 0 m,ls a p,ls k n,.int .i64 p,.int .i64 i,.own 2 3 0 (p+1),ls a p,.int .i64 p,.int .i64 r]
abbrev nX (p m:Nat) (c:Nat->Rat) (x:Nat->Rat) (s:Nat->Nat):aC:=[(2,j0 (p+1) x s),(1,zO),(0,mh m c)]
abbrev yu:List Nat:=[10,11,2,4,0,1,3,12,66,67,68,13,14,15]
abbrev Ei (n:Nat) (k:Nat->Rat) (p m:Nat) (a:Nat->Rat) (i:Nat) (r j:Nat):List AV:=[.ptr 1 0 3 0 [],.int .i64 0,.own 0 3 0 m,ls a p,ls k n,.int .i64 p,.int .i64 i,.own 2 3 0 (p+1),ls a p,.int .i64 p,.int .i64 r,.int .i64 r,.ptr 3 0 3 0 [],.int .i64 j]
theorem ahA {c:Nat->Rat} {i:Int}:aI T ud [18,25,36,42,32] 60 pS (before Bd [1,1,1,1,0,1]) ⟨aN 0 [ls k n,.int .i64 p,.own 0 3 0 m,.int .i64 i,ls a l],[(0,mh m c)],1⟩=
  let C:=n<2^40;let B:=sK<2^42;let A:=bh (fun i=>rat (k i) sK) n sK;let z:=own 0 3 0 m;let h:=i+1;let y:=ak 3 n fun i=>rat (k i) 4096;let q:=(2:Int)^40;let o:=rat 0 1;let v:Nat×aq:=(0,aq.mk true true 3 m fun i=>rat (c i) 4096);let s:=ptr 1 0 3 0 [];let r:=ak 3 l fun i=>rat (a i) 4096;let f:=(2:Int)^63;let d:=(↑m:Int);let e:=(↑p:Int);let g:=decide (i<e);let u:=d !=(↑n:Int)-e-1;let t:=bif false then true else decide (i>=d);let b:=e+1;let F:=fQ (k i.toNat) (k h.toNat);let K:=[z,r,y,int i64 e,int i64 i,tuple [],tuple [],tuple [],tuple []];let J:=[(0:Int)<=i/\i.toNat<n,-f<=h/\h<f,(0:Int)<=h/\h.toNat<n,B,B];let I:List (Nat×aq):=[v,((1:Nat),bG fun j=>if(j==0)=true then bp (agg o.kids)else o)];let w:=bif false then true else decide (F>=0);let L:=0+Min.min (d.toNat-(i-e).toNat) b.toNat;let H:ag (List AV×aC):=aj [(0:Nat)<1] (leaf ret (s::int i64 1::K,I));let E:ag (List AV×aC):=aj [(0:Nat)<1] (leaf ret (s::int i64 7::K,I));let D:ag (List AV×aC):=aj [-f<=b/\b<f,(0:Int)<=b/\b<=b/\b<=2^47/\b*(↑(56:Nat):Int)<=2^47] (aj [-f<=i-e/\i-e<f,(0:Int)<=i-e/\i-e<=d/\d<=d/\d<=d] (leaf normal ([s,int i64 0,z,r,y,int i64 e,int i64 i,own 163841 3 0 b.toNat,r,int i64 (↑l:Int),int i64 0],[(163841,aq.mk true true 3 b.toNat fun i_1=>if 0<=i_1/\i_1<L then rat (c (i_1-0+((0:Nat)+(i-e).toNat))) sK else o),v,((1:Nat),bG fun x=>o)])));let G:ag (List AV×aC):=fork g (fork true (aj [g=true,true=true] (fork true E D)) (aj ((g=true)::(true=false)::J) (fork w E D))) (fork t (aj [g=false,t=true] (fork true E D)) (aj ((g=false)::(t=false)::J) (fork w E D)));some (fork u (aj [A,C,-q<e,e<q,u=true] (fork true H G)) (aj [A,C,-q<e,e<q,u=false] (fork (bif false then true else(↑l:Int)!=e) H G))):=ah
theorem abX {c:Nat->Rat}:xE T f235 .ret ⟨aA [10,11,2] [.ptr 1 0 3 0 [],.int .i64 e,.own 0 3 0 m],[(0,mh m c),(1,⟨false,true,3,1,fun j=>if(j==0)=true then bp (agg (kids (.rat 0 1)))else .rat 0 1⟩)],2⟩=
  some (aj [(0:Nat)<1] (leaf ret ([agg [AV.bool false,mag 0,mag 0],int i64 e],some (aq.mk true true 3 m fun i=>rat (c i) 4096)))):=ah
theorem alp {c:Nat->Rat} {s:Nat->Nat}:aI T ud [69] 60 pS (before sU [1,1,0]) ⟨aA pS (vZ n k p m a i r),nX p m c x s,3⟩=
  let b:=(↑p:Int);let e:=ak 3 p fun i=>rat (a i) 4096;let d:List AV×aC:=([ptr 1 0 3 0 [],int i64 0,own 0 3 0 m,e,ak 3 n fun i=>rat (k i) 4096,int i64 b,int i64 (↑i:Int),own 2 3 0 (p+1),e,int i64 b,int i64 (↑r:Int)],[(2,aq.mk true true 3 (p+1) fun i=>rat (x i) (s i)),(0,aq.mk true true 3 m fun i=>rat (c i) 4096),((1:Nat),bG fun x=>rat 0 1)]);some (fork (decide ((↑r:Int)<b)) (leaf normal d) (leaf (exit 1) d)):=ah
theorem abM {c:Nat->Rat} {s:Nat->Nat}:aI T ud [] 60 yu (before zB [1,1]) ⟨aA pS (vZ n k p m a i r),nX p m c x s,3⟩=
  let f:=rat 0 1;let b:=(↑r:Int);let d:=int i64 (↑p:Int);let e:=ak 3 p fun i=>rat (a i) 4096;some (aj [(0:Int)<=b/\b.toNat<p,(0:Nat)<1] (leaf normal ([ptr 1 0 3 0 [],int i64 0,own 0 3 0 m,e,ak 3 n fun i=>rat (k i) 4096,d,int i64 (↑i:Int),own 2 3 0 (p+1),e,d,int i64 b,int i64 b,ptr 12291 0 3 0 [],d],[((12291:Nat),bG fun j=>if(j==0)=true then bp (rat (a b.toNat) sK)else f),(2,aq.mk true true 3 (p+1) fun i=>rat (x i) (s i)),(0,aq.mk true true 3 m fun i=>rat (c i) 4096),((1:Nat),bG fun x=>f)]))):=ah
theorem S5 {c:Nat->Rat} {s:Nat->Nat}:aI T ud [76] 60 yu [part zB [1,1,0,0]] ⟨aA yu (Ei n k p m a i r j),(3,tP t sK)::nX p m c x s,4⟩=
  let z:=(↑r:Int);let f:=(↑i:Int);let H:=own 0 3 0 m;let w:=0<1;let F:=ptr 3 0 3 0 [];let E:=ptr 1 0 3 0 [];let D:=ak 3 n fun i=>rat (k i) 4096;let d:=(↑p:Int);let b:=(↑j:Int);let C:Nat×aq:=((3:Nat),bG fun x=>rat t 4096);let e:=2^42;let o:=p+1;let L:=ak 3 p fun i=>rat (a i) 4096;let M:List (Nat×aq):=[(0,aq.mk true true 3 m fun i=>rat (c i) 4096),((1:Nat),bG fun x=>rat 0 1)];let g:=(2:Int)^63;let l:=int i64 d;let I:=(0:Int)<=b/\b.toNat<o;let G:=own 2 3 0 o;let h:=int i64 z;let A:=b.toNat+0;let q:=f-d+b;let B:=b-1;let J:=(0:Int)<=B/\B.toNat<o;let y:=-g<=B/\B<g;let K:=q+d-z;let u:=B.toNat+0;let v:=s A+s u+1;some (fork (decide (b>z)) (aj [-g<=f-d/\f-d<g,-g<=q/\q<g] (aj [(0:Int)<=q/\q.toNat<n,-g<=q+d/\q+d<g,-g<=K/\K<g,(0:Int)<=K/\K.toNat<n,w,sK<=sK,sK<=sK,sK<=sK,w] (aj [y,J,u<o,w,I,A<o,y,J,u<o,s A<e,s u<e,sF<e,v<e,s u<e,sF+v<e,I,A<o] (aj [y] (leaf normal ([E,int i64 0,H,L,D,l,int i64 f,G,L,l,h,h,F,int i64 B],C::(2,aq.mk true true 3 o fun j=>rat (bif j==A then x u+fr (k q.toNat) (k K.toNat) t*(x A-x u)else x j) (bif j==A then s u+(sF+v)+1 else s j))::M)))))) (leaf (exit 3) ([E,int i64 0,H,L,D,l,int i64 f,G,L,l,h,h,F,int i64 b],C::(2,aq.mk true true 3 o fun i=>rat (x i) (s i))::M))):=ah
theorem al7 {c:Nat->Rat} {s:Nat->Nat}:aI T ud [] 60 pS [part sU [1,1,1]] ⟨aA yu (Ei n k p m a i r j),(3,tP t sK)::nX p m c x s,4⟩=
  let b:=(↑r:Int)+1;let d:=ak 3 p fun i=>rat (a i) 4096;some (aj [-(2:Int)^63<=b/\b<2^63] (leaf normal ([ptr 1 0 3 0 [],int i64 0,own 0 3 0 m,d,ak 3 n fun i=>rat (k i) 4096,int i64 (↑p:Int),int i64 (↑i:Int),own 2 3 0 (p+1),d,int i64 (↑p:Int),int i64 b],[(2,aq.mk true true 3 (p+1) fun i=>rat (x i) (s i)),(0,aq.mk true true 3 m fun i=>rat (c i) 4096),((1:Nat),bG fun x=>rat 0 1)]))):=ah
theorem adt {c:Nat->Rat} {s:Nat->Nat}:DT T ud [] 60 f235 [part Bd [1,1,1,1,1]] ⟨aA pS (vZ n k p m a i r),nX p m c x s,3⟩=
  let b:=(↑p:Int).toNat+0;some (aj [(0:Int)<=(↑p:Int)/\(↑p:Int).toNat<p+1,b<p+1,s b<2^42,(1:Nat)<2^42,(0:Nat)<1] (aj [(0:Nat)<1] (leaf ret ([rat (x b+0) (s b+1+1),int i64 0],some (aq.mk true true 3 m fun i=>rat (c i) 4096))))):=ah
theorem al9 {c:Nat->Rat} {i:Int} (hp1:1<=p) (hp6:p<=6) (hn:n<2^40) (hm2:m<2^40) (hi:-2^40<i) (hi2:i<2^40) (cx:Ctx) (hk:Kept [0] cx):
  ax P cx f235.ntmps (aE f235) ⟨aN 0 [ls k n,.int .i64 p,.own 0 3 0 m,.int .i64 i,ls a l],[(0,mh m c)],1⟩ (ej cx (yq T f235 [.rat (mD n k p m c i l a) sB,.int .i64 (iO n k p m l i)] (mh m c))):=by
 obtain⟨b,hb⟩:∃b,b=i.toNat-p:=⟨_,rfl⟩
 obtain⟨x,hx⟩:∃x:Nat->Nat->Rat,x=fun r=>bR k b p a (fun j=>c (b+j)) r:=⟨_,rfl⟩
 have hx0:x 0=fun j=>c (b+j):=by rw[hx];rfl
 have hxS:∀r,x (r+1)=ir k b p r (a r) (x r):=fun r=>by rw[hx];rfl
 have hSF:=xy;have hSK:sK=4096:=rfl;have hSV:sV=268435456:=rfl;have hrow:∀(l:Nat) (a:Nat->Rat) (w:Bool) (ρ:Nat->Option Nat),dH ρ ⟨true,w,3,l,fun i=>.rat (a i) sK⟩ ⟨true,w,3,l,fun i=>.rat (a i) sK⟩:=fun l a w ρ=>ji rfl fun _ _=>gm rfl;refine ax.ym hT xz hm [1,1,1,1,0,1] (i:=1) (y:=sU) (z:=part Bd [1,1,1,1,1]) ah ah ah QS.dst hk (f1:=[18,25,36,42,32]) 60 pS 3 (fun r:Nat=>vZ n k p m a i.toNat r) (fun r=>nX p m c (x r) fun _=>SB r)
  (fun r=>r<=p/\iO n k p m l i=0) (fun r=>r=p/\iO n k p m l i=0) (fun r=>p-r) (C4 T f235 [10,11,2] [.rat (mD n k p m c i l a) sB,.int .i64 (iO n k p m l i)] (mh m c)) ⟨_,ahA,?_⟩ (fun r ⟨hr,he⟩=>?_) (fun r ⟨hr,he⟩=>?_) (fun v s' hv hs'=>hv.fin (L1:=[4,0,1,3,12,66,67,68]) hk hs')
 ·simp only[ag.all,ay,mE,bne_iff_ne,ne_eq,bne_eq_false_iff_eq,bg,cond_false,br,bC,zG];have ret:∀{e:Int} {us:List AV},iO n k p m l i=e->e≠0->bN us=[]->C4 T f235 [10,11,2] [.rat (mD n k p m c i l a) sB,.int .i64 (iO n k p m l i)] (mh m c) ([ptr 1 0 3 0 [],int i64 e,own 0 3 0 m]++us,[((0:Nat),mh m c),((1:Nat),bG fun j=>if(j==0)=true then bp (agg (kids (.rat 0 1)))else .rat 0 1)]):=fun {e us} h1 h2 h3=>
   ⟨[_,_,_],us,2,_,rfl,rfl,h3,abX,rfl,⟨⟨aa,fun i _=>rfl⟩,⟨aa,fun i _=>qX rfl rfl⟩,trivial⟩,aa,Nat.zero_lt_one,rfl,rfl,adr h1 h2,⟨_,rfl,hrow _ _ _⟩⟩
  (repeat' with_reducible first|refine And.intro ?_ ?_|intro _)
  all_goals first|omega|exact bL bq|exact absurd ‹true=false› (by decide)|assumption|skip
  all_goals first|exact ret (Py (.inl ‹_›)) (by decide) rfl|exact ret (Py (.inr aa)) (by decide) rfl|skip
  all_goals first|exact ret (Gm aa aa (.inl aa)) (by decide) rfl|exact ret (Gm aa aa (.inr (.inl aa))) (by decide) rfl|skip
  all_goals have e1:(i+1).toNat=i.toNat+1:=aa
  ·exact ret (Gm aa aa (.inr (.inr (by rw[<-e1];assumption)))) (by decide) rfl
  ·rename_i h1;rw[e1]at h1;have hlp:l=p:=aa;subst hlp;refine⟨0,⟨aa,BO aa rfl (by rintro(h|h|h)<;>first|omega|exact h1 h)⟩,[(0,0),(1,1),(2,163841)],rfl,?_,rfl,cj rfl rfl aa (fun j hj=>?_) (aL (cj rfl rfl rfl (fun j hj=>cW rfl rfl) trivial))⟩
   ·rw[show((l:Int)+1).toNat=l+1 by omega];show _=[_,_,_,_,_,_,AV.int i64 ((i.toNat:Nat):Int),_,_,_,_]
    rw[show((i.toNat:Nat):Int)=i by omega];rfl
   ·rw[if_pos aa,hx0,show(i-(l:Int)).toNat=b by omega,Nat.sub_zero,Nat.zero_add,Nat.add_comm j b];exact .inr ⟨rfl,cm rfl (show sK<=SB 0 by decide)⟩
 ·have hin:(m:Int)=(n:Int)-p-1/\p<=i.toNat/\i.toNat<m/\i.toNat=b+p/\l=p:=by
   unfold iO at he;split at he
   ·omega
   ·split at he
    ·omega
    ·omega
  obtain⟨i1,i2,i3,i4,i5⟩:=hin;subst i5;have hr4:∀{s:Nat->Nat} {y:Nat->Rat},ki 3 [(0,0),(1,1),(2,2)] [(2,aq.mk true true 3 (l+1) fun i=>rat (y i) (s i)),((0:Nat),mh m c),((1:Nat),bG fun x=>rat 0 1)] (nX l m c y s):=cj rfl rfl rfl (fun j hj=>cW rfl rfl) (aL (cj rfl rfl rfl (fun j hj=>cW rfl rfl) trivial));refine ax.su hT xz hm (y:=sU) (x1:=zB) (zb:=part sU [1,1,1]) [1,1,0] (j:=2) ah ah ah ah hk (f1:=[69]) 60 pS 3 (fun _:Unit=>vZ n k l m a i.toNat r) (fun _=>nX l m c (x r) fun _=>SB r) (fun _=>r<l) ⟨_,alp,?_⟩ (fun _ hr'=>?_)
  ·simp only[ag.all,ay,br,bC];have re:∀{s:Nat->Nat} {y:Nat->Rat},cT [0] ([ptr 1 0 3 0 [],int i64 0,own 0 3 0 m,ls a l,ak 3 n fun i=>rat (k i) sK,int i64 l,int i64 (i.toNat:Nat),own 2 3 0 (l+1),ls a l,int i64 l,int i64 (r:Nat)],[(2,aq.mk true true 3 (l+1) fun i=>rat (y i) (s i)),((0:Nat),mh m c),((1:Nat),bG fun x=>rat 0 1)]) (vZ n k l m a i.toNat r) (nX l m c y s) 3:=
    ⟨[(0,0),(1,1),(2,2)],rfl,rfl,rfl,hr4⟩
   exact⟨fun h1=>⟨(),aa,re⟩,fun h1 s' hs'=>⟨rfl,r,⟨aa,he⟩,re.le hs' hk⟩⟩
  have h1:=s4 (d:=r);have h2:=sO (d:=r) aa;have h3:=x5 (d:=r);refine ax.oy hT xz hm (x:=zB) [1,1] (i:=3) (y:=part zB [1,1,0,0]) ah ah ah hk (f1:=[]) (f2:=[76]) 60 yu 4 (fun j:Nat=>Ei n k l m a i.toNat r j) (fun j=>(3,tP (a r) sK)::nX l m c (nM k b l r (a r) (x r) j) (nO r j)) (fun j=>r<=j/\j<=l) (fun j=>j=r) (fun j=>j) (fun _=>False) ⟨_,abM,?_⟩ (fun j hj=>⟨_,S5,?_⟩) (fun j s' hj hle=>?_) (fun _ _ h=>h.elim)
  ·simp only[ag.all,ay,bg];refine⟨⟨aa,aa⟩,l,aa,[(0,0),(1,1),(2,2),(3,12291)],rfl,rfl,rfl,aL (cj rfl rfl rfl (fun j hj=>cW rfl ?_) (aL (cj rfl rfl rfl (fun j hj=>cW rfl rfl) trivial)))⟩;unfold nM nO;rw[if_pos aa,if_pos aa]
  ·obtain⟨hj1,hj2⟩:=hj;have e1:((i.toNat:Nat):Int)-(l:Int)+(j:Int)=((b+j:Nat):Int):=aa;have e2:((b+j:Nat):Int)+(l:Int)-(r:Int)=((b+j+(l-r):Nat):Int):=aa;have u1:∀{j':Nat},j'<=j->nO r j j'=SB r:=fun h=>by unfold nO;rw[if_pos h]
   simp only[ag.all,ay,br,bC,e1,e2,bg,Nat.add_zero];refine⟨fun h4=>?_,fun h4=>⟨rfl,j,aa,[(0,0),(1,1),(2,2),(3,3)],rfl,rfl,rfl,aL (cj rfl rfl rfl (fun j hj=>cW rfl rfl) (aL (cj rfl rfl rfl (fun j hj=>cW rfl rfl) trivial)))⟩⟩;have e3:((j:Int)-1).toNat=j-1:=aa;have u2:=u1 (j':=j) bq;have u3:=u1 (j':=j-1) aa;simp only[e3,u2,u3]
   (repeat' with_reducible refine And.intro ?_ ?_)
   all_goals first|omega|skip
   exact⟨j-1,aa,by dsimp only;omega,[(0,0),(1,1),(2,2),(3,3)],rfl,by rw[show(j:Int)-1=((j-1:Nat):Int) by omega];rfl,rfl,aL (cj rfl rfl rfl (fun q hq=>aiW aa aa) (aL (cj rfl rfl rfl (fun j hj=>cW rfl rfl) trivial)))⟩
  ·subst hj;show ax P cx f235.ntmps (part sU [1,1,1]) s' _;refine ax.jh hle (ax.bE hT xz hm 60 pS al7 ah ?_);simp only[ag.all,ay];refine⟨aa,fun s' hs'=>⟨j+1,⟨aa,he⟩,by dsimp only;omega,cT.le ⟨[(0,0),(1,1),(2,2)],rfl,rfl,rfl,cj rfl rfl rfl (fun q hq=>?_) (aL (cj rfl rfl rfl (fun j hj=>cW rfl rfl) trivial))⟩ hs' hk⟩⟩;refine .inr ⟨rfl,cm (by rw[ago,hxS]) ?_⟩;show nO j j q<=SB (j+1);unfold nO;split<;>omega
 ·have hlp:l=p:=by
   unfold iO at he;split at he
   ·omega
   ·omega
  subst hlp;subst hr;refine ax.hH ((aG.aiN hT xz hm 60 adt ah ?_).mono fun _ _ h=>.inl h);have h2:=sO (d:=r) hp6;simp only[ag.all,ay,bg,Nat.add_zero];refine⟨⟨aa,aa,aa,aa,aa⟩,aa,rfl,rfl,⟨cm ?_ (by show SB r+1+1<=536870912;omega),bP he.symm,trivial⟩,⟨_,rfl,hrow _ _ _⟩⟩;unfold mD;rw[if_pos he,<-hb,hx,Rat.add_zero]
def pH (f:Nat->AV) (n s:Nat):Prop:=∀i,i<n->keys (f i)=[]/\bV (f i) (.rat (aF (f i)) s)
theorem P4 (h:s<=s'):pH (fun i=>.rat (k i) s) n s':=fun _ _=>⟨rfl,dU h⟩
theorem pH.obj {f:Nat->AV} {w:Bool} (h:pH f n s) (hm:n=m) (ρ:Nat->Option Nat):dH ρ ⟨true,w,3,n,f⟩ ⟨true,w,3,m,fun i=>.rat (aF (f i)) s⟩:=⟨rfl,rfl,rfl,hm.symm,fun i hi=>mR (h i hi).1 (h i hi).2⟩
def Fb:Spec:=fun _ args pre=>match args,pre with
 |[.ak 3 n kf,.int .i64 p,.own b 3 0 m,.int .i64 i,.ak 3 l af],[(b',⟨true,true,3,mb,fb⟩)]=>match b'==b with
  |true=>some ⟨MH n (fun i=>aF (kf i)) p.toNat m (fun i=>aF (fb i)) i l (fun i=>aF (af i)),[(b,mh m fun i=>aF (fb i))],
   [mb=m,bh kf n sK,bh af l sK,pH fb m sK,1<=p,p<=6,n<2^40,m<2^40,-2^40<i,i<2^40]⟩
  |false=>none
 |_,_=>none
theorem ah4:aW P Fb 235:=by
 intro K args pre r h;unfold Fb at h;split at h
 ·rename_i n kf p b m i l af b' mb fb;split at h
  ·rename_i hc;have hc:=eq_of_beq hc;subst hc;simp only[az]at h;subst h;intro need;obtain⟨rfl,n1,n2,n3,n4,n5,n6,n7,n8,n9⟩:=need;refine akJ hT QS (args:=[.ak 3 n kf,.int .i64 p,.own b' 3 0 mb,.int .i64 i,.ak 3 l af]) (us:=[.rat (mD n (fun i=>aF (kf i)) p.toNat mb (fun i=>aF (fb i)) i l (fun i=>aF (af i))) sB,.int .i64 (iO n (fun i=>aF (kf i)) p.toNat mb l i)]) (args0:=[ls (fun i=>aF (kf i)) n,.int .i64 p,.own 0 3 0 mb,.int .i64 i,ls (fun i=>aF (af i)) l]) aV
    ⟨⟨rfl,mR rfl (yo n1)⟩,aM,⟨rfl,cN rfl rfl rfl⟩,aM,⟨rfl,mR rfl (yo n2)⟩,trivial⟩ (fun _ ρ=>n3.obj rfl ρ) (fun _ c hk=>?_) K ⟨rfl,n1,n2,n3,n4,n5,n6,n7,n8,n9⟩
   have:=al9 (n:=n) (p:=p.toNat) (m:=mb) (l:=l) (k:=fun i=>aF (kf i)) (c:=fun i=>aF (fb i)) (a:=fun i=>aF (af i)) (i:=i) aa aa n6 n7 n8 n9 c hk;rw[Int.toNat_of_nonneg aa]at this;exact this
  ·simp at h
 ·simp at h
theorem ajE:aU 194 f194:=aS func194
theorem IP:aU 196 f196:=aS func196
def qc (k:Nat->Rat) (n:Nat):Nat->Nat->Nat
 |0,i=>i
 |f+1,i=>if i+1<n/\k (i+1)<=k i then qc k n f (i+1)else i
def fj (k:Nat->Rat) (n i:Nat):Nat:=qc k n (n-i) i
abbrev Ae:List Nat:=[0,1,4]
abbrev EM (n i:Nat) (k:Nat->Rat):List AV:=[ls k n,.int .i64 i,.int .i64 0]
abbrev yl:Code:=aE f194
def bY (h:Pl):Nat->Rat
 |0=>h.n.x
 |1=>h.n.y
 |2=>h.n.z
 |_=>h.d
def o4 (g:Nat->Rat):Nat->Pl
 |0=>⟨⟨0,0,0⟩,0⟩
 |1=>⟨⟨g 0,0,0⟩,0⟩
 |2=>⟨⟨g 0,g 1,0⟩,0⟩
 |3=>⟨⟨g 0,g 1,g 2⟩,0⟩
 |_=>⟨⟨g 0,g 1,g 2⟩,g 3⟩
def gO (c:Cu) (i:Int) (l:Nat) (g:Nat->Rat) (a:Nat):Rat:=mD c.n c.k c.p.toNat c.m (fun j=>bY (c.f j) a) i l g
def oX (c:Cu) (i:Int) (l:Nat) (g:Nat->Rat):Pl:=⟨⟨gO c i l g 0,gO c i l g 1,gO c i l g 2⟩,gO c i l g 3⟩
def pI (c:Cu) (a:Nat) (x:Nat->Rat) (j q:Nat):Rat:=if q<j\/c.m<=q then bY (c.f q) a else x q
theorem adm {a:Nat}:pI c a x c.m=fun q=>bY (c.f q) a:=by
 funext q;unfold pI;rw[if_pos aa]
def qo:aX:=nG::(235,Fb)::iZ
abbrev jG:List Nat:=[1,2,3,6,7,8,16]
abbrev lX (c:Cu) (i:Int) (l:Nat) (g:Nat->Rat) (a:Nat):List AV:=[.int .i64 i,ls g l,.ptr 0 0 3 0 [],.ptr 1 0 12 0 [],.ptr 2 0 12 0 [],.own 3 3 0 c.m,.int .i64 a]
abbrev zT:List Nat:=[1,2,3,6,7,8,16,9,20,21,22]
abbrev BI (c:Cu) (i:Int) (l:Nat) (g:Nat->Rat) (a j:Nat):List AV:=[.int .i64 i,ls g l,.ptr 0 0 3 0 [],.ptr 1 0 12 0 [],.ptr 2 0 12 0 [],.own 3 3 0 c.m,.int .i64 a,.int .i64 a,qY c.f c.m sK,.int .i64 c.m,.int .i64 j]
abbrev jN (c:Cu) (x:Nat->Rat) (h:Pl):aC:=[(3,mh c.m x),(2,iC h sB),(1,iC ⟨⟨0,0,0⟩,0⟩ 1),(0,qP c sK)]
abbrev Co:Code:=aE f196
abbrev pg:Code:=part Co [1,1,1,0,1,0,0]
abbrev pe:Code:=part pg [1,1,0,0]
theorem afH:aI T (nG::iZ) [] 60 Ae (before yl [1,0]) ⟨aN 0 [ls k n,.int .i64 i],[],0⟩=
  some (leaf normal ([ak 3 n fun i=>rat (k i) 4096,int i64 (↑i:Int),int i64 0],[])):=ah
theorem aeO:aI T (nG::iZ) [10,22] 60 Ae [part yl [1,0,0,0]] ⟨aA Ae (EM n i k),[],0⟩=
  let j:=sK<2^42;let b:=(↑i:Int);let f:=ak 3 n fun i=>rat (k i) 4096;let g:ag (List AV×aC):=leaf (exit 0) ([f,int i64 b,int i64 0],[]);let a:=b+1;let l:=fQ (k b.toNat) (k a.toNat);let e:=decide (a<(↑n:Int));let d:=-(2:Int)^63<=a/\a<2^63;let h:ag (List AV×aC):=aj [d] (leaf normal ([f,int i64 a,int i64 0],[]));some (fork e (aj [d,e=true,(0:Int)<=b/\b.toNat<n,d,(0:Int)<=a/\a.toNat<n,j,j] (fork (bif true then decide (l>=0)else false) h g)) (aj [d,e=false] (fork false h g))):=ah
theorem Um:ct T (nG::iZ) [] 60 f194 [part yl [1,1]] ⟨aA Ae (EM n i k),[],0⟩=
  some (leaf ret [int i64 (↑i:Int)]):=ah
theorem afh {i:Int}:aI T qo [] 60 jG (before Co [1,1,1,0,1]) ⟨aN 0 [eo c sK sK,.int .i64 i,ls g l],[],0⟩=
  let e:=(bp (eo c sK sK)).size;let a:=(↑c.m:Int);let b:=rat 0 1;let d:aq:=aq.mk false true 12 1 fun x=>agg [b,b,b,b];some (aj [(0:Nat)<1,(0:Int)<=a/\a<=a/\a<=2^47/\a*(↑(56:Nat):Int)<=2^47] (leaf normal ([int i64 i,ak 3 l fun i=>rat (g i) 4096,ptr 0 0 e 0 [],ptr 4096 0 12 0 [],ptr 8192 0 12 0 [],own 24576 3 0 a.toNat,int i64 0],[(24576,aq.mk true true 3 a.toNat fun x=>b),((8192:Nat),d),((4096:Nat),d),(0,aq.mk false true e 1 fun x=>agg [int i64 c.p,ak 3 c.n fun i=>rat (c.k i) 4096,ak 12 c.m fun i=>bI (c.f i) 4096])]))):=ah
theorem W7 {i:Int} {a:Nat}:aI T qo [17] 60 jG (before pg [1,1,0]) ⟨aA jG (lX c i l g a),jN c x h,4⟩=
  let b:=rat 0 1;let d:List AV×aC:=([int i64 i,ak 3 l fun i=>rat (g i) 4096,ptr 0 0 3 0 [],ptr 1 0 12 0 [],ptr 2 0 12 0 [],own 3 3 0 c.m,int i64 (↑a:Int)],[(3,aq.mk true true 3 c.m fun i=>rat (x i) 4096),(2,aq.mk false true 12 1 fun x=>bI h 536870912),(1,aq.mk false true 12 1 fun x=>agg [b,b,b,b]),((0:Nat),bG fun x=>agg [int i64 c.p,ak 3 c.n fun i=>rat (c.k i) 4096,ak 12 c.m fun i=>bI (c.f i) 4096])]);some (fork (decide ((↑a:Int)<4)) (leaf normal d) (leaf (exit 0) d)):=ah
theorem adh {i:Int} {a:Nat}:aI T qo [] 60 zT (before pe [1,0,1]) ⟨aA jG (lX c i l g a),jN c x h,4⟩=
  let b:=rat 0 1;let d:=ak 12 c.m fun i=>bI (c.f i) 4096;some (aj [(0:Nat)<1] (leaf normal ([int i64 i,ak 3 l fun i=>rat (g i) 4096,ptr 0 0 3 0 [],ptr 1 0 12 0 [],ptr 2 0 12 0 [],own 3 3 0 c.m,int i64 (↑a:Int),int i64 (↑a:Int),d,int i64 (↑c.m:Int),int i64 0],[(3,aq.mk true true 3 c.m fun i=>rat (x i) 4096),(2,aq.mk false true 12 1 fun x=>bI h 536870912),(1,aq.mk false true 12 1 fun x=>agg [b,b,b,b]),((0:Nat),bG fun x=>agg [int i64 c.p,ak 3 c.n fun i=>rat (c.k i) 4096,d])]))):=ah
theorem ajs {i:Int} {a:Nat}:aI T qo [] 60 jG [part pg [1,1,1]] ⟨aA jG (lX c i l g a),jN c x h,4⟩=
  let d:=(↑a:Int)+1;let b:=rat 0 1;some (aj [-(2:Int)^63<=d/\d<2^63] (leaf normal ([int i64 i,ak 3 l fun i=>rat (g i) 4096,ptr 0 0 3 0 [],ptr 1 0 12 0 [],ptr 2 0 12 0 [],own 3 3 0 c.m,int i64 d],[(3,aq.mk true true 3 c.m fun i=>rat (x i) 4096),(2,aq.mk false true 12 1 fun x=>bI h 536870912),(1,aq.mk false true 12 1 fun x=>agg [b,b,b,b]),((0:Nat),bG fun x=>agg [int i64 c.p,ak 3 c.n fun i=>rat (c.k i) 4096,ak 12 c.m fun i=>bI (c.f i) 4096])]))):=ah
theorem ajR {i:Int} {a:Nat}:ct T qo [] 60 f196 [part Co [1,1,1,1]] ⟨aA jG (lX c i l g a),jN c x h,4⟩=
  let b:=0<1;some (aj [b,b] (aj [b] (leaf ret [bI h 536870912]))):=ah
theorem Q4 (h:i+1<n) (h2:k (i+1)<=k i):fj k n i=fj k n (i+1):=by
 unfold fj;rw[show n-i=(n-(i+1))+1 by omega,qc,if_pos ⟨h,h2⟩]
theorem DO (h:¬(i+1<n/\k (i+1)<=k i)):fj k n i=i:=by
 unfold fj;cases n-i with
 |zero=>rfl
 |succ f=>rw[qc,if_neg h]
theorem aaN (hi:i<=n) (hn:n<2^40) (K:Nat):aQ P 194 K [ls k n,.int .i64 i] [] (aJ (.int .i64 (fj k n i)) []):=by
 refine gP (r:=aJ (.int .i64 (fj k n i)) []) hT (cB jA) hm ajE rfl aV rfl [1,0] (i:=0) (y:=part yl [1,0,0,0]) (z:=part yl [1,1]) ah ah ah (f1:=[]) (f2:=[10,22]) (f3:=[]) 60 Ae 0
  (fun j:Nat=>EM n j k) (fun _=>[]) (fun j=>j<=n/\fj k n j=fj k n i) (fun j=>j=fj k n i) (fun j=>n-j) (fun _=>⟨⟨_,afH,?_⟩,fun j hj=>⟨_,aeO,?_⟩,fun j hj=>⟨_,Um,?_⟩⟩) K []
 ·simp only[ag.all,ay];exact⟨i,⟨hi,rfl⟩,[],rfl,rfl,rfl,trivial⟩
 ·have e1:((j:Int)+1).toNat=j+1:=aa;simp only[ag.all,ay,br,bC,bg,cond_true,e1,zG];refine⟨fun h1=>⟨⟨aa,aa,aa,aa,aa,by decide,by decide⟩,fun h2=>⟨aa,j+1,⟨aa,(Q4 aa h2).symm.trans hj.2⟩,by dsimp only;omega,[],rfl,rfl,rfl,trivial⟩,fun h2=>⟨rfl,j,?_,[],rfl,rfl,rfl,trivial⟩⟩,fun h1=>⟨⟨aa,aa⟩,fun h=>absurd h (by decide),fun _=>⟨rfl,j,?_,[],rfl,rfl,rfl,trivial⟩⟩⟩
  ·exact(DO fun h=>h2 h.2).symm.trans hj.2
  ·exact(DO fun h=>aa).symm.trans hj.2
 ·subst hj;simp only[ag.all,ay];exact .refl _
def HS:Spec:=cz (kC (kL sK) (kC kI kN)) (fun a=>.int .i64 (fj a.1.2 a.1.1 a.2.1.toNat)) fun a=>[0<=a.2.1,a.2.1<=a.1.1,a.1.1<2^40]
theorem Nq:aW P HS 194:=cr fun⟨⟨n,k⟩,i,_⟩ K hn=>by
 obtain⟨h1,h2,h3⟩:=hn;have:=aaN (n:=n) (i:=i.toNat) (k:=k) (by dsimp only at*;omega) h3 K;rw[Int.toNat_of_nonneg h1]at this;exact this
theorem wk:bn P qo:=cB (aH ah4 jA)
def yZ (c:Cu):Nat->Nat->Rat
 |0=>fun _=>0
 |a+1=>fun q=>bY (c.f q) a
theorem abG {rl:List (Nat×Nat)} {a:Nat} {q:Nat} (hq:q<c.m):gD rl (.rat (x q) sK) (.rat (pI c a x 0 q) sK):=cW rfl (by unfold pI;rw[if_neg aa])
theorem agd {rl:List (Nat×Nat)} {a:Nat} {q:Nat} {v:Rat} (hq:q<c.m) (hv:v=bY (c.f j) a):gD rl (.rat (bif q==j then v else pI c a x j q) (bif q==j then sK else sK)) (.rat (pI c a x (j+1) q) sK):=by
 refine cW rfl ?_;rw[Bool.cond_self];congr 1;by_cases h:q=j
 ·subst h;rw[beq_self_eq_true,cond_true,hv];unfold pI;rw[if_pos aa]
 ·rw[beq_eq_false_iff_ne.2 h,cond_false];unfold pI;by_cases h2:q<j
  ·rw[if_pos (.inl h2),if_pos (.inl aa)]
  ·rw[if_neg aa,if_neg aa]
theorem aab:pH (fun i=>.rat (x i) sK) m sK:=P4 bq
theorem four {a:Nat} (ha:a<4):a=0\/a=1\/a=2\/a=3:=aa
theorem alm {i:Int} {a:Nat} (ha:a<4):aI T qo [23] 60 zT [part pe [1,0,1,0,0]] ⟨aA zT (BI c i l g a j),jN c x h,4⟩=
  some (fork (decide ((j:Int)<c.m)) (aj [(0:Int)<=j/\(j:Int).toNat<c.m,0<1] (aj [(0:Int)<=a/\(a:Int)<4,0<1,(0:Int)<=j/\(j:Int).toNat<c.m,(j:Int).toNat+0<c.m] (aj [-(2:Int)^63<=(j:Int)+1/\(j:Int)+1<(2:Int)^63]
   (leaf normal ([.int .i64 i,ls g l,.ptr 0 0 3 0 [],.ptr 1 0 12 0 [],.ptr 2 0 12 0 [],.own 3 3 0 c.m,.int .i64 a,.int .i64 a,qY c.f c.m sK,.int .i64 c.m,.int .i64 ((j:Int)+1)],(3,⟨true,true,3,c.m,fun q=>.rat (bif q==(j:Int).toNat+0 then bY (c.f (j:Int).toNat) a else x q) (bif q==(j:Int).toNat+0 then sK else sK)⟩)::[(2,iC h sB),(1,iC ⟨⟨0,0,0⟩,0⟩ 1),(0,qP c sK)]))))) (leaf (exit 2) (BI c i l g a j,jN c x h))):=by
 rcases four ha with rfl|rfl|rfl|rfl<;>kernel_rfl
theorem ahO {i:Int} {a:Nat} (ha:a<4):aI T qo [] 60 jG [part pe [1,1]] ⟨aA zT (BI c i l g a j),jN c x h,4⟩=
  some (aj [0<1,0<1,c.m=c.m,bh (fun i=>.rat (c.k i) sK) c.n sK,bh (fun i=>.rat (g i) sK) l sK,pH (fun i=>.rat (x i) sK) c.m sK,(1:Int)<=c.p,c.p<=6,c.n<2^40,c.m<2^40,-(2:Int)^40<i,i<2^40,(0:Int)<=a/\(a:Int)<4,0<1]
   (leaf normal (lX c i l g a,[(3,mh c.m x),(2,⟨false,true,12,1,fun j=>if(j==0)=true then .agg ((bI h sB).kids.set a (.rat (mD c.n c.k c.p.toNat c.m x i l g) sB))else bI h sB⟩),(1,iC ⟨⟨0,0,0⟩,0⟩ 1),(0,qP c sK)]))):=by
 rcases four ha with rfl|rfl|rfl|rfl<;>kernel_rfl
theorem YL {rl:List (Nat×Nat)} {G:Nat->Rat} {a:Nat} (ha:a<4):gD rl (.agg ((bI (o4 G a) sB).kids.set a (.rat (G a) sB))) (bI (o4 G (a+1)) sB):=by
 rcases four ha with rfl|rfl|rfl|rfl<;>exact cW rfl rfl
theorem agD {i:Int} {a:Nat} {cx:Ctx} {Q:au->aK->Prop} (ha:a<4) (hk:Kept [] cx) (hp1:1<=c.p) (hp6:c.p<=6) (hn:c.n<2^40) (hm2:c.m<2^40) (hi:-2^40<i) (hi2:i<2^40)
  (hQ:∀s',(∃ρ,Le cx ρ s' ⟨aA jG (lX c i l g a),jN c (yZ c (a+1)) (o4 (gO c i l g) (a+1)),4⟩)->ax P cx f196.ntmps (part pg [1,1,1]) s' Q):
  ax P cx f196.ntmps pe ⟨aA jG (lX c i l g a),jN c x (o4 (gO c i l g) a),4⟩ (inBlock 1 (eH (fun s'=>ax P cx f196.ntmps (part pg [1,1,1]) s' Q) Q)):=by
 refine ax.oy hT wk hm (x:=pe) [1,0,1] (i:=2) (y:=part pe [1,0,1,0,0]) ah ah ah hk (f1:=[]) (f2:=[23]) 60 zT 4 (fun j:Nat=>BI c i l g a j) (fun j=>jN c (pI c a x j) (o4 (gO c i l g) a)) (fun j=>j<=c.m) (fun j=>j=c.m) (fun j=>c.m-j) (fun _=>False) ⟨_,adh,?_⟩ (fun j hj=>⟨_,alm ha,?_⟩) (fun j s' hj hle=>?_) (fun _ _ h=>h.elim)
 ·simp only[ag.all,ay];exact⟨aa,0,Nat.zero_le _,[(0,0),(1,1),(2,2),(3,3)],rfl,rfl,rfl,cj rfl rfl rfl (fun q hq=>abG hq) (aL (aL (aL trivial)))⟩
 ·simp only[ag.all,ay,br,bC,bg,Nat.add_zero];exact⟨fun h1=>⟨⟨aa,aa⟩,⟨aa,aa,aa,aa⟩,aa,j+1,aa,by dsimp only;omega,[(0,0),(1,1),(2,2),(3,3)],rfl,rfl,rfl,cj rfl rfl rfl (fun q hq=>agd hq rfl) (aL (aL (aL trivial)))⟩,
   fun h1=>⟨rfl,j,aa,[(0,0),(1,1),(2,2),(3,3)],rfl,rfl,rfl,cj rfl rfl rfl (fun q hq=>cW rfl rfl) (aL (aL (aL trivial)))⟩⟩
 ·subst hj;simp only[adm]at hle;rw[show behind pe [1,0,1]=[part pe [1,1]]from by kernel_rfl];refine aG.weak rfl hle (aG.bE hT wk hm 60 jG (ahO ha) ah ?_);simp only[ag.all,ay];refine⟨⟨aa,aa,trivial,bL bq,bL bq,aab,hp1,hp6,hn,hm2,hi,hi2,aa,aa⟩,fun s'' hs''=>hQ s'' (cT.le ⟨[(0,0),(1,1),(2,2),(3,3)],rfl,rfl,rfl,cj rfl rfl rfl (fun q hq=>cW rfl rfl) (cP rfl rfl (YL ha) (aL (aL trivial)))⟩ hs'' hk)⟩
theorem agT {i:Int} (hp1:1<=c.p) (hp6:c.p<=6) (hn:c.n<2^40) (hm2:c.m<2^40) (hi:-2^40<i) (hi2:i<2^40) (K:Nat):aQ P 196 K [eo c sK sK,.int .i64 i,ls g l] [] (aJ (bI (oX c i l g) sB) []):=by
 refine fV (r:=aJ (bI (oX c i l g) sB) []) hT IP rfl aV rfl (fun _ cx h00=>?_) K [];have hk:=iL h00;refine ax.ym hT wk hm [1,1,1,0,1] (i:=0) (y:=pg) (z:=part Co [1,1,1,1]) ah ah ah IP.dst hk (f1:=[]) 60 jG 4 (fun a:Nat=>lX c i l g a) (fun a=>jN c (yZ c a) (o4 (gO c i l g) a)) (fun a=>a<=4) (fun a=>a=4) (fun a=>4-a) (fun _=>False) ⟨_,afh,?_⟩ (fun a ha=>?_) (fun a ha=>?_) (fun _ _ h=>h.elim)
 ·simp only[ag.all,ay,bg];exact⟨⟨aa,aa⟩,0,aa,[(0,0),(1,4096),(2,8192),(3,24576)],rfl,rfl,rfl,cj rfl rfl rfl (fun q hq=>.inr ⟨rfl,cm rfl (by decide)⟩) (cP rfl rfl (.inr ⟨rfl,cM (show fP [.rat _ _,.rat _ _,.rat _ _,.rat _ _] [.rat _ _,.rat _ _,.rat _ _,.rat _ _]from⟨cm rfl (by decide),cm rfl (by decide),cm rfl (by decide),cm rfl (by decide),trivial⟩)⟩) (aL (aL trivial)))⟩
 ·have re:∀{x:Nat->Rat} {h:Pl},cT [] (lX c i l g a,jN c x h) (lX c i l g a) (jN c x h) 4:=
   fun {x h}=>⟨[(0,0),(1,1),(2,2),(3,3)],rfl,rfl,rfl,cj rfl rfl rfl (fun q hq=>cW rfl rfl) (aL (aL (aL trivial)))⟩
  refine ax.su hT wk hm (y:=pg) (x1:=pe) (zb:=part pg [1,1,1]) [1,1,0] (j:=1) ah ah ah ah hk (f1:=[17]) 60 jG 4 (fun _:Unit=>lX c i l g a) (fun _=>jN c (yZ c a) (o4 (gO c i l g) a)) (fun _=>a<4) ⟨_,W7,?_⟩ (fun _ ha'=>?_)
  ·simp only[ag.all,ay,br,bC];exact⟨fun h1=>⟨(),aa,re⟩,fun h1 s' hs'=>⟨rfl,a,aa,re.le hs' hk⟩⟩
  have nx:∀s',(∃ρ,Le cx ρ s' ⟨aA jG (lX c i l g a),jN c (yZ c (a+1)) (o4 (gO c i l g) (a+1)),4⟩)->ax P cx f196.ntmps (part pg [1,1,1]) s' (Cf cx jG (fun a:Nat=>lX c i l g a) (fun a=>jN c (yZ c a) (o4 (gO c i l g) a)) 4 (fun a=>a<=4) (fun a=>a=4) (fun a=>4-a) 0 (fun s'=>∃v,False/\bD jG s'=some v) a):=fun s' hle=>by
   refine ax.jh hle (ax.bE hT wk hm 60 jG ajs ah ?_);simp only[ag.all,ay];exact⟨aa,fun s'' hs''=>⟨a+1,aa,by dsimp only;omega,cT.le ⟨[(0,0),(1,1),(2,2),(3,3)],rfl,rfl,rfl,cj rfl rfl rfl (fun q hq=>cW rfl rfl) (aL (aL (aL trivial)))⟩ hs'' hk⟩⟩
  exact agD ha' hk hp1 hp6 hn hm2 hi hi2 nx
 ·subst ha;refine ax.hH ((aG.fin hT wk hm 60 ajR ah ?_).mono fun _ _ h=>.inl h);simp only[ag.all,ay];exact⟨⟨aa,aa⟩,aa,.refl _⟩
def H7:Spec:=cz (kC (sI sK sK) (kC kI (kC (kL sK) kN))) (fun a=>bI (oX a.1 a.2.1 a.2.2.1.1 a.2.2.1.2) sB) fun a=>[1<=a.1.p,a.1.p<=6,a.1.n<2^40,a.1.m<2^40,-2^40<a.2.1,a.2.1<2^40]
theorem Ra:aW P H7 196:=cr fun⟨c,i,⟨l,g⟩,_⟩ K hn=>agT hn.1 hn.2.1 hn.2.2.1 hn.2.2.2.1 hn.2.2.2.2.1 hn.2.2.2.2.2 K
theorem alV:aU 47 f47:=aS func47
theorem T3:aU 129 f129:=aS func129
def oo (n:Nat) (k:Nat->Rat) (a b:Rat) (i:Nat):Rat:=a+(k i-k 0)/(k (n-1)-k 0)*(b-a)
def iJ (n:Nat) (k:Nat->Rat) (i:Nat):Rat:=k 0+k (n-1)-k (n-1-i)
abbrev CK (m:Nat) (k:Nat->Rat) (s:Nat):aq:=⟨true,true,3,m,fun i=>.rat (k i) s⟩
theorem ak5 {c:Nat} {u v:AV} (hv:v.isAgg=false) (h:bV u v):bV (.bQ c u) (.bQ c v):=by
 refine⟨rfl,fun M w cs hc=>?_⟩;cases hc with
 |bQ _ h1 h2=>cases h2;exact .bQ hv (h.2 _ _ _ h1) .nil
def XC (s:Nat):Kind (Nat×(Nat->Rat)):=⟨fun v=>match v with
 |.bQ c v=>match(kL s).read v with
  |some (a,q)=>some (a,(c=a.1)::q)
  |none=>none
 |_=>none,fun a=>.bQ a.1 (bu a.2 a.1 s),fun {v a q} h hq=>by
  split at h
  ·split at h
   ·rename_i h1;simp only[az,Prod.mk.injEq]at h;obtain⟨rfl,rfl⟩:=h;obtain⟨q1,q2⟩:=CT.1 hq;subst q1;exact ak5 rfl ((kL s).ok h1 q2)
   ·simp at h
  ·simp at h⟩
abbrev Ci:FuncId:=193
abbrev Fo:Func:=f193
def ia (k:Nat->Rat) (t:Rat):Nat->Nat
 |0=>0
 |n+1=>if ia k t n=n/\k n<=t then n+1 else ia k t n
def jo (k:Nat->Rat) (t:Rat) (p j:Nat):Rat:=if j<p then k j else if j=p then t else k (j-1)
abbrev yw:List Nat:=[3,9,10,11]
abbrev Ev (n:Nat) (k:Nat->Rat) (s i:Nat):List AV:=[.bQ n (.own 0 3 0 i),bu k n s,.int .i64 n,.int .i64 i]
abbrev CB:aX:=cG::iZ
abbrev ya:List Nat:=[0,3,5]
abbrev GV (n:Nat) (k:Nat->Rat) (s i:Nat):List AV:=[bu k n s,.ptr 0 0 3 0 [],.int .i64 i]
abbrev y8:Code:=aE f136
def Po (w:Nat):Spec:=cz (kC (XC w) (kC kI (kC (kL w) kN))) (fun a=>bu (jo a.1.2 (a.2.2.1.2 0) a.2.1.toNat) (a.1.1+1) w) fun a=>[0<=a.2.1,a.2.1<=a.1.1,a.2.2.1.1=1,a.1.1<2^40]
def Qd (s w:Nat):Spec:=cz (kC (kL s) kN) (fun a=>.bQ a.1.1 (bu a.1.2 a.1.1 w)) fun a=>[a.1.1<2^40]
def Dl (s w:Nat):aX:=cG::(144,Qd s w)::(Ci,Po w)::iZ
theorem Yv:aU Ci Fo:=aS func193
theorem amf:aU 136 f136:=aS func136
theorem W9:bX T [cG] [22,100031] 60 Fo (aE Fo) ⟨aN 0 [.bQ n (bu k n s),.int .i64 i,bu (fun _=>t) 1 s],[],0⟩=
  let j:=Int.toNat (0:Int);let d:=(↑n:Int);let g:=(2:Int)^63;let a:=(↑i:Int);let o:=a.toNat-j;let e:=(0:Int)<=a;let m:=0+a.toNat;let f:=d+(↑(1:Nat):Int);let l:=a+(↑(1:Nat):Int);let h:=0+l.toNat;let p:=o+(f-a).toNat;let b:=(↑p:Int);let r:=m+Min.min 1 (b.toNat-a.toNat);let q:=h+Min.min (d.toNat-a.toNat) (b.toNat-l.toNat);some (aj [e/\a<=d/\d<=d] (fork (a==d) (aj [n<n+1/\(n+1)*((56:Nat)+1)*2<=2^47] (leaf ret [ak 3 (n+1) fun i=>if i+0<n then rat (k (i+0)) s else rat t s])) (aj [-g<=f/\f<g] (aj [decide (f>d)=true] (aj [(0:Int)<=0/\e/\a<=d,-g<=f/\f<g,-g<=f-a/\f-a<g,(0:Int)<f-a/\n-j<p/\p*((56:Nat)+1)*2<=2^47] (aj [e/\a<=b/\b<=b/\b<=b] (aj [-g<=l/\l<g,(0:Int)<=l/\l<=b/\b<=b/\b<=b,e/\a<=d/\d<=d] (leaf ret [ak 3 p fun i=>if h<=i+0/\i+0<q then rat (k (i+0-h+a.toNat)) s else if m<=i+0/\i+0<r then rat t s else if i+0<o then rat (k (i+0+j)) s else rat 0 1])))))))):=ah
theorem WU:aI T CB [] 60 yw (before oJ [1,1,0,1]) ⟨aN 0 [bu k n s],[],0⟩=
  let a:=(↑n:Int);some (aj [(0:Int)<=0/\(0:Int)<=a/\a<=2^47/\a*(↑(56:Nat):Int)<=2^47] (leaf normal ([bQ a.toNat (own 12288 3 0 0),ak 3 n fun i=>rat (k i) s,int i64 a,int i64 0],[(12288,aq.mk true true 3 0 fun x=>rat 0 1)]))):=ah
theorem ae4:aI T CB [12] 60 yw [part oJ [1,1,0,1,0,0]] ⟨aA yw (Ev n k s i),[(0,CK i x w)],1⟩=
  let e:=(↑n:Int);let b:=i+1;let f:=ak 3 n fun i=>rat (k i) s;let a:=(↑i:Int);let d:=a+1;some (fork (decide (a<e)) (aj [(0:Int)<=a/\a.toNat<n,(0:Nat)<1] (aj [(0:Nat)<1,s<2^42,(1:Nat)<2^42,(1:Nat)*3<=2^24,b<=n,b*((56:Nat)+1)*2<=2^47] (aj [-(2:Int)^63<=d/\d<2^63] (leaf normal ([bQ n (own 40961 3 0 b),f,int i64 e,int i64 d],[(40961,aq.mk true true 3 b fun i_1=>if i_1<i then rat (x i_1) w else nth [rat (k a.toNat+0) (s+1+1)] (rat 0 1) (i_1-i+0))]))))) (leaf (exit 0) ([bQ n (own 0 3 0 i),f,int i64 e,int i64 a],[(0,aq.mk true true 3 i fun i=>rat (x i) w)]))):=ah
theorem abZ:ct T CB [] 60 f144 [part oJ [1,1,1]] ⟨aA yw (Ev n k s i),[(0,CK i x w)],1⟩=
  some (leaf ret [bQ n (ak 3 i fun i=>rat (x (i+0)) w)]):=ah
theorem ad3:aI T (Dl s w) [] 60 ya (before y8 [1,1,0]) ⟨aN 0 [bu k n s,.rat t r],[],0⟩=
  some (leaf normal ([ak 3 n fun i=>rat (k i) s,ptr 0 0 (bp (rat t r)).size 0 [],int i64 0],[(0,aq.mk false true (bp (rat t r)).size 1 fun x=>rat t r)])):=ah
theorem ajm:aI T (Dl s w) [10,18] 60 ya [part y8 [1,1,0,0,0]] ⟨aA ya (GV n k s i),[(0,tP t r)],1⟩=
  let j:=ak 3 n fun i=>rat (k i) s;let h:=ptr 0 0 3 0 [];let g:Nat×aq:=((0:Nat),bG fun x=>rat t r);let a:=(↑i:Int);let d:=a+1;let b:=decide (a<(↑n:Int));let f:ag (List AV×aC):=leaf (exit 0) ([j,h,int i64 a],[g]);let e:ag (List AV×aC):=aj [-(2:Int)^63<=d/\d<2^63] (leaf normal ([j,h,int i64 d],[g]));some (fork b (aj [b=true,(0:Int)<=a/\a.toNat<n,(0:Nat)<1,s<2^42,r<2^42] (fork (bif true then decide (fQ (k a.toNat) t<=0)else false) e f)) (aj [b=false] (fork false e f))):=ah
theorem Ux:ct T (Dl s w) [] 60 f136 [part y8 [1,1,1]] ⟨aA ya (GV n k s i),[(0,tP t r)],1⟩=
  let d:=rat 0 1;let b:=n<2^40;let a:=rat (t+0) (r+1+1);some (aj [bh (fun i=>rat (k i) s) n s,b,(0:Nat)<1,r<2^42,(1:Nat)<2^42,(1:Nat)*3<=2^24,n=n,bh (fun i=>rat (aF (rat (k i) s)) w) n w,bh (fun i=>nth [a] d (i+0)) 1 w,(0:Int)<=(↑i:Int),(↑i:Int)<=(↑n:Int),(1:Nat)=1,b] (leaf ret [ak 3 (n+1) fun i_1=>rat (jo (fun i=>aF (rat (aF (rat (k i) s)) w)) (aF (nth [a] d ((0:Nat)+0))) (↑i:Int).toNat i_1) w])):=ah
theorem Gv {Γ:aX} (h:bn P Γ):bn P (cG::Γ):=aH (fun _ _ _ _ h=>nomatch h) h
theorem EJ {a b:Rat}:fQ a b<=0↔a<=b:=by
 have:=@uP a b;constructor
 ·intro h;exact Rat.not_lt.1 fun h'=>by have:=uP.2 h';omega
 ·intro h;have:¬fQ a b>0:=fun h'=>Rat.not_lt.2 h (uP.1 h');omega
theorem P3 (h:ia k t n=n) (h2:k n<=t):ia k t (n+1)=n+1:=by unfold ia;rw[if_pos ⟨h,h2⟩]
theorem Iw {k:Nat->Rat} {t:Rat} {i:Nat} (h:ia k t i=i) (h2:t<k i):∀{n:Nat},i<=n->ia k t n=i
 |0,hn=>by
    have:i=0:=aa;subst this;rfl
 |n+1,hn=>by
  by_cases he:i=n+1
  ·subst he;exact h
  ·have ih:=Iw h h2 (n:=n) aa;unfold ia;rw[if_neg,ih];rintro⟨g1,g2⟩;have:i=n:=aa;subst this;exact absurd h2 (Rat.not_lt.2 g2)
theorem aho (hi:i<=n) (hn:n<2^40) (K:Nat):aQ P Ci K [.bQ n (bu k n s),.int .i64 i,bu (fun _=>t) 1 s] [] (aJ (bu (jo k t i) (n+1) s) []):=by
 refine b9 (r:=aJ (bu (jo k t i) (n+1) s) []) hT (Gv bw) hm Yv rfl aV rfl 60 W9 (fun _=>?_) K [];simp only[ag.all,ay,br,bC];have w1:((1:Nat):Int)=1:=rfl;simp only[w1,bg,Int.toNat_zero,Nat.sub_zero,Nat.zero_add,Nat.add_zero,beq_iff_eq,beq_eq_false_iff_ne,ne_eq,Int.ofNat_inj];refine⟨aa,fun h=>⟨aa,fI fun j hj=>dY ?_⟩,fun h=>?_⟩
 ·subst h;unfold jo;by_cases h1:j<i
  ·rw[if_pos h1,if_pos h1]
  ·rw[if_neg h1,if_neg h1,if_pos aa]
 ·have eN:i+((n:Int)+1-i).toNat=n+1:=aa;have e2:((i:Int)+1).toNat=i+1:=aa;simp only[eN,e2];refine⟨aa,aa,aa,aa,aa,fI fun j hj=>dY ?_⟩;unfold jo;by_cases h1:j<i
  ·rw[if_neg aa,if_neg aa,if_pos h1,if_pos h1]
  ·by_cases h2:j=i
   ·rw[if_neg aa,if_pos aa,if_neg h1,if_pos h2]
   ·rw[if_pos aa,if_neg h1,if_neg h2,show j-(i+1)+i=j-1 by omega]
theorem abD:bn P CB:=Gv jA
theorem aga (h:s+2<=w) (hw:w<2^40) (hn:n<2^40) (K:Nat):aQ P 144 K [bu k n s] [] (aJ (.bQ n (bu k n w)) []):=by
 refine gP (r:=aJ (.bQ n (bu k n w)) []) hT abD hm D0 rfl aV rfl [1,1,0,1] (i:=0) (y:=part oJ [1,1,0,1,0,0]) (z:=part oJ [1,1,1]) ah ah ah (f1:=[]) (f2:=[12]) (f3:=[]) 60 yw 1
  (fun i:Nat=>Ev n k s i) (fun i=>[(0,CK i k w)]) (fun i=>i<=n) (fun i=>i=n) (fun i=>n-i) (fun _=>⟨⟨_,WU,?_⟩,fun i hi=>⟨_,ae4,?_⟩,fun i hi=>⟨_,abZ,?_⟩⟩) K []
 ·simp only[ag.all,ay];exact⟨aa,0,Nat.zero_le _,[(0,12288)],rfl,by rw[bg];rfl,rfl,cj rfl rfl rfl (fun j hj=>absurd hj (Nat.not_lt_zero j)) trivial⟩
 ·simp only[ag.all,ay,br,bC,bg,Nat.add_zero];exact⟨fun h1=>⟨aa,aa,aa,i+1,aa,by dsimp only;omega,[(0,40961)],rfl,rfl,rfl,cj rfl rfl rfl (fun j hj=>rD (fun _ _=>rfl) (Rat.add_zero _) bq aa hj) trivial⟩,
   fun h1=>⟨rfl,i,aa,[(0,0)],rfl,rfl,rfl,cX trivial⟩⟩
 ·subst hi;simp only[ag.all,ay];exact .refl _
theorem YK (h:s+2<=w) (hw:w<2^40):aW P (Qd s w) 144:=cr fun⟨⟨n,k⟩,_⟩ K hn=>aga h hw hn K
theorem aaW:aW P (Po w) Ci:=cr fun⟨⟨n,k⟩,i,⟨m,g⟩,_⟩ K hn=>by
 obtain⟨h1,h2,h3,h4⟩:=hn;simp only at h1 h2 h3 h4;subst h3;have:=gW (aho (k:=k) (t:=g 0) (s:=w) (i:=i.toNat) (n:=n) aa h4 K) (args:=[.bQ n (bu k n w),.int .i64 i,bu g 1 w]) rfl ⟨.refl _,bP aa,fI fun j hj=>dY (by rw[Nat.lt_one_iff.1 hj]),trivial⟩ [];exact this
theorem acY (h:s+2<=w) (hw:w<2^40):bn P (Dl s w):=Gv (aH (YK h hw) (aH aaW jA))
theorem WV (h:s+2<=w) (h2:r+2<=w) (hw:w<2^40) (hn:n<2^40) (K:Nat):aQ P 136 K [bu k n s,.rat t r] [] (aJ (bu (jo k t (ia k t n)) (n+1) w) []):=by
 refine gP (r:=aJ (bu (jo k t (ia k t n)) (n+1) w) []) hT (acY h hw) hm amf rfl aV rfl [1,1,0] (i:=0) (y:=part y8 [1,1,0,0,0]) (z:=part y8 [1,1,1]) ah ah ah (f1:=[]) (f2:=[10,18]) (f3:=[]) 60 ya 1
  (fun i:Nat=>GV n k s i) (fun _=>[(0,tP t r)]) (fun i=>i<=n/\ia k t i=i) (fun i=>i<=n/\i=ia k t n) (fun i=>n-i) (fun _=>⟨⟨_,ad3,?_⟩,fun i hi=>⟨_,ajm,?_⟩,fun i hi=>⟨_,Ux,?_⟩⟩) K []
 ·simp only[ag.all,ay];exact⟨0,⟨Nat.zero_le _,rfl⟩,[(0,0)],rfl,rfl,rfl,aL trivial⟩
 ·simp only[ag.all,ay,br,bC,bg];simp only[cond_true,br,bC,EJ];exact⟨fun h1=>⟨⟨h1,aa,aa,aa,aa⟩,fun h2=>⟨aa,i+1,⟨aa,P3 hi.2 h2⟩,by dsimp only;omega,[(0,0)],rfl,rfl,rfl,aL trivial⟩,
    fun h2=>⟨rfl,i,⟨aa,(Iw hi.2 (Rat.not_le.1 h2) aa).symm⟩,[(0,0)],rfl,rfl,rfl,aL trivial⟩⟩,
   fun h1=>⟨h1,fun h=>absurd h (by decide),fun _=>⟨rfl,i,⟨hi.1,by rw[show n=i by omega];exact hi.2.symm⟩,[(0,0)],rfl,rfl,rfl,aL trivial⟩⟩⟩
 ·obtain⟨hi,rfl⟩:=hi;simp only[ag.all,ay];refine⟨⟨bL bq,aa,aa,aa,aa,aa,trivial,bL bq,fun j hj=>?_,aa,aa,trivial,aa⟩,fI fun j hj=>dY ?_⟩
  ·rw[Nat.lt_one_iff.1 hj];exact dU aa
  ·show AV.rat (jo k (t+0) ((ia k t n:Nat):Int).toNat j) w=_;rw[Rat.add_zero,bg]
def Jp (s w:Nat):Spec:=cz (kC (kL s) (kC (gv s) kN)) (fun a=>bu (jo a.1.2 a.2.1 (ia a.1.2 a.2.1 a.1.1)) (a.1.1+1) w) fun a=>[a.1.1<2^40]
theorem Uv (h:s+2<=w) (hw:w<2^40):aW P (Jp s w) 136:=cr fun⟨⟨n,k⟩,t,_⟩ K hn=>WV h h hw hn K
theorem aeh:aU 137 f137:=aS func137
theorem Zm:aU 111 f111:=aS func111
def Dt (c:Cu) (n:Nat) (k:Nat->Rat) (j:Nat):Pl:=oX c (fY c.n c.k (k (fj k n j))) c.p.toNat (fun q=>k (q+(j+1)))
def Dc (c:Cu) (n:Nat) (k:Nat->Rat):Cu:=⟨c.p,n,k,n-c.p.toNat-1,Dt c n k⟩
def Cp:aX:=nG::(152,pB)::(194,HS)::(195,r5)::(196,H7)::iZ
abbrev xb:List Nat:=[1,2,4,5,17,18]
abbrev ED (n m:Nat) (k:Nat->Rat) (j:Nat):List AV:=[ls k n,.ptr 0 0 3 0 [],.ptr 1 0 3 0 [],.ptr 2 0 3 0 [],.int .i64 m,.int .i64 j]
abbrev EP (c:Cu) (n:Nat) (k:Nat->Rat) (h:Nat->Pl) (j:Nat):aC:=[(3,⟨true,true,12,j,fun i=>bI (h i) sB⟩),(2,⟨false,true,3,1,fun _=>.agg [.int .i64 c.p,ls k n,.own 3 12 0 j]⟩),(1,⟨false,true,3,1,fun _=>.agg [.int .i64 0,.nil,.nil]⟩),(0,qP c sK)]
abbrev yJ:Code:=aE f137
theorem Af (h:s<=s'):mJ (fun i=>bI (f i) s) m s':=fun _ _=>rM rfl h
def NP:Spec:=cz (kC (sI sK sK) (kC (kL sK) kN)) (fun a=>eo (Dc a.1 a.2.1.1 a.2.1.2) sK sB) fun a=>[Kn a.1.n a.1.p.toNat a.1.k,1<=a.1.p,a.1.p<=6,a.1.n<2^40,a.1.m<2^40,a.2.1.1<2^29,a.1.p+1<=a.2.1.1]
def qD (c:Cu) (t:Rat):Cu:=Dc c (c.n+1) (jo c.k t (ia c.k t c.n))
def NJ:aX:=nG::(136,Jp 2000 2002)::(137,NP)::[]
theorem Tz:aI T Cp [] 60 xb (before yJ [1,1,0,1]) ⟨aN 0 [eo c sK sK,ls k n],[],0⟩=
  let d:=(bp (eo c sK sK)).size;let b:=0<1;let a:=agg [int i64 0,nil,nil];some (aj [b,b] (aj [b,bh (fun i=>rat (k i) sK) n sK,n<2^40,-(2:Int)^40<c.p,c.p<2^40] (leaf normal ([ak 3 n fun i=>rat (k i) 4096,ptr 0 0 d 0 [],ptr 4096 0 3 0 [],ptr 24576 0 3 0 [],int i64 ((↑n:Int)-c.p-1),int i64 0],[((24576:Nat),bG fun j=>if(j==0)=true then bp (agg ((a.kids.set 0 (bp (int i64 c.p))).set 1 (bp (ls k n))))else a),((4096:Nat),bG fun x=>a),(0,aq.mk false true d 1 fun x=>agg [int i64 c.p,ak 3 c.n fun i=>rat (c.k i) 4096,ak 12 c.m fun i=>bI (c.f i) 4096])])))):=ah
theorem akx {h:Nat->Pl}:aI T Cp [19] 60 xb [part yJ [1,1,0,1,0,0]] ⟨aA xb (ED n m k j),EP c n k h j,4⟩=
  let o:=(↑m:Int);let y:=bh (fun i=>rat (c.k i) sK) c.n sK;let w:=ptr 2 0 3 0 [];let v:=ptr 1 0 3 0 [];let u:=ptr 0 0 3 0 [];let g:=2^40;let e:=rat 0 1;let a:=(↑j:Int);let t:=own 3 12 0 j;let C:=ak 3 n fun i=>rat (k i) 4096;let s:=0<1;let l:=(2:Int)^63;let A:Cu:=Cu.mk c.p c.n (fun i=>aF (rat (c.k i) sK)) c.m fun i=>uo (bI (c.f i) sK);let D:List (Nat×aq):=[((1:Nat),bG fun x=>agg [int i64 0,nil,nil]),((0:Nat),bG fun x=>agg [int i64 c.p,ak 3 c.n fun i=>rat (c.k i) 4096,ak 12 c.m fun i=>bI (c.f i) 4096])];let z:=agg [int i64 c.p,ls k n,t];let B:=(↑(fj (fun i=>aF (rat (k i) sK)) n a.toNat):Int);let q:=a+c.p+1;let b:=a+1;let d:=q.toNat-b.toNat;let r:=(↑(fY c.n (fun i=>aF (rat (c.k i) sK)) (k B.toNat)):Int);some (fork (decide (a<o)) (aj [bh (fun i=>rat (k i) sK) n sK,(0:Int)<=a,a<=(↑n:Int),n<g] (aj [s,s,(0:Int)<=B/\B.toNat<n,y,sK<=sK,Kn c.n c.p.toNat fun i=>aF (rat (c.k i) sK),(0:Int)<=c.p,c.n<g] (aj [s,s,-l<=b/\b<l,s,-l<=a+c.p/\a+c.p<l,-l<=q/\q<l,(0:Int)<=b/\b<=q/\q<=q/\q<=(↑n:Int),y,mJ (fun i=>bI (c.f i) sK) c.m sK,bh (fun i=>rat (k (i+b.toNat)) sK) d sK,(1:Int)<=c.p,c.p<=6,c.n<g,c.m<g,-(2:Int)^40<r,r<2^40,(1:Nat)*12<=2^24,(j+1)*((224:Nat)+1)*2<=2^47,s] (aj [-l<=b/\b<l] (leaf normal ([C,u,v,w,int i64 o,int i64 b],(147460,aq.mk true true 12 (j+1) fun i=>if i<j then bI (h i) sB else nth [agg [rat (gO A r d (fun i=>aF (rat (k (i+b.toNat)) sK)) 0) sB,rat (gO A r d (fun i=>aF (rat (k (i+b.toNat)) sK)) 1) sB,rat (gO A r d (fun i=>aF (rat (k (i+b.toNat)) sK)) 2) sB,rat (gO A r d (fun i=>aF (rat (k (i+b.toNat)) sK)) 3) sB]] (agg [e,e,e,e]) (i-j+0))::((2:Nat),bG fun j_1=>if(j_1==0)=true then agg (z.kids.set 2 (bp (own (nat_lit 147459+1) 12 0 (j+1))))else z)::D)))))) (leaf (exit 0) ([C,u,v,w,int i64 o,int i64 a],(3,aq.mk true true 12 j fun i=>bI (h i) 536870912)::((2:Nat),bG fun x=>agg [int i64 c.p,C,t])::D))):=ah
theorem afC {h:Nat->Pl}:ct T Cp [] 60 f137 [part yJ [1,1,1]] ⟨aA xb (ED n m k j),EP c n k h j,4⟩=
  let a:=0<1;some (aj [a,a] (aj [a] (leaf ret [agg [int i64 c.p,ak 3 n fun i=>rat (k i) 4096,ak 12 j fun i=>bI (h (i+0)) 536870912]]))):=ah
theorem SD:bX T NJ [] 60 f111 (aE f111) ⟨aN 0 [eo c 2000 4000,.rat t 2000],[],0⟩=
  some (aj [0<1,0<1,0<1,bh (fun i=>.rat (c.k i) 2000) c.n 2000,2000<=2000,c.n<2^40,bh (fun i=>.rat (c.k i) 2000) c.n sK,mJ (fun i=>bI (c.f i) 4000) c.m sK,bh (fun i=>.rat (jo c.k t (ia c.k t c.n) i) 2002) (c.n+1) sK,Kn c.n c.p.toNat c.k,1<=c.p,c.p<=6,c.n<2^40,c.m<2^40,c.n+1<2^29,c.p+1<=(c.n+1:Nat),0<1]
   (aj [0<1] (leaf .ret [eo (qD c t) sK sB]))):=ah
theorem OI {k:Nat->Rat} {n:Nat}:∀{f i:Nat},i<n->qc k n f i<n
 |0,_,h=>h
 |f+1,i,h=>by
  unfold qc;split
  ·exact OI aa
  ·exact h
theorem Ka (h:i<n):fj k n i<n:=OI h
theorem NN (h:Kn n p k):fY n k t<n:=by
 have hl:=h.len;unfold fY;split
 ·omega
 ·have:=h.lf ‹_›;omega
theorem akU:bn P Cp:=cB (aH y9 (aH Nq (aH H9 (aH Ra jA))))
theorem ad5 (hk:Kn c.n c.p.toNat c.k) (hp1:1<=c.p) (hp6:c.p<=6) (hn:c.n<2^40) (hm2:c.m<2^40) (hn2:n<2^29) (hpn:c.p+1<=n) (K:Nat):aQ P 137 K [eo c sK sK,ls k n] [] (aJ (eo (Dc c n k) sK sB) []):=by
 obtain⟨q,hq⟩:∃q,q=c.p.toNat:=⟨_,rfl⟩
 have hqp:c.p=(q:Int):=aa;refine gP (r:=aJ (eo (Dc c n k) sK sB) []) hT akU hm aeh rfl aV rfl [1,1,0,1] (i:=0) (y:=part yJ [1,1,0,1,0,0]) (z:=part yJ [1,1,1]) ah ah ah (f1:=[]) (f2:=[19]) (f3:=[]) 60 xb 4
  (fun j:Nat=>ED n (n-c.p.toNat-1) k j) (fun j=>EP c n k (Dt c n k) j) (fun j=>j<=n-c.p.toNat-1) (fun j=>j=n-c.p.toNat-1) (fun j=>n-c.p.toNat-1-j) (fun _=>⟨⟨_,Tz,?_⟩,fun j hj=>⟨_,akx,?_⟩,fun j hj=>⟨_,afC,?_⟩⟩) K []
 ·have e1:(n:Int)-c.p-1=((n-c.p.toNat-1:Nat):Int):=aa;simp only[ag.all,ay,e1];exact⟨⟨aa,aa⟩,⟨aa,bL bq,aa,aa,aa⟩,0,Nat.zero_le _,[(0,0),(1,4096),(2,24576)],rfl,rfl,rfl,jP rfl aa aa (cP rfl rfl (lP ⟨aM,aM,⟨rfl,pY aa⟩,trivial⟩) (aL (aL trivial)))⟩
 ·have e1:((j:Int)+1).toNat=j+1:=aa;have e2:((j:Int)+c.p+1).toNat=j+q+1:=aa;have e3:j+q+1-(j+1)=q:=aa;simp only[ag.all,ay,br,bC,bg,e1,e2,e3,Nat.add_zero];have h7:fj (fun i=>aF (rat (k i) sK)) n j=fj k n j:=rfl;have h8:∀t,fY c.n (fun i=>aF (rat (c.k i) sK)) t=fY c.n c.k t:=fun _=>rfl;simp only[h7,h8];refine⟨fun h=>?_,fun h=>⟨rfl,j,aa,[(0,0),(1,1),(2,2),(3,3)],rfl,rfl,rfl,cX (cP rfl rfl (qT rfl rfl rfl) (aL (aL trivial)))⟩⟩;have h1:=Ka (k:=k) (n:=n) (i:=j) aa;have h2:=NN hk (t:=k (fj k n j))
  (repeat' with_reducible refine And.intro ?_ ?_)
  all_goals first|omega|exact bL bq|exact hk|exact fun _ _=>.refl _|skip
  refine⟨j+1,aa,by dsimp only;omega,[(0,0),(1,1),(2,2),(3,147460)],rfl,rfl,rfl,cj rfl rfl rfl (fun j' hj'=>qe (g:=fun j=>bI (Dt c n k j) sB) (fun _ _=>⟨rfl,rfl⟩) rfl ?_ hj') (cP rfl rfl (qT rfl rfl rfl) (aL (aL trivial)))⟩;exact rM (h:=oX c (fY c.n c.k (k (fj k n j))) q (fun q=>k (q+(j+1)))) (by unfold Dt;rw[hq]) bq
 ·subst hj;simp only[ag.all,ay];exact⟨⟨aa,aa⟩,aa,.refl _⟩
theorem ZQ:aW P NP 137:=cr fun⟨c,⟨n,k⟩,_⟩ K hn=>ad5 hn.1 hn.2.1 hn.2.2.1 hn.2.2.2.1 hn.2.2.2.2.1 hn.2.2.2.2.2.1 hn.2.2.2.2.2.2 K
theorem ajb:bn P NJ:=cB (aH (Uv (by decide) (by decide)) (aH ZQ bw))
def NT:Spec:=cz (kC (sI 2000 4000) (kC (gv 2000) kN)) (fun a=>eo (qD a.1 a.2.1) sK sB) fun a=>[Kn a.1.n a.1.p.toNat a.1.k,1<=a.1.p,a.1.p<=6,a.1.n<2^28,a.1.m<2^40]
theorem ajg:aW P NT 111:=cr fun⟨c,t,_⟩ K hn=>by
 obtain⟨h1,h2,h3,h4,h5⟩:Kn c.n c.p.toNat c.k/\1<=c.p/\c.p<=6/\c.n<2^28/\c.m<2^40:=hn;have hl:=h1.len;refine b9 (r:=aJ (eo (qD c t) sK sB) []) hT ajb hm Zm rfl aV rfl 60 SD (fun _=>?_) K [];simp only[ag.all,ay]
 (repeat' with_reducible refine And.intro ?_ ?_)
 all_goals first|omega|exact bL (by decide)|exact h1|exact Af (by decide)|skip
 exact .refl _
def ig (c:Cu) (t:Rat):Int:=if¬(c.k 0<t/\t<c.k (c.n-1))then 7 else if c.p<=(cJ c.k t c.n:Int)then 5 else if 40<=c.m then 2 else 0
def Pp:Cu:=⟨0,0,fun _=>0,0,fun _=>⟨⟨0,0,0⟩,0⟩⟩
theorem Vc:aU 148 f148:=aS func148
theorem aeK:aU 74 f74:=aS func74
theorem ajW:aU 81 f81:=aS func81
theorem ahZ:aU 220 f220:=aS func220
theorem Ja:aU 138 f138:=aS func138
theorem WR:aU 154 f154:=aS func154
theorem WJ:aU 72 f72:=aS func72
theorem ajw:aU 77 f77:=aS func77
def MF:Spec:=ck fun l=>match l with
 |[.mag N]=>some (aJ (.bool true) [nl N<2^40])
 |_=>none
def G8:aX:=nG::(148,MF)::(149,ck (mq FA))::(150,ck (jj DM))::(155,FO)::[]
def M7:Spec:=ck fun l=>match l with
 |[.rat q n]=>some (aJ (.bool true) [n<2^44])
 |_=>none
def Q1:Spec:=ck fun l=>match l with
 |[.rat q n]=>some (aJ (.int .i64 (dj q:Nat)) [n<2^44])
 |_=>none
def BP:Spec:=ck fun l=>match l with
 |[.rat q n]=>some (aJ (.bool false) [n<=2048])
 |_=>none
def Dw:aX:=nG::(74,M7)::(81,Q1)::iZ
def Jm (s:Nat):Kind Pl:=⟨fun v=>match AF v with
 |some (a,q)=>some (a.1,q++[a.2<=s])
 |none=>none,fun a=>bH a s,fun {v a q} h hq=>by
  split at h
  ·rename_i b q' hb;simp only[az,Prod.mk.injEq]at h;obtain⟨rfl,rfl⟩:=h;obtain⟨q1,q2⟩:=dS.1 hq;refine bV.trans (kPl.ok hb q1) ?_;show bV (bH b.1 b.2) (bH b.1 s);exact cM ⟨cM ⟨dU q2,dU q2,dU q2,trivial⟩,dU q2,trivial⟩
  ·simp at h⟩
def LO:Spec:=cz (kC (Jm 2048) kN) (fun _=>.bool false) fun a=>[0<a.1.d]
def AR:Kind FuncId:=⟨fun v=>match v with
 |.func f []=>some (f,[])
 |_=>none,fun g=>.func g [],fun {v a q} h _=>by
  split at h
  ·simp only[az,Prod.mk.injEq]at h;obtain⟨rfl,rfl⟩:=h;exact .refl _
  ·simp at h⟩
abbrev l7:List Nat:=[4,0,1,7,8]
abbrev zV (n i:Nat) (k:Nat->Rat) (g:FuncId):List AV:=[.int .i64 0,bu k n 2048,.func g [],.int .i64 n,.int .i64 i]
abbrev Gw (n i:Nat) (f:Nat->Pl) (g:FuncId):List AV:=[.int .i64 0,aT f n 2048,.func g [],.int .i64 n,.int .i64 i]
abbrev qC:Code:=aE f138
abbrev wZ:Code:=aE f154
def P5:Spec:=o6 fun K l=>match l with
 |[v]=>match(kL 2048).read v with
  |some ((n,k),q)=>some ⟨.own K 3 0 n,[(K,⟨true,true,3,n,fun i=>.rat (k i) 2048⟩)],q++[1<=n,n<2^30]⟩
  |none=>none
 |_=>none
theorem XB:bX T [nG] [6] 60 f148 (aE f148) ⟨aN 0 [.mag N],[],0⟩=
  let b:=(↑(nl N):Int)==0;let a:=(↑(nl N):Int)-1;some (fork b (aj [b=true] (leaf ret [AV.bool true])) (aj [b=false,-(2:Int)^63<=a/\a<2^63,(0:Int)<=a/\a.toNat<nl N] (leaf ret [AV.bool (bif false then true else(↑(aD N a.toNat):Int)!=0)]))):=ah
theorem YX:bX T G8 [18,25,29,33,43] 60 f74 (aE f74) ⟨aN 0 [.rat q n],[],0⟩=
  let i:ag (List AV):=leaf ret [AV.bool false];let h:=!decide (q<0);let f:=q.num.natAbs;let e:=2^40;let a:=0<1;let b:=if q.den=1 then 0 else q.den;let k:=(↑(nl b):Int);let d:=k==1;let g:=k==0;let j:ag (List AV):=aj [a] (fork ((↑(nl f):Int)==0) (fork h (aj [a,h=true,a] (leaf ret [AV.bool (bif true then g else false)])) (aj [a,h=false] i)) (fork g (aj [a,g=true] (leaf ret [AV.bool true])) (aj [a,g=false,a,a,nl f<e,nl b<e,nl (f.gcd b)<e] (leaf ret [AV.bool (bif false then true else(↑(bT (f.gcd b)):Int)==1)]))));some (fork d (aj [a,nl f<e,a,nl b<e,a,d=true,a,(0:Int)<=0/\Int.toNat (0:Int)<nl b] (fork (bif bif !true then true else !true then true else bif true then(↑(aD b (Int.toNat (0:Int))):Int)==1 else false) i j)) (aj [a,nl f<e,a,nl b<e,a,d=false] (fork false i j))):=ah
theorem al5:bX T G8 [] 60 f81 (aE f81) ⟨aN 0 [.rat q n],[],0⟩=
  let b:=(↑(bT q.den):Int);let a:=(↑(bT q.num.natAbs):Int);some (aj [(0:Nat)<1,nl q.num.natAbs<2^40,(0:Nat)<1,nl q.den<2^40] (leaf ret [int i64 (if a<b then b else a)])):=ah
theorem X1:aI T [nG] [] 60 [2] [aE f220] ⟨aN 0 [.ep false 3 n (fun i=>.rat (k i) s)],[],0⟩=
  some (aj [(0:Nat)*3<=2^24,((0:Nat)+n)*((56:Nat)+1)*2<=2^47] (leaf ret ([own 20480 3 0 ((0:Nat)+n)],[(20480,aq.mk true true 3 ((0:Nat)+n) fun i=>rat (k (i-0)) s)]))):=ah
theorem Yc (hn:nl N<2^40) (K:Nat):aQ P 148 K [.mag N] [] (aJ (.bool true) []):=by
 refine b9 hT (cB bw) hm Vc rfl aV rfl 60 XB (fun _=>?_) K [];simp only[ag.all,ay];refine⟨fun h=>⟨h,.refl _⟩,fun h=>?_⟩;have h0:nl N≠0:=fun he=>by rw[he]at h;exact absurd h (by decide)
 have h1:N≠0:=fun he=>h0 (jX.2 he);have e1:((nl N:Int)-1).toNat=nl N-1:=aa;have h2:=yL h1;rw[e1];refine⟨⟨h,aa,aa⟩,gQ ?_⟩;rw[cond_false];exact bne_iff_ne.2 aa
theorem ajo:aW P MF 148:=by
 refine cK fun K args r hk hs _=>?_;split at hs
 ·simp only[az]at hs;subst hs;exact fun need=>Yc need K trivial
 ·simp at hs
theorem MC:bn P G8:=cB (aH ajo (aH Kx (aH KO (aH Sd bw))))
theorem agO (h:nl N=1) (h1:aD N 0=1):N=1:=by
 have h2:N<2^(32*1):=dL.1 aa;unfold aD at h1;omega
theorem aiA (hn:n<2^44) (K:Nat):aQ P 74 K [.rat q n] [] (aJ (.bool true) []):=by
 refine jn fun⟨hs1,_⟩=>?_;obtain⟨a1,a2,a3⟩:=Sz.jY hs1 hn;refine b9 hT MC hm aeK rfl aV rfl 60 YX (fun _=>?_) K [];obtain⟨D,hD⟩:∃D,D=if q.den=1 then 0 else q.den:=⟨_,rfl⟩
 have hD1:D≠1:=by rw[hD];split<;>omega
 have hg:D≠0->q.num.natAbs.gcd D=1:=fun h=>by
  have:D=q.den:=by rw[hD]at h ⊢;split<;>simp_all
  rw[this];exact q.reduced
 have hz:q.num.natAbs=0->¬q<0/\D=0:=fun h=>by
  have h0:=oE.1 h;subst h0;exact⟨by decide,by rw[hD];rfl⟩
 rw[<-hD]at a3 ⊢;have nneg:((nl q.num.natAbs:Int)==0)=true->(!decide (q<0))=true/\((nl D:Int)==0)=true:=fun h=>by
  obtain⟨z1,z2⟩:=hz (jX.1 (by have:=beq_iff_eq.1 h;omega));rw[decide_eq_false z1,z2];exact⟨rfl,rfl⟩
 have last:((nl D:Int)==0)=false->D≠0:=fun h he=>by rw[he]at h;exact absurd h (by decide)
 simp only[ag.all,ay,cond_true,cond_false,Bool.not_true];refine⟨fun h=>⟨⟨aa,a1,aa,a3,aa,h,aa,aa,?_⟩,fun h2=>?_,fun h2=>⟨aa,fun h3=>⟨fun h4=>⟨⟨aa,h4,aa⟩,gQ (nneg h3).2⟩,fun h4=>absurd (h4.symm.trans (nneg h3).1) (by decide)⟩,fun h3=>⟨fun h4=>⟨⟨aa,h4⟩,.refl _⟩,fun h4=>?_⟩⟩⟩,
  fun h=>⟨⟨aa,a1,aa,a3,aa,h⟩,fun h=>absurd h (by decide),fun _=>⟨aa,fun h3=>⟨fun h4=>⟨⟨aa,h4,aa⟩,gQ (nneg h3).2⟩,fun h4=>absurd (h4.symm.trans (nneg h3).1) (by decide)⟩,fun h3=>⟨fun h4=>⟨⟨aa,h4⟩,.refl _⟩,fun h4=>?_⟩⟩⟩⟩
 ·have:=beq_iff_eq.1 h;rw[Int.toNat_zero];omega
 ·have e1:=beq_iff_eq.1 h;have e2:=beq_iff_eq.1 h2;exact absurd (agO aa (by rw[Int.toNat_zero]at e2;omega)) hD1
 ·rw[hg (last h4)];exact⟨⟨aa,h4,aa,aa,a1,a3,by decide⟩,gQ (by decide)⟩
 ·rw[hg (last h4)];exact⟨⟨aa,h4,aa,aa,a1,a3,by decide⟩,gQ (by decide)⟩
theorem ajr:aW P M7 74:=by
 refine cK fun K args r hk hs _=>?_;split at hs
 ·simp only[az]at hs;subst hs;exact fun need=>aiA need K trivial
 ·simp at hs
theorem agj (hn:n<2^44) (K:Nat):aQ P 81 K [.rat q n] [] (aJ (.int .i64 (dj q:Nat)) []):=by
 refine jn fun⟨hs1,_⟩=>?_;obtain⟨a1,a2,a3⟩:=Sz.jY hs1 hn;refine b9 hT MC hm ajW rfl aV rfl 60 al5 (fun _=>?_) K [];simp only[ag.all,ay];refine⟨⟨aa,a1,aa,a2⟩,bP ?_⟩;unfold dj;split<;>omega
theorem VT:aW P Q1 81:=by
 refine cK fun K args r hk hs _=>?_;split at hs
 ·simp only[az]at hs;subst hs;exact fun need=>agj need K trivial
 ·simp at hs
theorem F8:bn P Dw:=cB (aH ajr (aH VT jA))
theorem Xx {args:List AV} {l:List Prop} (ha:ay l->fZ (bk []) args [.ep false 3 n (fun i=>.rat (k i) 2048)]) (hn:ay l->1<=n/\n<2^30) (K:Nat):aQ P 220 K args [] ⟨iK [.own K 3 0 n],[(K,⟨true,true,3,n,fun i=>.rat (k i) 2048⟩)],l⟩:=by
 refine Cz hT ahZ ha aV fun need c hk=>?_;obtain⟨h1,h2⟩:=hn need;refine ax.bE hT (cB bw) hm 60 [2] X1 ah ?_;simp only[ag.all,ay];exact⟨⟨aa,aa⟩,fun s' hs'=>⟨.inr trivial,[2],_,[.own 20480 3 0 (0+n)],_,20480,_,hs',ah,⟨⟨rfl,cN (by simp[bk,look]) rfl aa⟩,trivial⟩,rfl,ji aa fun i hi=>gm rfl⟩⟩
theorem Y4 {l:List Prop} (hn:ay l->1<=n/\n<2^30) (K:Nat):aQ P 220 K [bu k n 2048] [] ⟨iK [.own K 3 0 n],[(K,⟨true,true,3,n,fun i=>.rat (k i) 2048⟩)],l⟩:=by
 refine OZ fun b hb=>?_;intro need;have h1:=hn need;cases b
 ·exact Xx (args:=[.ep false 3 n (fun i=>.rat (k i) 2048)]) (fun _=>⟨aM,trivial⟩) hn K need
 ·have:=hb rfl;omega
theorem Uy:aW P P5 220:=by
 refine sA fun K args r hk hs=>?_;split at hs
 ·rename_i v;split at hs
  ·rename_i n k q hv;simp only[az]at hs;subst hs;intro need;obtain⟨hn1,hn2⟩:=dS.1 need;exact gW (Y4 (l:=q++[1<=n,n<2^30]) (fun h=>⟨(dS.1 h).2.1,(dS.1 h).2.2⟩) K) hk ⟨(kL 2048).ok hv hn1,trivial⟩ [] need
  ·simp at hs
 ·simp at hs
end Go.Am.B
