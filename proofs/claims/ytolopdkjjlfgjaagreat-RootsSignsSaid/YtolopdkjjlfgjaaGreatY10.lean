/- Isolate's second closure: intervals are halved until one root is in each. -/
import Derived.Test.YtolopdkjjlfgjaaGreatY9
import Derived.Test.YtolopdkjjlfgjaaGreatZ2
import Derived.Test.YtolopdkjjlfgjaaGreatY7
import Derived.Test.YtolopdkjjlfgjaaGreatY8
set_option linter.unusedVariables false
noncomputable section
namespace Go.Am.B
open Go Go.Am.N AV ag au IntKind Proofs.Tryz
def bM (n:Nat) (c:Nat->PP):Nat->Rat->Rat->List (Rat×Rat)
 |0,_,_=>[]
 |d+1,x,y=>if dn n c x y=0 then []else if dn n c x y=1 then [(fk x y,fl x y)]else
  bM n c d x (aU x y)++(if b9 (c 0) (aU x y)=0 then(aU x y,aU x y)::bM n c d (aU x y) y else bM n c d (aU x y) y)
def kr (n:Nat) (c:Nat->PP):Nat->Rat->Rat->Prop
 |0,_,_=>False
 |d+1,x,y=>cj n c x/\cj n c y/\(dn n c x y≠0->dn n c x y≠1->Sz (aU x y) af/\kr n c d x (aU x y)/\kr n c d (aU x y) y)
def mX:AV->Rat×Rat
 |.agg [x,y]=>(aN x,aN y)
 |_=>(0,0)
def jZ (f:Nat->AV) (m:Nat):List (Rat×Rat):=(List.range m).map fun i=>mX (f i)
def cw (l:List (Rat×Rat)) (i:Nat):Rat×Rat:=l.getD i (0,0)
abbrev cG (l:List (Rat×Rat)) (i:Nat):AV:=dH (cw l i).1 (cw l i).2 af
abbrev oL (l:List (Rat×Rat)):aA:=⟨true,true,6,l.length,cG l⟩
abbrev tu:FuncId:=64
abbrev oP:FuncId:=67
abbrev Ed (n:Nat) (c:Nat->PP):AV:=.func tu [.cu (eH n c)]
abbrev Kf (n:Nat) (c:Nat->PP) (kf kl:Nat):AV:=.func oP [.cu (eH n c),.ptr kf 0 1 0 [],.ptr kl 0 1 0 [],.cu (Ed n c)]
abbrev wu (k m:Nat):aA:=⟨false,true,1,1,fun _=>.own k 6 0 m⟩
abbrev uW (n:Nat) (c:Nat->PP) (kf kl:Nat):aA:=⟨false,true,1,1,fun _=>Kf n c kf kl⟩
abbrev gone:aA:=⟨true,false,0,0,fun _=>.nil⟩
def isVar (o:aA):Bool:=!o.row&&o.wr&&o.es==1&&o.len==1
def EF (st:aI) (k:Nat):Option (Nat×Nat×(Nat->AV)×Nat):=match look k st with
 |some o=>if isVar o then match o.f 0 with
  |.own k0 6 0 m=>match look k0 st with
   |some r=>if r.row&&r.wr&&r.es==6&&k0 !=k then some (k0,m,r.f,r.len)else none
   |none=>none
  |_=>none else none
 |none=>none
def HM (st:aI) (kf kl:Nat):Option (AV×AV):=match look kl st with
 |some o=>if isVar o then match o.f 0 with
  |.func g [.cu ch,.ptr kf' 0 1 0 [],.ptr kl' 0 1 0 [],.cu is]=>if g==oP&&kf'==kf&&kl'==kl&&kl !=kf then some (ch,is)else none
  |_=>none else none
 |none=>none
def C4:AV->Option AV
 |.func g [.cu ch]=>if g==tu then some ch else none
 |_=>none
def rX (d:Nat):Spec:=fun K args st=>match args with
 |[x,y,.cu ch,.ptr kf 0 1 0 [],.ptr kl 0 1 0 [],.cu is]=>match(fu af).read x,(fu af).read y,mW.read ch,C4 is with
  |some (x,q1),some (y,q2),some ((n,c),q3),some ch1=>match EF st kf,HM st kf kl with
   |some (k0,m,f,len),some (oJ,is2)=>match C4 is2 with
    |some ch3=>if k0 !=kl&&Nat.blt kf K&&Nat.blt kl K&&Nat.blt k0 K then
      some ⟨.tuple [],[(kf,wu K (jZ f m++bM n c d x y).length),(kl,uW n c kf kl),(K,oL (jZ f m++bM n c d x y)),(k0,gone)],
       [aC q1,aC q2,aC q3,bf ch1 (eH n c),bf oJ (eH n c),bf ch3 (eH n c),m=len,∀i,i<m->keys (f i)=[]/\bf (f i) (dH (mX (f i)).1 (mX (f i)).2 af),0<n,n<2^40,kr n c d x y,m+(bM n c d x y).length<2^30]⟩else none
    |none=>none
   |_,_=>none
  |_,_,_,_=>none
 |_=>none
def RJ (d:Nat):bE:=nG::(60,tX)::(68,Cm)::(70,BW)::(69,E1)::(tu,Iq)::(oP,rX d)::iC
abbrev Pa:Code:=aK f67
abbrev FX (n:Nat) (c:Nat->PP) (x y:Rat):List AV:=[.rat x af,.rat y af,.cu (eH n c),.ptr 0 0 1 0 [],.ptr 1 0 1 0 [],.cu (Ed n c)]
abbrev KN (n:Nat) (c:Nat->PP) (l:List (Rat×Rat)):aI:=[(0,wu 2 l.length),(1,uW n c 0 1),(2,oL l)]
theorem PU:bu oP f67:=bC func67
theorem adf {d n:Nat} {c:Nat->PP} {x y:Rat} {l:List (Rat×Rat)}:aL T (RJ d) [32,34,22] 60 [3,4] [Pa] ⟨aZ 0 (FX n c x y),KN n c l,3⟩=
  let G:=eH n fun i=>br (aD (c i));let F:=dn n (fun i=>br (aD (c i))) x y;let v:=2^30;let p:=0<n;let D:=1*6<=2^24;let a:=aU x y;let g:=l.length;let e:=rat 0 1;let q:=n<2^40;let h:=af<=af;let u:=ptr 0 0 1 0 [];let t:=ptr 1 0 1 0 [];let B:=aC [∀(i:Nat),i<n->bf (aD (br (aD (c i)))) (aD (br (aD (br (aD (c i))))))];let A:=(aq 1 n fun i=>aq 3 (c i).fst fun i_1=>rat ((c i).snd i_1) af).cu;let O:=(aq 1 n fun i=>aq 3 (c i).fst fun i_1=>rat (aN (rat (aN (rat ((c i).snd i_1) af)) af)) af).cu;let f:=0<1;let H:List (Rat×Rat):=bM n (fun i=>br (aD (c i))) d x a;let w:=g+1;let L:=b9 (br (aD (c 0))) a;let m:=aC [h];let E:=own 2 6 0 g;let C:=kr n (fun i=>br (aD (br (aD (c i))))) d a y;let s:=bf (eH n c) G;let K:=[u,t];let J:List (Rat×Rat):=bM n (fun i=>br (aD (br (aD (c i))))) d a y;let z:=bf G (eH n fun i=>br (aD (br (aD (c i)))));let N:Nat×aA:=(1,aA.mk false true 1 1 fun x=>func 67 [A,u,t,(func 64 [A]).cu]);let M:Nat×aA:=(1,aA.mk false true 1 1 fun x=>func 67 [O,u,t,(func 64 [O]).cu]);let o:List (Rat×Rat):=jZ (cG l) g++H;let b:=o.length;let r:List (Rat×Rat):=jZ (cG o) b++J;let k:=b+1;let I:List (Rat×Rat):=jZ (fun i=>if i<b then cG o i else nth [agg [rat a af,rat a af]] (agg [e,e]) (i-b+0)) k++J;some (aj [f,f,∀(i:Nat),i<n->bf (aD (c i)) (aD (br (aD (c i)))),h,h,p,q,cj n (fun i=>br (aD (c i))) x,cj n (fun i=>br (aD (c i))) y] (fork (F==0) (leaf normal (K,[N,(0,aA.mk false true 1 1 fun x=>E),(2,aA.mk true true 6 g fun i=>agg [rat (cw l i).fst af,rat (cw l i).snd af])])) (fork (F==1) (aj [f,f,f,h,h,D,w*((112:Nat)+1)*2<=2^47,f] (leaf normal (K,[N,(0,aA.mk false true 1 1 fun j=>if(j==0)=true then eE (own (nat_lit 61442+1) 6 0 w)else E),(61443,aA.mk true true 6 w fun i=>if i<g then cG l i else nth [agg [rat (fk x y) af,rat (fl x y) af]] (agg [e,e]) (i-g+0))]))) (aj [f,f,h,h,Sz a af,f] (aj [f,f,f,m,m,aC [∀(i:Nat),i<n->bf (aD (c i)) (aD (br (aD (c i))))],s,s,s,g=g,∀(i:Nat),i<g->(cG l i).keys=[]/\bf (cG l i) (dH (aN (rat (cw l i).fst af)) (aN (rat (cw l i).snd af)) af),p,q,kr n (fun i=>br (aD (c i))) d x a,g+H.length<v] (aj [f,h,∀(i:Nat),i<n->bf (aD (c i)) (aD (br (aD (c i)))),p,cj n (fun i=>br (aD (c i))) a] (fork (decide (L=0)) (aj [f,f,h,D,k*((112:Nat)+1)*2<=2^47,f] (aj [f,f,f,m,m,B,z,z,z,k=k,∀(i:Nat),i<k->(if i<b then cG o i else nth [agg [rat a af,rat a af]] (agg [e,e]) (i-b+0)).keys=[]/\bf (if i<b then cG o i else nth [agg [rat a af,rat a af]] (agg [e,e]) (i-b+0)) (dH (mX (if i<b then cG o i else nth [agg [rat a af,rat a af]] (agg [e,e]) (i-b+0))).fst (mX (if i<b then cG o i else nth [agg [rat a af,rat a af]] (agg [e,e]) (i-b+0))).snd af),p,q,C,k+J.length<v] (leaf normal (K,[M,(0,aA.mk false true 1 1 fun x=>own 126979 6 0 I.length),(126979,aA.mk true true 6 I.length fun i=>agg [rat (cw I i).fst af,rat (cw I i).snd af])])))) (aj [f,f,f,m,m,B,z,z,z,b=b,∀(i:Nat),i<b->(cG o i).keys=[]/\bf (cG o i) (dH (aN (rat (cw o i).fst af)) (aN (rat (cw o i).snd af)) af),p,q,C,b+J.length<v] (leaf normal (K,[M,(0,aA.mk false true 1 1 fun x=>own 102403 6 0 r.length),(102403,aA.mk true true 6 r.length fun i=>agg [rat (cw r i).fst af,rat (cw r i).snd af])])))))))))):=ah
theorem KL {s:Nat} {v:AV} {x:Rat} {q:List Prop} (h:(fu s).read v=some (x,q)):v.isTuple=false:=by
 unfold fu at h
 dsimp only at h
 split at h
 ·rename_i h1
  unfold oW at h1
  split at h1
  ·rfl
  ·rfl
  ·simp at h1
 ·simp at h
theorem RW {s:Nat} {v:AV} {x:Rat} {q:List Prop} (h:(fu s).read v=some (x,q)):keys v=[]:=by
 unfold fu at h
 dsimp only at h
 split at h
 ·rename_i h1
  unfold oW at h1
  split at h1
  ·rfl
  ·rfl
  ·simp at h1
 ·simp at h
theorem PY {o:aA} (h:isVar o=true):o=⟨false,true,1,1,o.f⟩:=by
 obtain⟨r,w,es,len,f⟩:=o
 unfold isVar at h
 simp only[Bool.and_eq_true,Bool.not_eq_true',beq_iff_eq]at h
 obtain⟨⟨⟨h1,h2⟩,h3⟩,h4⟩:=h
 subst h1 h2 h3 h4;rfl
theorem W5 {st:aI} {k k0 m len:Nat} {f:Nat->AV} (h:EF st k=some (k0,m,f,len)):∃g,look k st=some ⟨false,true,1,1,g⟩/\g 0=.own k0 6 0 m/\look k0 st=some ⟨true,true,6,len,f⟩/\k0≠k:=by
 unfold EF at h
 split at h
 ·rename_i o ho
  split at h
  ·rename_i hv
   have hv:=PY hv
   split at h
   ·rename_i k0' m' hf
    split at h
    ·rename_i r hr
     split at h
     ·rename_i hc
      simp only[Bool.and_eq_true,beq_iff_eq,bne_iff_ne,ne_eq]at hc
      obtain⟨⟨⟨c1,c2⟩,c3⟩,c4⟩:=hc
      simp only[aB,Prod.mk.injEq]at h
      obtain⟨rfl,rfl,rfl,rfl⟩:=h
      refine⟨o.f,by rw[ho,<-hv],hf,?_,c4⟩
      rw[hr]
      obtain⟨r1,r2,r3,r4,r5⟩:=r
      subst c1 c2 c3;rfl
     ·simp at h
    ·simp at h
   ·simp at h
  ·simp at h
 ·simp at h
theorem adW {st:aI} {kf kl:Nat} {ch is:AV} (h:HM st kf kl=some (ch,is)):∃g,look kl st=some ⟨false,true,1,1,g⟩/\g 0=.func oP [.cu ch,.ptr kf 0 1 0 [],.ptr kl 0 1 0 [],.cu is]/\kl≠kf:=by
 unfold HM at h
 split at h
 ·rename_i o ho
  split at h
  ·rename_i hv
   have hv:=PY hv
   split at h
   ·rename_i g' ch' kf' kl' is' hf
    split at h
    ·rename_i hc
     simp only[Bool.and_eq_true,beq_iff_eq,bne_iff_ne,ne_eq]at hc
     obtain⟨⟨⟨c1,c2⟩,c3⟩,c4⟩:=hc
     simp only[aB,Prod.mk.injEq]at h
     obtain⟨rfl,rfl⟩:=h
     subst c1 c2 c3
     exact⟨o.f,by rw[ho,<-hv],hf,c4⟩
    ·simp at h
   ·simp at h
  ·simp at h
 ·simp at h
theorem Rn {v ch:AV} (h:C4 v=some ch):v=.func tu [.cu ch]:=by
 unfold C4 at h
 split at h
 ·split at h
  ·rename_i hc
   have:=eq_of_beq hc
   simp only[aB]at h
   subst h this;rfl
  ·simp at h
 ·simp at h
theorem zL {f:Nat->AV} {m:Nat}:(jZ f m).length=m:=by simp[jZ]
theorem ajL {f:Nat->AV} {m i:Nat} (h:i<m):cw (jZ f m) i=mX (f i):=by
 unfold cw jZ
 simp[List.getD,h]
theorem J6 {f:Nat->AV} {m:Nat} {l:List (Rat×Rat)} (hl:l.length=m) (h:∀i,i<m->mX (f i)=cw l i):jZ f m=l:=by
 apply List.ext_getElem
 ·rw[zL,hl]
 ·intro i h1 h2
  have:=h i (by rwa [zL]at h1)
  simp only[jZ,List.getElem_map,List.getElem_range,this,cw]
  simp[List.getD,h2]
theorem JK {l:List (Rat×Rat)}:jZ (cG l) l.length=l:=J6 rfl fun i _=>rfl
theorem u7 {l l':List (Rat×Rat)} {i:Nat}:cw (l++l') i=if i<l.length then cw l i else cw l' (i-l.length):=by
 unfold cw
 simp only[List.getD,List.getElem?_append]
 split<;>rfl
theorem CZ {s':aP} {e:au} {n:Nat} {c:Nat->PP} {kf kl K kx:Nat} {vs:List AV} {vf vl row:aA} {L:List (Rat×Rat)} (he:e=.normal) (h1:kl≠kf) (g1:kf<K) (g2:kl<K) (hv:bJ [3,4] s'=some (vs,[(1,vl),(0,vf),(kx,row)])) (hkx:2<=kx) (hl:vl=uW n c 0 1)
  (hf:vf=⟨false,true,1,1,vf.f⟩) (hf0:vf.f 0=.own kx 6 0 L.length) (hr:row=⟨true,true,6,L.length,row.f⟩) (hr0:∀i,i<L.length->row.f i=cG L i):
  (e=.normal\/e=.ret)/\∃ls vs os kx o1 o2 o3,bJ ls s'=some (vs,os)/\2<=kx/\
   look 0 os=some o1/\eA (bD [(kf,0),(kl,1),(K,kx)]) o1 (wu K L.length)/\look 1 os=some o2/\eA (bD [(kf,0),(kl,1),(K,kx)]) o2 (uW n c kf kl)/\look kx os=some o3/\eA (bD [(kf,0),(kl,1),(K,kx)]) o3 (oL L):=by
 have n1:¬kf=K:=aa
 have n2:¬kl=K:=aa
 have n3:¬0=kx:=aa
 have n4:¬1=kx:=aa
 have r1:bD [(kf,0),(kl,1),(K,kx)] kf=some 0:=by simp[bD,look]
 have r2:bD [(kf,0),(kl,1),(K,kx)] kl=some 1:=by simp[bD,look,h1.symm]
 have r3:bD [(kf,0),(kl,1),(K,kx)] K=some kx:=by simp[bD,look,n1,n2]
 refine⟨.inl he,[3,4],vs,_,kx,vf,vl,row,hv,hkx,by simp[look],?_,by simp[look],?_,by simp[look,n3,n4],?_⟩
 ·rw[hf]
  exact iQ rfl fun i hi=>by obtain rfl:i=0:=aa;rw[hf0];exact eR r3 rfl rfl
 ·rw[hl]
  exact iQ rfl fun i hi=>EN ⟨⟨rfl,jD rfl (.refl _)⟩,⟨rfl,iY r1⟩,⟨rfl,iY r2⟩,⟨rfl,jD rfl (.refl _)⟩,trivial⟩ rfl
 ·rw[hr]
  exact iQ rfl fun i hi=>by rw[hr0 i hi];exact jD rfl (.refl _)
theorem TP {d:Nat} (h:∀K args pre r,rX d K args pre=some r->aW P oP K args pre r):bY P (RJ d):=gM (aM xG (aM Iz (aM HA (aM Ke (aM M6 (aM h iG))))))
theorem kr.right {n d:Nat} {c:Nat->PP} {x y:Rat} (h:kr n c d x y):cj n c y:=by
 cases d with
 |zero=>exact h.elim
 |succ d=>exact h.2.1
theorem NI {v z:AV} {i:Nat} (h:i=0):nth [v] z i=v:=by subst h;rfl
theorem wS {l:List (Rat×Rat)} {p:Rat×Rat} {z:AV} {i:Nat} (hi:i<l.length+1):(if i<l.length then cG l i else nth [dH p.1 p.2 af] z (i-l.length+0))=cG (l++[p]) i:=by
 unfold cG
 rw[u7]
 split
 ·rfl
 ·rw[NI aa,show i-l.length=0 by omega];rfl
theorem RM {l:List (Rat×Rat)} {p:Rat×Rat} {z:AV}:jZ (fun i=>if i<l.length then cG l i else nth [dH p.1 p.2 af] z (i-l.length+0)) (l.length+1)=l++[p]:=
 J6 (by simp) fun i hi=>by
  have:=wS (p:=p) (z:=z) hi
  rw[this];rfl
theorem adY {d:Nat} (hd:∀K args pre r,rX d K args pre=some r->aW P oP K args pre r) {n:Nat} {c:Nat->PP} {x y:Rat} {l:List (Rat×Rat)} {kf kl K:Nat} (h1:kl≠kf) (g1:kf<K) (g2:kl<K) (hn0:0<n) (hn:n<2^40) (hz:kr n c (d+1) x y) (hb:l.length+(bM n c (d+1) x y).length<2^30) (cx:Ctx):
  az P cx f67.ntmps Pa ⟨aZ 0 (FX n c x y),KN n c l,3⟩ fun e s'=>(e=.normal\/e=.ret)/\∃ls vs os kx o1 o2 o3,bJ ls s'=some (vs,os)/\2<=kx/\
   look 0 os=some o1/\eA (bD [(kf,0),(kl,1),(K,kx)]) o1 (wu K (l++bM n c (d+1) x y).length)/\look 1 os=some o2/\eA (bD [(kf,0),(kl,1),(K,kx)]) o2 (uW n c kf kl)/\look kx os=some o3/\eA (bD [(kf,0),(kl,1),(K,kx)]) o3 (oL (l++bM n c (d+1) x y)):=by
 have hW:=cP
 obtain⟨z1,z2,z3⟩:=hz
 have hC:(fun i=>br (aD (c i)))=c:=rfl
 have hL:bM n c (d+1) x y=if dn n c x y=0 then []else if dn n c x y=1 then [(fk x y,fl x y)]else
  bM n c d x (aU x y)++(if b9 (c 0) (aU x y)=0 then(aU x y,aU x y)::bM n c d (aU x y) y else bM n c d (aU x y) y):=rfl
 have hk:∀{l:List (Rat×Rat)} {i:Nat},i<l.length->keys (cG l i)=[]/\bf (cG l i) (dH (aN (.rat (cw l i).1 af)) (aN (.rat (cw l i).2 af)) af):=fun _=>⟨rfl,.refl _⟩
 have hq:∀{l:List (Rat×Rat)} {p:Rat×Rat} {z:AV} {i:Nat},i<l.length+1->keys (if i<l.length then cG l i else nth [dH p.1 p.2 af] z (i-l.length+0))=[]/\
   bf (if i<l.length then cG l i else nth [dH p.1 p.2 af] z (i-l.length+0)) (dH (mX (if i<l.length then cG l i else nth [dH p.1 p.2 af] z (i-l.length+0))).1 (mX (if i<l.length then cG l i else nth [dH p.1 p.2 af] z (i-l.length+0))).2 af):=fun hi=>by
  rw[wS hi];exact⟨rfl,.refl _⟩
 refine az.bU hT (TP hd) hm 60 [3,4] adf PU.dst ?_
 simp only[ag.all,aC,hC,beq_iff_eq,beq_eq_false_iff_ne,ne_eq,bI,bR,JK]
 refine⟨⟨aa,aa,fun i _=>.refl _,aX,aX,hn0,hn,z1,z2⟩,fun b0 s' hv=>?_,fun b0=>⟨fun b1=>⟨⟨aa,aa,aa,aX,aX,aa,?_,aa⟩,fun s' hv=>?_⟩,fun b1=>?_⟩⟩
 ·rw[hL,if_pos b0,List.append_nil]
  exact⟨.inl trivial,(CZ (L:=l) rfl h1 g1 g2 hv aa rfl rfl rfl rfl fun i _=>rfl).2⟩
 ·rw[hL,if_neg b0,if_pos b1]at hb
  simp only[List.length_cons,List.length_nil]at hb
  omega
 ·rw[hL,if_neg b0,if_pos b1]
  refine⟨.inl trivial,(CZ (L:=l++[(fk x y,fl x y)]) rfl h1 g1 g2 hv aa rfl rfl (by rw[List.length_append];rfl) (by rw[List.length_append];rfl) fun i hi=>?_).2⟩
  rw[List.length_append]at hi
  exact wS (p:=(fk x y,fl x y)) hi
 ·obtain⟨m1,m2,m3⟩:=z3 b0 b1
  rw[hL,if_neg b0,if_neg b1]at hb ⊢
  rw[List.length_append]at hb
  have hl2:(bM n c d (aU x y) y).length<=(if b9 (c 0) (aU x y)=0 then(aU x y,aU x y)::bM n c d (aU x y) y else bM n c d (aU x y) y).length:=by
   split
   ·exact Nat.le_succ _
   ·exact Nat.le_refl _
  refine⟨⟨aa,aa,aX,aX,m1,aa⟩,⟨aa,aa,aa,aX,aX,fun i _=>.refl _,.refl _,.refl _,.refl _,trivial,fun i hi=>hk hi,hn0,hn,m2,aa⟩,⟨aa,aX,fun i _=>.refl _,hn0,m2.right⟩,fun r0=>⟨⟨aa,aa,aX,aa,?_,aa⟩,⟨aa,aa,aa,aX,aX,fun i _=>.refl _,.refl _,.refl _,.refl _,trivial,fun i hi=>hq (p:=(aU x y,aU x y)) hi,hn0,hn,m3,?_⟩,fun s' hv=>?_⟩,
   fun r0=>⟨⟨aa,aa,aa,aX,aX,fun i _=>.refl _,.refl _,.refl _,.refl _,trivial,fun i hi=>hk hi,hn0,hn,m3,?_⟩,fun s' hv=>?_⟩⟩
  ·rw[List.length_append];omega
  ·have r0:b9 (c 0) (aU x y)=0:=r0
   rw[if_pos r0,List.length_cons]at hb
   show(l++bM n c d x (aU x y)).length+1+(bM n c d (aU x y) y).length<2^30
   rw[List.length_append];omega
  ·have r0:b9 (c 0) (aU x y)=0:=r0
   rw[if_pos r0]
   have e:=RM (l:=l++bM n c d x (aU x y)) (p:=(aU x y,aU x y)) (z:=.agg [.rat 0 1,.rat 0 1])
   dsimp only at e hv
   rw[e]at hv
   rw[show l++(bM n c d x (aU x y)++(aU x y,aU x y)::bM n c d (aU x y) y)=l++bM n c d x (aU x y)++[(aU x y,aU x y)]++bM n c d (aU x y) y by simp[List.append_assoc]]
   exact⟨.inl trivial,(CZ rfl h1 g1 g2 hv aa rfl rfl rfl rfl fun i _=>rfl).2⟩
  ·show(l++bM n c d x (aU x y)).length+(bM n c d (aU x y) y).length<2^30
   rw[List.length_append];omega
  ·have r0:¬b9 (c 0) (aU x y)=0:=r0
   rw[if_neg r0,<-List.append_assoc]
   exact⟨.inl trivial,(CZ rfl h1 g1 g2 hv aa rfl rfl rfl rfl fun i _=>rfl).2⟩
theorem J4 {d:Nat} (ih:∀e,d=e+1->∀K args pre r,rX e K args pre=some r->aW P oP K args pre r):bp P (rX d) oP:=by
 intro K args pre r h
 unfold rX at h
 split at h
 ·rename_i x' y' ch kf kl is
  split at h
  ·rename_i x q1 y q2 n c q3 ch1 hx hy hc hi
   split at h
   ·rename_i k0 m f len oJ is2 hl hcl
    split at h
    ·rename_i ch3 hi3
     split at h
     ·rename_i hk
      simp only[aB]at h
      subst h
      simp only[Bool.and_eq_true,bne_iff_ne,ne_eq,Nat.blt_eq]at hk
      obtain⟨⟨⟨k1,k2⟩,k3⟩,k4⟩:=hk
      obtain⟨e1,l1,l2,l3,l4⟩:=W5 hl
      obtain⟨e2,c1,c2,c3⟩:=adW hcl
      obtain rfl:=Rn hi
      obtain rfl:=Rn hi3
      intro need
      obtain⟨n1,n2,n3,n4,n5,n6,n7,n8,n9,n10,n11,n12⟩:=need
      have hch:=mW.ok hc n3
      have r0:bD [(0,kf),(1,kl),(2,k0)] 0=some kf:=rfl
      have r1:bD [(0,kf),(1,kl),(2,k0)] 1=some kl:=rfl
      have r2:bD [(0,kf),(1,kl),(2,k0)] 2=some k0:=rfl
      have hcr:∀{ρ:Nat->Option Nat} {u v:AV},bf u v->iO ρ (.cu u) (.cu v):=fun h=>jD rfl (G8 h)
      have hcl:∀{ρ:Nat->Option Nat} {u v:AV},bf u v->iO ρ (.cu (.func tu [.cu u])) (.cu (.func tu [.cu v])):=fun h=>hcr (U1 ⟨G8 h,trivial⟩ rfl)
      refine aW.frame (pre:=[(kf,⟨false,true,1,1,e1⟩),(kl,⟨false,true,1,1,e2⟩),(k0,⟨true,true,6,len,f⟩)]) (ahD hT PU (args0:=FX n c x y) (oa0:=wu 2 (jZ f m).length) (ob0:=uW n c 0 1) (oc0:=oL (jZ f m)) ah rfl c3 l4 k1 k2 k3 k4 (fun _=>?_) bh (fun _=>⟨?_,?_,?_⟩) (fun _ cx _=>?_)) (fun k o hk=>?_) ⟨n1,n2,n3,n4,n5,n6,n7,n8,n9,n10,n11,n12⟩
      ·exact⟨⟨KL hx,jD (RW hx) ((fu af).ok hx n1)⟩,⟨KL hy,jD (RW hy) ((fu af).ok hy n2)⟩,⟨rfl,hcr hch⟩,⟨rfl,iY r0⟩,⟨rfl,iY r1⟩,⟨rfl,hcl n4⟩,trivial⟩
      ·rw[zL]
       exact iQ rfl fun i hi=>by obtain rfl:i=0:=aa;rw[l2];exact eR r2 rfl rfl
      ·exact iQ rfl fun i hi=>by
        obtain rfl:i=0:=aa
        rw[c2]
        exact EN ⟨⟨rfl,hcr n5⟩,⟨rfl,iY r0⟩,⟨rfl,iY r1⟩,⟨rfl,hcl n6⟩,trivial⟩ rfl
      ·refine iQ (by rw[zL];exact n7) fun i hi=>?_
       obtain⟨p1,p2⟩:=n8 i aa
       unfold cG
       rw[ajL (show i<m by omega)]
       exact jD p1 p2
      ·cases d with
       |zero=>exact absurd n11 id
       |succ d=>exact adY (ih d rfl) c3 k2 k3 n9 n10 n11 (by rw[zL];exact n12) cx
      ·rcases uC hk with⟨e1,e2⟩|⟨e1,_,e2⟩|⟨e1,_,_,e2⟩<;>subst e1<;>subst e2
       ·exact l1
       ·exact c1
       ·exact l3
     ·simp at h
    ·simp at h
   ·simp at h
  ·simp at h
 ·simp at h
theorem Nw:∀d K args pre r,rX d K args pre=some r->aW P oP K args pre r
 |0=>J4 fun e h=>absurd h aa
 |d+1=>J4 fun e h=>by obtain rfl:d=e:=aa;exact Nw d
end Go.Am.B
namespace Go.Am
def sg (f:Nat->Rat):Nat->Rat
 |0=>0
 |n+1=>sg f n+f n
theorem iN {f g:Nat->Rat}:∀{n:Nat},(∀i,i<n->f i=g i)->sg f n=sg g n
 |0,_=>rfl
 |n+1,h=>by rw[sg,sg,iN fun i hi=>h i (by omega),h n (by omega)]
theorem oT {f:Nat->Rat}:∀{n:Nat},(∀i,i<n->f i=0)->sg f n=0
 |0,_=>rfl
 |n+1,h=>by rw[sg,oT fun i hi=>h i (by omega),h n (by omega),Rat.add_zero]
theorem tL {f g:Nat->Rat}:∀{n:Nat},sg (fun i=>f i+g i) n=sg f n+sg g n
 |0=>by simp only[sg];grind
 |n+1=>by rw[sg,sg,sg,tL];grind
theorem nu {f:Nat->Rat} {c:Rat}:∀{n:Nat},sg (fun i=>c*f i) n=c*sg f n
 |0=>by simp only[sg];grind
 |n+1=>by rw[sg,sg,nu];grind
theorem zw {f:Nat->Rat}:∀{n:Nat},sg f (n+1)=f 0+sg (fun i=>f (i+1)) n
 |0=>by simp only[sg];grind
 |n+1=>by rw[sg,zw,sg];grind
theorem Ci {f:Nat->Rat} {n:Nat}:∀{m:Nat},sg f (n+m)=sg f n+sg (fun i=>f (n+i)) m
 |0=>by simp only[sg];show sg f n=_;grind
 |m+1=>by
  show sg f (n+m)+f (n+m)=sg f n+(sg (fun i=>f (n+i)) m+f (n+m))
  rw[Ci];grind
theorem Cs {f:Nat->Rat} {n m:Nat} (h:∀i,n<=i->i<m->f i=0) (hm:n<=m):sg f m=sg f n:=by
 obtain⟨l,rfl⟩:∃l,m=n+l:=⟨m-n,by omega⟩
 rw[Ci,oT (f:=fun i=>f (n+i)) fun i hi=>h _ (by omega) (by omega),Rat.add_zero]
theorem D0 {f:Nat->Nat->Rat} {n:Nat}:∀{m:Nat},sg (fun i=>sg (fun j=>f i j) n) m=sg (fun j=>sg (fun i=>f i j) m) n
 |0=>(oT fun _ _=>rfl).symm
 |m+1=>by
  rw[sg,D0,<-tL];rfl
theorem pow_add' (t:Rat) (m:Nat):∀n:Nat,t^(m+n)=t^m*t^n
 |0=>by rw[Nat.add_zero,Rat.pow_zero,Rat.mul_one]
 |n+1=>by rw[<-Nat.add_assoc,Rat.pow_succ,pow_add' t m n,Rat.pow_succ,Rat.mul_assoc]
def ev (n:Nat) (k:Nat->Rat) (t:Rat):Rat:=sg (fun i=>k i*t^i) n
theorem rV {n:Nat} {k l:Nat->Rat} {t:Rat} (h:∀i,i<n->k i=l i):ev n k t=ev n l t:=iN fun i hi=>by rw[h i hi]
theorem P0 {n:Nat} {k:Nat->Rat} {t:Rat}:ev (n+1) k t=ev n k t+k n*t^n:=rfl
theorem xl {n:Nat} {k:Nat->Rat} {t:Rat}:ev (n+1) k t=k 0+t*ev n (fun i=>k (i+1)) t:=by
 unfold ev
 rw[zw,<-nu,Rat.pow_zero,Rat.mul_one]
 congr 1
 exact iN fun i _=>by rw[Rat.pow_succ];grind
theorem LU {n m:Nat} {k:Nat->Rat} {t:Rat} (h:∀i,n<=i->i<m->k i=0) (hm:n<=m):ev m k t=ev n k t:=Cs (fun i h1 h2=>by rw[h i h1 h2,Rat.zero_mul]) hm
theorem vS {n:Nat} {k l:Nat->Rat} {t:Rat}:ev n (fun i=>k i+l i) t=ev n k t+ev n l t:=by
 unfold ev;rw[<-tL];exact iN fun i _=>by grind
theorem qH {n:Nat} {k:Nat->Rat} {c t:Rat}:ev n (fun i=>c*k i) t=c*ev n k t:=by
 unfold ev;rw[<-nu];exact iN fun i _=>by grind
theorem UZ {n m:Nat} {k:Nat->Rat} {t:Rat}:ev (m+n) (fun i=>if m<=i then k (i-m)else 0) t=t^m*ev n k t:=by
 unfold ev
 rw[Ci,oT fun i hi=>by dsimp only;rw[if_neg (by omega),Rat.zero_mul],Rat.zero_add,<-nu]
 exact iN fun i _=>by dsimp only;rw[if_pos (by omega),pow_add',show m+i-m=i by omega];grind
theorem GI {n:Nat} {k:Nat->Rat} {t:Rat}:∀m,m<=n->gi n k t m=ev m (fun i=>k (n-m+i)) t
 |0,_=>rfl
 |m+1,h=>by
  rw[gi,GI m (by omega),xl]
  rw[show n-(m+1)+0=n-1-m by omega,rV (l:=fun i=>k (n-(m+1)+(i+1))) fun i _=>by rw[show n-m+i=n-(m+1)+(i+1) by omega]]
  grind
theorem nv {a:PP} {t:Rat}:b9 a t=ev a.1 a.2 t:=by
 unfold b9
 rw[GI _ (Nat.le_refl _)]
 exact rV fun i _=>by rw[Nat.sub_self,Nat.zero_add]
def kn (n:Nat) (k:Nat->Rat) (c:Rat) (i:Nat):Rat:=gi n k c (n-1-i)
theorem we {k:Nat->Rat} {c t:Rat}:∀n,ev (n+1) k t=(t-c)*ev n (kn (n+1) k c) t+ev (n+1) k c
 |0=>by simp only[ev,sg];grind
 |n+1=>by
  -- by the lowest coefficient
  have ih:=we (k:=fun i=>k (i+1)) (c:=c) (t:=t) n
  have e1:∀m,m<=n+1->gi (n+1+1) k c m=gi (n+1) (fun i=>k (i+1)) c m:=fun m=>by
   induction m with
   |zero=>exact fun _=>rfl
   |succ m ihm=>
    intro hm
    rw[gi,gi,ihm (by omega),show n+1+1-1-m=n+1-1-m+1 by omega]
  have e2:ev (n+1) (kn (n+1+1) k c) t=ev (n+1) (fun i=>k (i+1)) c+t*ev n (kn (n+1) (fun i=>k (i+1)) c) t:=by
   rw[xl]
   congr 1
   ·unfold kn
    rw[show n+1+1-1-0=n+1 by omega,e1 (n+1) (Nat.le_refl _)]
    have:=nv (a:=(n+1,fun i=>k (i+1))) (t:=c)
    exact this
   ·congr 1
    refine rV fun i hi=>?_
    unfold kn
    rw[show n+1+1-1-(i+1)=n+1-1-i by omega,e1 _ (by omega)]
  rw[xl (n:=n+1) (t:=t),xl (n:=n+1) (t:=c),ih,e2]
  grind
theorem JF {a b:Nat} (h:((a:Int):Rat)=((b:Int):Rat)):a=b:=by
 have:(a:Int)=(b:Int):=by exact_mod_cast h
 omega
theorem Nd:∀(n:Nat) (k:Nat->Rat) (s:Nat),(∀j,s<=j->j<s+n->ev n k ((j:Int):Rat)=0)->∀i,i<n->k i=0
 |0,_,_,_=>fun i hi=>absurd hi (Nat.not_lt_zero i)
 |n+1,k,s,h=>by
  have h0:=h s (Nat.le_refl _) (by omega)
  have hq:∀i,i<n->kn (n+1) k ((s:Int):Rat) i=0:=Nd n _ (s+1) fun j h1 h2=>by
   have:=h j (by omega) (by omega)
   rw[we (c:=((s:Int):Rat)),h0,Rat.add_zero]at this
   rcases Rat.mul_eq_zero.1 this with h3|h3
   ·have:((j:Int):Rat)=((s:Int):Rat):=by grind
    have:=JF this
    omega
   ·exact h3
  have hh:∀m,m<=n->gi (n+1) k ((s:Int):Rat) m=0:=fun m hm=>by
   cases m with
   |zero=>rfl
   |succ m=>
    have:=hq (n-(m+1)) (by omega)
    unfold kn at this
    rwa [show n+1-1-(n-(m+1))=m+1 by omega]at this
  have hl:gi (n+1) k ((s:Int):Rat) (n+1)=0:=by
   have:=nv (a:=(n+1,k)) (t:=((s:Int):Rat))
   exact this.trans h0
  intro i hi
  have e:gi (n+1) k ((s:Int):Rat) (n-i+1)=gi (n+1) k ((s:Int):Rat) (n-i)*((s:Int):Rat)+k (n+1-1-(n-i)):=rfl
  rw[hh (n-i) (by omega),Rat.zero_mul,Rat.zero_add,show n+1-1-(n-i)=i by omega]at e
  rw[<-e]
  rcases Nat.eq_zero_or_pos i with h1|h1
  ·subst h1;exact hl
  ·exact hh _ (by omega)
theorem aii {n:Nat} {k l:Nat->Rat} (h:∀t,ev n k t=ev n l t):∀i,i<n->k i=l i:=fun i hi=>by
 have:=Nd n (fun i=>k i+-1*l i) 0 (fun j _ _=>by
  rw[vS,qH (k:=l),h];grind) i hi
 grind
def fh (a:PP) (i:Nat):Rat:=if i<a.1 then a.2 i else 0
def aE (a:PP) (t:Rat):Rat:=ev a.1 a.2 t
theorem sF {a:PP} {t:Rat} {m:Nat} (h:a.1<=m):ev m (fh a) t=aE a t:=by
 rw[LU (n:=a.1) (fun i h1 h2=>by unfold fh;rw[if_neg (by omega)]) h]
 exact rV fun i hi=>by unfold fh;rw[if_pos hi]
theorem vi {a b:PP} (h:∀t,aE a t=aE b t):∀i,fh a i=fh b i:=fun i=>by
 by_cases hi:i<max a.1 b.1
 ·exact aii (n:=max a.1 b.1) (fun t=>by rw[sF (Nat.le_max_left _ _),sF (Nat.le_max_right _ _),h]) i hi
 ·unfold fh
  rw[if_neg (by omega),if_neg (by omega)]
theorem yT {a b:PP} (ha:Trim a) (h:∀i,fh a i=fh b i):a.1<=b.1:=by
 rcases ha with ha|ha
 ·omega
 ·rcases Nat.lt_or_ge b.1 a.1 with h1|h1
  ·have:=h (a.1-1)
   unfold fh at this
   rw[if_pos (by omega),if_neg (by omega)]at this
   exact absurd this ha
  ·exact h1
theorem C2 {a b:PP} (ha:Trim a) (hb:Trim b) (h:∀t,aE a t=aE b t):gO a b:=by
 have hc:=vi h
 have h1:=yT ha hc
 have h2:=yT hb fun i=>(hc i).symm
 refine⟨by omega,fun i hi=>?_⟩
 have:=hc i
 unfold fh at this
 rwa [if_pos hi,if_pos (by omega)]at this
theorem gO.ev {a b:PP} (h:gO a b) (t:Rat):aE a t=aE b t:=by
 unfold aE
 rw[<-h.1]
 exact rV h.2
theorem xe {n:Nat} {k:Nat->Rat} {t:Rat}:ev (bO k n) k t=ev n k t:=(LU (fun i h1 h2=>EH h1 h2) fK).symm
theorem ahZ {n e k:Nat} {d r:Nat->Rat} {t:Rat} (h:k+e<n):ev n (g8 e d k r) t=ev n r t-r (k+e)/d e*(t^k*ev (e+1) d t):=by
 obtain⟨l,rfl⟩:∃l,n=k+(e+1)+l:=⟨n-(k+(e+1)),by omega⟩
 have h1:ev (k+(e+1)) (g8 e d k r) t=ev (k+(e+1)) r t-r (k+e)/d e*(t^k*ev (e+1) d t):=by
  rw[<-UZ (k:=d),Rat.sub_eq_add_neg,<-Rat.neg_mul,<-qH,<-vS]
  refine rV fun i hi=>?_
  unfold g8
  by_cases h2:k<=i
  ·rw[if_pos ⟨h2,by omega⟩,if_pos h2];grind
  ·rw[if_neg (by omega),if_neg h2,Rat.mul_zero,Rat.add_zero]
 have h2:∀(f:Nat->Rat),ev (k+(e+1)+l) f t=ev (k+(e+1)) f t+sg (fun i=>f (k+(e+1)+i)*t^(k+(e+1)+i)) l:=fun f=>Ci
 rw[h2,h2 r,h1,iN (f:=fun i=>g8 e d k r (k+(e+1)+i)*t^(k+(e+1)+i)) (g:=fun i=>r (k+(e+1)+i)*t^(k+(e+1)+i)) fun i _=>by unfold g8;rw[if_neg (by omega)]]
 grind
theorem Nh {n e R:Nat} {d a:Nat->Rat} {t:Rat} (hR:R=n-e):∀j,j<=R->ev n a t=ev n (cC e d a R j) t+ev R (fun k=>if k+j<R then 0 else ej e d a R k) t*ev (e+1) d t
 |0,_=>by
  rw[show ev R (fun k=>if k+0<R then 0 else ej e d a R k) t=0 from oT fun i hi=>by dsimp only;rw[if_pos (by omega),Rat.zero_mul],Rat.zero_mul,Rat.add_zero];rfl
 |j+1,hj=>by
  have ih:=Nh (t:=t) hR j (by omega) (d:=d) (a:=a)
  have e1:ev n (cC e d a R (j+1)) t=_:=ahZ (k:=R-1-j) (r:=cC e d a R j) (by omega)
  have e2:cC e d a R j (R-1-j+e)/d e=ej e d a R (R-1-j):=by unfold ej;rw[show R-1-(R-1-j)=j by omega]
  rw[e2]at e1
  have e3:ev R (fun k=>if k+(j+1)<R then 0 else ej e d a R k) t=ev R (fun k=>if k+j<R then 0 else ej e d a R k) t+ej e d a R (R-1-j)*t^(R-1-j):=by
   have:∀i,(if i+(j+1)<R then 0 else ej e d a R i)=(if i+j<R then 0 else ej e d a R i)+(if i=R-1-j then ej e d a R (R-1-j)else 0):=fun i=>by
    by_cases h1:i+(j+1)<R
    ·rw[if_pos h1,if_pos (by omega),if_neg (by omega),Rat.add_zero]
    ·rw[if_neg h1]
     by_cases h2:i=R-1-j
     ·rw[if_pos (by omega),if_pos h2,Rat.zero_add,h2]
     ·rw[if_neg (by omega),if_neg h2,Rat.add_zero]
   rw[show(fun k=>if k+(j+1)<R then 0 else ej e d a R k)=fun i=>(if i+j<R then 0 else ej e d a R i)+(if i=R-1-j then ej e d a R (R-1-j)else 0)from funext this,vS]
   congr 1
   -- a single power
   unfold ev
   rw[Cs (n:=R-1-j+1) (fun i h1 h2=>by dsimp only;rw[if_neg (by omega),Rat.zero_mul]) (by omega),sg,oT fun i hi=>by dsimp only;rw[if_neg (by omega),Rat.zero_mul],Rat.zero_add]
   dsimp only
   rw[if_pos rfl]
  rw[e1,e3,ih]
  grind
theorem qo {a d:PP} (hd:0<d.1) (t:Rat):aE a t=aE (fE a d) t*aE d t+aE (dj a d) t:=by
 have:=Nh (n:=a.1) (e:=d.1-1) (d:=d.2) (a:=a.2) (t:=t) rfl _ (Nat.le_refl _)
 rw[show d.1-1+1=d.1 by omega]at this
 have e1:aE (fE a d) t=ev _ _ t:=xe
 have e2:aE (dj a d) t=ev _ _ t:=xe
 show ev a.1 a.2 t=aE (fE a d) t*ev d.1 d.2 t+aE (dj a d) t
 rw[e1,e2,this]
 rw[rV (k:=fun k=>if k+(a.1-(d.1-1))<a.1-(d.1-1)then 0 else ej (d.1-1) d.2 a.2 (a.1-(d.1-1)) k) (l:=ej (d.1-1) d.2 a.2 (a.1-(d.1-1))) fun i hi=>if_neg (by omega)]
 grind
def cs:Nat->(Nat->Rat)->Rat->Rat
 |0,p,_=>p 0
 |m+1,p,t=>(1-t)*cs m p t+t*cs m (fun i=>p (i+1)) t
abbrev bq (n k:Nat):Rat:=((bn n k:Int):Rat)
theorem Mi (n k:Nat):bq (n+1) (k+1)=bq n k+bq n (k+1):=by
 show((bn (n+1) (k+1):Int):Rat)=_
 rw[qA,Int.natCast_add,Rat.intCast_add]
theorem xQ (n:Nat):bq n 0=1:=by show((bn n 0:Int):Rat)=1;rw[sy];rfl
theorem Jo {n k:Nat} (h:n<k):bq n k=0:=by show((bn n k:Int):Rat)=0;rw[pT h];rfl
theorem Po {n k:Nat} (h:k<=n):bq n k≠0:=by
 intro h0
 have h1:((bn n k:Int):Rat).num=(0:Rat).num:=congrArg Rat.num h0
 rw[Rat.num_intCast,show(0:Rat).num=0 from rfl]at h1
 have:=Du h
 omega
theorem EG {p:Nat->Rat}:∀k i,gr p k (i+1)=gr (fun i=>p (i+1)) k i
 |0,_=>rfl
 |k+1,i=>by rw[gr,gr,EG (p:=p) k (i+1),EG (p:=p) k i]
theorem Io:∀(m:Nat) (p:Nat->Rat) (t:Rat),ev (m+1) (fun k=>bq m k*gr p k 0) t=cs m p t
 |0,p,t=>by
  show 0+bq 0 0*p 0*t^0=p 0
  rw[xQ,Rat.pow_zero];grind
 |m+1,p,t=>by
  have h1:=Io m p t
  have h2:=Io m (fun i=>p (i+1)) t
  rw[cs,<-h1,<-h2,xl (n:=m+1)]
  have e1:∀k,bq (m+1) (k+1)*gr p (k+1) 0=bq m (k+1)*gr p (k+1) 0+(bq m k*gr (fun i=>p (i+1)) k 0+-1*(bq m k*gr p k 0)):=fun k=>by
   rw[Mi,<-EG]
   have:gr p (k+1) 0=gr p k 1-gr p k 0:=rfl
   rw[this];grind
  rw[show(fun i=>bq (m+1) (i+1)*gr p (i+1) 0)=fun k=>bq m (k+1)*gr p (k+1) 0+(bq m k*gr (fun i=>p (i+1)) k 0+-1*(bq m k*gr p k 0))from funext e1,vS,vS,qH]
  rw[P0 (k:=fun k=>bq m (k+1)*gr p (k+1) 0),Jo (Nat.lt_succ_self m),Rat.zero_mul,Rat.zero_mul,Rat.add_zero]
  rw[xl (k:=fun k=>bq m k*gr p k 0),xQ,xQ]
  have:gr p 0 0=p 0:=rfl
  rw[this]
  generalize ev m (fun i=>bq m (i+1)*gr p (i+1) 0) t=A
  generalize ev (m+1) (fun k=>bq m k*gr (fun i=>p (i+1)) k 0) t=B
  grind
theorem Tz {m:Nat} {p:Nat->Rat} {t:Rat}:ev (m+1) (fj (m+1) p) t=cs m p t:=Io m p t
def hv (m:Nat) (u:Nat->Rat) (x y:Rat):Rat:=sg (fun i=>u i*(x^i*y^(m-i))) (m+1)
theorem AI:∀(m:Nat) (p:Nat->Rat) (t:Rat),hv m (fun i=>bq m i*p i) t (1-t)=cs m p t
 |0,p,t=>by
  show 0+bq 0 0*p 0*(t^0*(1-t)^0)=p 0
  rw[xQ,Rat.pow_zero,Rat.pow_zero];grind
 |m+1,p,t=>by
  have h1:=AI m p t
  have h2:=AI m (fun i=>p (i+1)) t
  rw[cs,<-h1,<-h2]
  unfold hv
  rw[zw (n:=m+1)]
  dsimp only
  rw[xQ]
  have e1:∀i,i<m+1->bq (m+1) (i+1)*p (i+1)*(t^(i+1)*(1-t)^(m+1-(i+1)))=t*(bq m i*p (i+1)*(t^i*(1-t)^(m-i)))+bq m (i+1)*p (i+1)*(t^(i+1)*(1-t)^(m-i)):=fun i hi=>by
   rw[Mi,show m+1-(i+1)=m-i by omega,Rat.pow_succ];grind
  rw[iN e1,tL,nu]
  have e2:sg (fun i=>bq m (i+1)*p (i+1)*(t^(i+1)*(1-t)^(m-i))) (m+1)=sg (fun i=>(1-t)*(bq m (i+1)*p (i+1)*(t^(i+1)*(1-t)^(m-(i+1))))) m:=by
   rw[sg,Jo (Nat.lt_succ_self m),Rat.zero_mul,Rat.zero_mul,Rat.add_zero]
   exact iN fun i hi=>by rw[show m-i=m-(i+1)+1 by omega,Rat.pow_succ (1-t)];grind
  rw[e2,nu,zw (f:=fun i=>bq m i*p i*(t^i*(1-t)^(m-i))),xQ,Rat.pow_zero,Nat.sub_zero,Nat.sub_zero,Rat.pow_succ]
  generalize sg (fun i=>bq m (i+1)*p (i+1)*(t^(i+1)*(1-t)^(m-(i+1)))) m=A
  generalize sg (fun i=>bq m i*p (i+1)*(t^i*(1-t)^(m-i))) (m+1)=B
  grind
def kM (m n:Nat) (u v:Nat->Rat) (k:Nat):Rat:=sg (fun i=>sg (fun j=>if i+j=k then u i*v j else 0) (n+1)) (m+1)
theorem HZ {f:Nat->Rat} {i n:Nat} (hi:i<n) (h:∀j,j<n->j≠i->f j=0):sg f n=f i:=by
 rw[Cs (n:=i+1) (fun j h1 h2=>h j h2 (by omega)) (by omega),sg,oT fun j hj=>h j (by omega) (by omega),Rat.zero_add]
theorem Ga {m n:Nat} {u v X:Nat->Rat}:sg (fun k=>kM m n u v k*X k) (m+n+1)=sg (fun i=>sg (fun j=>u i*v j*X (i+j)) (n+1)) (m+1):=by
 unfold kM
 have e1:∀k,sg (fun i=>sg (fun j=>if i+j=k then u i*v j else 0) (n+1)) (m+1)*X k=sg (fun i=>sg (fun j=>if i+j=k then u i*v j*X k else 0) (n+1)) (m+1):=fun k=>by
  rw[Rat.mul_comm,<-nu]
  refine iN fun i _=>?_
  rw[<-nu]
  refine iN fun j _=>?_
  by_cases h:i+j=k
  ·rw[if_pos h,if_pos h];grind
  ·rw[if_neg h,if_neg h,Rat.mul_zero]
 rw[iN fun k _=>e1 k,D0]
 refine iN fun i hi=>?_
 rw[D0]
 refine iN fun j hj=>?_
 rw[HZ (i:=i+j) (by omega) fun k _ h=>if_neg fun h'=>h h'.symm,if_pos rfl]
theorem ag8 {m n:Nat} {u v:Nat->Rat} {x y:Rat}:hv (m+n) (kM m n u v) x y=hv m u x y*hv n v x y:=by
 unfold hv
 rw[Ga (X:=fun k=>x^k*y^(m+n-k)),<-nu (f:=fun i=>v i*(x^i*y^(n-i)))]
 rw[show(fun i=>sg (fun i=>u i*(x^i*y^(m-i))) (m+1)*(v i*(x^i*y^(n-i))))=fun j=>sg (fun i=>v j*(x^j*y^(n-j))*(u i*(x^i*y^(m-i)))) (m+1)from funext fun j=>by rw[nu];grind]
 rw[<-D0]
 refine iN fun i hi=>iN fun j hj=>?_
 rw[show m+n-(j+i)=(m-j)+(n-i) by omega,pow_add',pow_add'];grind
def kY (m n:Nat) (p q:Nat->Rat) (k:Nat):Rat:=kM m n (fun i=>bq m i*p i) (fun j=>bq n j*q j) k/bq (m+n) k
theorem acY {m n:Nat} {p q:Nat->Rat} {t:Rat}:cs (m+n) (kY m n p q) t=cs m p t*cs n q t:=by
 rw[<-AI,<-AI,<-AI,<-ag8]
 unfold hv
 refine iN fun i hi=>?_
 show bq (m+n) i*kY m n p q i*_=kM _ _ _ _ i*_
 rw[show bq (m+n) i*kY m n p q i=kM m n (fun i=>bq m i*p i) (fun j=>bq n j*q j) i from by unfold kY;rw[Rat.mul_comm,Rat.div_mul_cancel (Po (by omega))]]
def iB (a b:PP):PP:=(max a.1 b.1,fun i=>fh a i+fh b i)
def gv (r:Rat) (a:PP):PP:=(a.1,fun i=>r*a.2 i)
def bZ (a b:PP):PP:=(a.1+b.1+1,kM a.1 b.1 (fh a) (fh b))
theorem ju {a b:PP} {t:Rat}:aE (iB a b) t=aE a t+aE b t:=by
 show ev (max a.1 b.1) (fun i=>fh a i+fh b i) t=_
 rw[vS,sF (Nat.le_max_left _ _),sF (Nat.le_max_right _ _)]
theorem gb {r:Rat} {a:PP} {t:Rat}:aE (gv r a) t=r*aE a t:=qH
theorem Gz {m n:Nat} {f g:Nat->Rat}:sg (fun i=>sg (fun j=>f i*g j) n) m=sg f m*sg g n:=by
 rw[Rat.mul_comm,<-nu]
 exact iN fun i _=>by rw[nu,Rat.mul_comm]
theorem cA {a b:PP} {t:Rat}:aE (bZ a b) t=aE a t*aE b t:=by
 rw[<-sF (a:=a) (Nat.le_succ a.1),<-sF (a:=b) (Nat.le_succ b.1)]
 show sg (fun k=>kM a.1 b.1 (fh a) (fh b) k*t^k) (a.1+b.1+1)=_
 rw[Ga (X:=fun k=>t^k)]
 unfold ev
 rw[<-Gz]
 exact iN fun i _=>iN fun j _=>by rw[pow_add'];grind
def dX (t:Rat) (i:Nat):Rat:=((i:Int):Rat)*t^(i-1)
theorem afL {t:Rat} {i j:Nat}:dX t (i+j)=dX t i*t^j+t^i*dX t j:=by
 unfold dX
 cases i with
 |zero=>
  rw[Nat.zero_add,Rat.pow_zero,show((0:Nat):Int)=0 from rfl,show((0:Int):Rat)=0 from rfl];grind
 |succ i=>
  cases j with
  |zero=>rw[Nat.add_zero,Rat.pow_zero,show((0:Nat):Int)=0 from rfl,show((0:Int):Rat)=0 from rfl];grind
  |succ j=>
   rw[show i+1+(j+1)-1=i+(j+1) by omega,show i+1-1=i by omega,show j+1-1=j by omega,show((i+1+(j+1):Nat):Int)=((i+1:Nat):Int)+((j+1:Nat):Int) by omega,Rat.intCast_add,pow_add',Rat.pow_succ,Rat.pow_succ];grind
def dP (a:PP) (t:Rat):Rat:=sg (fun i=>a.2 i*dX t i) a.1
theorem wJ {a:PP} {t:Rat} {m:Nat} (h:a.1<=m):sg (fun i=>fh a i*dX t i) m=dP a t:=by
 rw[Cs (n:=a.1) (fun i h1 h2=>by unfold fh;rw[if_neg (by omega),Rat.zero_mul]) h]
 exact iN fun i hi=>by unfold fh;rw[if_pos hi]
theorem gN {a:PP} {t:Rat}:aE (bz a) t=dP a t:=by
 have e1:aE (bz a) t=ev (a.1-1) (cV a.2) t:=xe
 rw[e1]
 unfold dP
 rcases Nat.eq_zero_or_pos a.1 with h|h
 ·rw[h];rfl
 ·obtain⟨n,hn⟩:∃n,a.1=n+1:=⟨a.1-1,by omega⟩
  rw[hn,zw,show n+1-1=n by omega]
  have:dX t 0=0:=by unfold dX;rw[show((0:Nat):Int)=0 from rfl,show((0:Int):Rat)=0 from rfl,Rat.zero_mul]
  rw[this,Rat.mul_zero,Rat.zero_add]
  refine iN fun i _=>?_
  unfold cV dX
  rw[show i+1-1=i by omega];grind
theorem Nv {a b:PP} (h:∀t,aE a t=aE b t) (t:Rat):dP a t=dP b t:=by
 rw[<-wJ (Nat.le_max_left a.1 b.1),<-wJ (Nat.le_max_right a.1 b.1)]
 exact iN fun i _=>by rw[vi h i]
theorem kV {a b c:PP} (h:∀t,aE c t=aE a t*aE b t) (t:Rat):dP c t=dP a t*aE b t+aE a t*dP b t:=by
 rw[Nv (b:=bZ a b) (fun t=>by rw[h,cA]) t]
 show sg (fun k=>kM a.1 b.1 (fh a) (fh b) k*dX t k) (a.1+b.1+1)=_
 rw[Ga (X:=dX t),<-wJ (a:=a) (Nat.le_succ a.1),<-wJ (a:=b) (Nat.le_succ b.1),<-sF (a:=a) (Nat.le_succ a.1),<-sF (a:=b) (Nat.le_succ b.1)]
 unfold ev
 rw[<-Gz,<-Gz,<-tL]
 refine iN fun i _=>?_
 rw[<-tL]
 exact iN fun j _=>by rw[afL];grind
def Dv (h a:PP):Prop:=∃w:PP,∀t,aE a t=aE h t*aE w t
def gY:PP:=(1,fun _=>1)
theorem jo {t:Rat}:aE gY t=1:=by show 0+1*t^0=1;rw[Rat.pow_zero];grind
theorem Dv.refl (a:PP):Dv a a:=⟨gY,fun t=>by rw[jo,Rat.mul_one]⟩
theorem Dv.of_eq {h a b:PP} (hd:Dv h a) (e:∀t,aE a t=aE b t):Dv h b:=hd.imp fun w hw t=>by rw[<-e,hw]
theorem Dv.trans {a b c:PP} (h1:Dv a b) (h2:Dv b c):Dv a c:=by
 obtain⟨v,hv⟩:=h1
 obtain⟨w,hw⟩:=h2
 exact⟨bZ v w,fun t=>by rw[hw,hv,cA,Rat.mul_assoc]⟩
theorem Dv.comb {h a b c u v:PP} (ha:Dv h a) (hb:Dv h b) (e:∀t,aE c t=aE u t*aE a t+aE v t*aE b t):Dv h c:=by
 obtain⟨x,hx⟩:=ha
 obtain⟨y,hy⟩:=hb
 exact⟨iB (bZ u x) (bZ v y),fun t=>by rw[e,hx,hy,ju,cA,cA];grind⟩
theorem Dv.tM {h a:PP} (ha:Dv h a) (r:Rat) {b:PP} (e:∀t,aE b t=r*aE a t):Dv h b:=by
 obtain⟨x,hx⟩:=ha
 exact⟨gv r x,fun t=>by rw[e,hx,gb];grind⟩
theorem Dv.rem {h a d:PP} (hd:0<d.1) (h1:Dv h a) (h2:Dv h d):Dv h (dj a d):=
 Dv.comb (u:=gY) (v:=gv (-1) (fE a d)) h1 h2 fun t=>by rw[qo (a:=a) hd t,jo,gb];grind
theorem AS {a:PP} {t:Rat}:aE (dM a) t=(a.2 (a.1-1))⁻¹*aE a t:=by
 show ev a.1 (cN a.1 a.2) t=_
 rw[show aE a t=ev a.1 a.2 t from rfl,<-qH]
 exact rV fun i _=>by unfold cN;rw[Rat.div_def,Rat.mul_comm]
theorem DO {a:PP} (ha:Trim a) {t:Rat}:aE a t=a.2 (a.1-1)*aE (dM a) t:=by
 rw[AS,<-Rat.mul_assoc]
 rcases ha with h|h
 ·have:aE a t=0:=by show ev a.1 a.2 t=0;rw[h];rfl
  rw[this,Rat.mul_zero]
 ·rw[Rat.mul_inv_cancel _ h,Rat.one_mul]
theorem Dv.cN {h a:PP} (h1:Dv h a):Dv h (dM a):=h1.tM _ fun _=>AS
theorem Dv.RN {h a:PP} (ha:Trim a) (h1:Dv h (dM a)):Dv h a:=h1.tM _ fun _=>DO ha
theorem Ou {h:PP} {s:PP×PP} (h1:Dv h s.1) (h2:Dv h s.2):∀j,Dv h (bW s j).1/\Dv h (bW s j).2
 |0=>⟨h1,h2⟩
 |j+1=>by
  obtain⟨i1,i2⟩:=Ou h1 h2 j
  show Dv h (fZ _).1/\Dv h (fZ _).2
  unfold fZ
  by_cases h0:(bW s j).2.1=0
  ·rw[if_pos h0];exact⟨i1,i2⟩
  ·rw[if_neg h0];exact⟨i2,(i1.rem (by omega) i2).cN⟩
theorem wG {h a b:PP} (h1:Dv h a) (h2:Dv h b):Dv h (bN a b):=(Ou (s:=(a,b)) h1 h2 _).1.cN
theorem HN {h:PP} {s:PP×PP} (t1:Trim s.1) (t2:Trim s.2):∀j,Dv h (bW s j).1->Dv h (bW s j).2->Dv h s.1/\Dv h s.2
 |0,h1,h2=>⟨h1,h2⟩
 |j+1,h1,h2=>by
  have h1:Dv h (fZ (bW s j)).1:=h1
  have h2:Dv h (fZ (bW s j)).2:=h2
  unfold fZ at h1 h2
  by_cases h0:(bW s j).2.1=0
  ·rw[if_pos h0]at h1 h2;exact HN t1 t2 j h1 h2
  ·rw[if_neg h0]at h1 h2
   refine HN t1 t2 j (Dv.comb (u:=fE (bW s j).1 (bW s j).2) (v:=gY) h1 (h2.RN qI) fun t=>?_) h1
   rw[jo,Rat.one_mul]
   exact qo (a:=(bW s j).1) (d:=(bW s j).2) (by omega) t
theorem jl {a:PP} (h:a.1=0) (t:Rat):aE a t=0:=by show ev a.1 a.2 t=0;rw[h];rfl
theorem nj {a b:PP} (t1:Trim a) (t2:Trim b):Dv (bN a b) a/\Dv (bN a b) b:=by
 have h0:(bW (a,b) b.1).2.1=0:=by have:=yN (s:=(a,b)) t1 t2 b.1;dsimp only at this;omega
 have ht:=lC (s:=(a,b)) t1 t2 b.1
 refine HN (s:=(a,b)) t1 t2 b.1 (Dv.RN ht.1 (Dv.refl _)) ⟨(0,fun _=>0),fun t=>?_⟩
 rw[jl h0,jl (a:=(0,fun _=>(0:Rat))) rfl,Rat.mul_zero]
theorem G3 {a:PP} (h:0<a.1) (ht:Trim a):fh a (a.1-1)≠0:=by
 unfold fh
 rw[if_pos (by omega)]
 rcases ht with h'|h'
 ·omega
 ·exact h'
theorem OS {a b:PP} (ha:0<a.1) (hb:0<b.1) (ta:Trim a) (tb:Trim b):fh (bZ a b) (a.1-1+(b.1-1))≠0:=by
 have e:fh (bZ a b) (a.1-1+(b.1-1))=kM a.1 b.1 (fh a) (fh b) (a.1-1+(b.1-1)):=by
  show(if _<a.1+b.1+1 then _ else _)=_
  rw[if_pos (by omega)];rfl
 rw[e]
 unfold kM
 have z:∀{c:PP} {i:Nat},c.1<=i->fh c i=0:=fun h=>by unfold fh;rw[if_neg (by omega)]
 rw[HZ (i:=a.1-1) (by omega) fun i hi hne=>oT fun j hj=>by
  by_cases h:i+j=a.1-1+(b.1-1)
  ·rw[if_pos h]
   by_cases h2:a.1<=i
   ·rw[z h2,Rat.zero_mul]
   ·rw[z (c:=b) (i:=j) (by omega),Rat.mul_zero]
  ·rw[if_neg h],HZ (i:=b.1-1) (by omega) fun j hj hne=>if_neg (by omega),if_pos rfl]
 exact fun h0=>(Rat.mul_eq_zero.1 h0).elim (G3 ha ta) (G3 hb tb)
def cz (a:PP):PP:=(bO a.2 a.1,a.2)
theorem eI {a:PP} (t:Rat):aE (cz a) t=aE a t:=xe
theorem fJ {a:PP}:Trim (cz a):=mI
theorem rm {a b c:PP} (h:∀t,aE c t=aE a t*aE b t) (hc:0<c.1) (tc:Trim c) (ta:Trim a) (tb:Trim b):0<a.1/\0<b.1/\c.1=a.1-1+(b.1-1)+1:=by
 have h0:¬∀t,aE c t=aE (0,fun _=>0) t:=fun h1=>by
  have:=yT tc fun i=>vi h1 i
  dsimp only at this;omega
 have ha:0<a.1:=by
  rcases Nat.eq_zero_or_pos a.1 with h1|h1
  ·exact absurd (fun t=>by rw[h,jl h1,jl (a:=(0,fun _=>(0:Rat))) rfl,Rat.zero_mul]) h0
  ·exact h1
 have hb:0<b.1:=by
  rcases Nat.eq_zero_or_pos b.1 with h1|h1
  ·exact absurd (fun t=>by rw[h,jl h1,jl (a:=(0,fun _=>(0:Rat))) rfl,Rat.mul_zero]) h0
  ·exact h1
 have hcf:∀i,fh c i=fh (bZ a b) i:=vi fun t=>by rw[h,cA]
 refine⟨ha,hb,?_⟩
 have h1:a.1-1+(b.1-1)<c.1:=by
  rcases Nat.lt_or_ge (a.1-1+(b.1-1)) c.1 with h2|h2
  ·exact h2
  ·exact absurd (by rw[<-hcf];unfold fh;rw[if_neg (by omega)]) (OS ha hb ta tb)
 have h2:¬a.1-1+(b.1-1)+1<c.1:=fun h3=>by
  have:=G3 hc tc
  rw[hcf]at this
  refine this ?_
  show(if _<a.1+b.1+1 then kM a.1 b.1 (fh a) (fh b) (c.1-1)else 0)=0
  split
  ·unfold kM
   refine oT fun i hi=>oT fun j hj=>?_
   have z:∀{c:PP} {i:Nat},c.1<=i->fh c i=0:=fun h=>by unfold fh;rw[if_neg (by omega)]
   by_cases h4:i+j=c.1-1
   ·rw[if_pos h4]
    by_cases h5:a.1<=i
    ·rw[z h5,Rat.zero_mul]
    ·rw[z (c:=b) (i:=j) (by omega),Rat.mul_zero]
   ·rw[if_neg h4]
  ·rfl
 omega
theorem Dv.len {h g:PP} (hd:Dv h g) (hg:0<g.1) (tg:Trim g) (th:Trim h):h.1<=g.1:=by
 obtain⟨w,hw⟩:=hd
 have:=rm (b:=cz w) (fun t=>by rw[hw,eI]) hg tg th fJ
 omega
structure j6 (c h f:PP):Prop where
 eq:∀t,aE c t=aE h t*aE f t
 dv:Dv h (bz c)
theorem j6.one:j6 gY gY gY:=⟨fun t=>by rw[jo,Rat.mul_one],⟨bz gY,fun t=>by rw[jo,Rat.one_mul]⟩⟩
theorem j6.HQ {c h f q c':PP} (s:j6 c h f) (e:∀t,aE c' t=aE c t*aE q t):j6 c' h (bZ f q):=
 ⟨fun t=>by rw[e,s.eq,cA,Rat.mul_assoc],Dv.comb (u:=q) (v:=bz q) s.dv ⟨f,s.eq⟩ fun t=>by rw[gN,kV e,gN,gN];grind⟩
theorem j6.Nm {c h f q c':PP} (s:j6 c h f) (e:∀t,aE c' t=aE c t*aE q t*aE q t):j6 c' (bZ h q) (bZ f q):=by
 refine⟨fun t=>by rw[e,s.eq,cA,cA];grind,?_⟩
 obtain⟨w,hw⟩:=s.dv
 refine⟨iB (bZ w q) (gv 2 (bZ f (bz q))),fun t=>?_⟩
 have e1:∀t,aE (bZ c q) t=aE c t*aE q t:=fun t=>cA
 have e2:∀t,aE c' t=aE (bZ c q) t*aE q t:=fun t=>by rw[e,e1]
 have hw':dP c t=aE h t*aE w t:=by rw[<-gN];exact hw t
 rw[gN,kV e2,kV e1,e1,hw',ju,gb,cA,cA,cA,gN,s.eq]
 grind
theorem ahA {c h f:PP} (s:j6 c h f) (hc:0<c.1) (tc:Trim c):(bg c).1<=(cz f).1:=by
 obtain⟨h1,h2,h3⟩:=rm (a:=cz h) (b:=cz f) (fun t=>by rw[s.eq,eI,eI]) hc tc fJ fJ
 have hd:Dv h c:=⟨f,s.eq⟩
 have hg:Dv (cz h) (bN c (bz c)):=by
  have:=wG hd s.dv
  exact this.imp fun w hw t=>by rw[hw,eI]
 have hl:=hg.len (mh hc) (j9 tc eC) fJ
 unfold bg
 rw[if_neg (by omega)]
 show bO _ _<=_
 refine Nat.le_trans fK ?_
 omega
end Go.Am
namespace Go.Am.B
open Go Go.Am.N AV ag au IntKind Proofs.Tryz
def oU (d:Nat):bE:=nG::(57,vp)::(59,BS)::(tu,Iq)::(oP,rX d)::(70,BW)::(72,yI)::(73,r9)::(74,BZ)::iC
abbrev GY:Code:=aK f18
abbrev yJ:Code:=part GY [1,1,1,1,1,1,1,1,1]
abbrev vX:Code:=part yJ [1,1,1,1,1]
abbrev yx:Code:=part vX [0,1,0,0]
abbrev Au:Code:=part yx [1,0,0]
abbrev Fj:List Nat:=[2,3,4,6,7,8,9,10]
abbrev KC (a:PP):List AV:=[.nil,.int .i64 0,aD a,.ptr 0 0 1 0 [],.ptr 3 0 1 0 [],.ptr 1 0 1 0 [],.ptr 4 0 3 0 [],.ptr 5 0 3 0 []]
abbrev J1 (n:Nat) (c:Nat->PP) (l:List (Rat×Rat)):aI:=[(0,wu 2 l.length),(1,uW n c 0 1),(2,oL l),(3,⟨false,false,1,1,fun _=>Ed n c⟩),(4,tR 0 af),(5,tR 1 af)]
abbrev A8:List Nat:=[4,11,50,51,52]
abbrev Qo (l:List (Rat×Rat)) (g:Nat->Nat) (m:Nat):aA:=⟨true,true,7,m,fun j=>.agg [cG l j,.int .i64 (g j)]⟩
abbrev BO (a:PP) (m i:Nat):List AV:=[aD a,.own 1 7 0 i,.own 0 6 0 m,.int .i64 m,.int .i64 i]
abbrev BP (l:List (Rat×Rat)) (g:Nat->Nat) (i:Nat):aI:=[(0,oL l),(1,Qo l g i)]
abbrev sZ:List Nat:=[4,11]
abbrev DY (a:PP) (m:Nat):List AV:=[aD a,.own 0 7 0 m]
abbrev uy (l:List (Rat×Rat)) (g:Nat->Nat) (m:Nat):aI:=[(0,Qo l g m)]
abbrev Bn:List Nat:=[4,11,14,75,76,77]
abbrev HD (a:PP) (n:Nat) (c:Nat->PP) (m i:Nat):List AV:=[aD a,.own 0 7 0 m,eH n c,.own 0 7 0 m,.int .i64 m,.int .i64 i]
abbrev vN (v w:AV):aA:=⟨false,true,1,1,fun j=>if(j==0)=true then v else w⟩
abbrev vM (v w:AV):aA:=⟨false,true,3,1,fun j=>if(j==0)=true then v else w⟩
def gu (a:PP):Nat->PP
 |0=>bN a (bz a)
 |j+1=>bN (gu a j) (bz (gu a j))
def qz (a:PP):Nat->Nat->Nat
 |0,j=>j
 |f+1,j=>if 1<(gu a j).1 then qz a f (j+1)else j
def mC (a:PP) (l:List (Rat×Rat)):Nat->Nat->Nat
 |0,_=>1
 |j+1,i=>if lI (aS (gu a j)) (aQ (gu a j)) (cw l i).1 (cw l i).2=true then mC a l j i+1 else mC a l j i
def mq (d n:Nat) (c:Nat->PP):List (Rat×Rat):=(if b9 (c 0) 0=0 then [(0,0)]else [])++bM n c d 0 1++(if b9 (c 0) 1=0 then [(1,1)]else [])
def ji (d:Nat) (p:PP):List (Rat×Rat):=if(ak p).1=0 then []else mq d (aS (ak p)) (aQ (ak p))
def sS (d:Nat) (p:PP) (i:Nat):Nat:=mC (ak p) (ji d p) (qz (ak p) (ak p).1 0) i
abbrev oF (l:List (Rat×Rat)) (g:Nat->Nat) (j:Nat):AV:=.agg [cG l j,.int .i64 (g j)]
abbrev Ic (d:Nat) (p:PP):AV:=.tuple [.aq 7 (ji d p).length (oF (ji d p) (sS d p)),.int .i64 (if(ak p).1=0 then 3 else 0)]
def Jf (x:PP):Prop:=cU (x.1-1) (cV x.2)/\oB (x,bz x)
def Dr (d:Nat) (p:PP):Prop:=jx p/\((ak p).1≠0->kX (ak p)/\aS (ak p)<2^40/\cj (aS (ak p)) (aQ (ak p)) 0/\cj (aS (ak p)) (aQ (ak p)) 1/\kr (aS (ak p)) (aQ (ak p)) d 0 1/\(ji d p).length<2^30/\Jf (ak p)/\
 ∀j,1<(gu (ak p) j).1->Jf (gu (ak p) j)/\kX (gu (ak p) j)/\aS (gu (ak p) j)<2^40/\∀i,i<(ji d p).length->cj (aS (gu (ak p) j)) (aQ (gu (ak p) j)) (cw (ji d p) i).1/\cj (aS (gu (ak p) j)) (aQ (gu (ak p) j)) (cw (ji d p) i).2)
theorem MN:bu 18 f18:=bC func18
theorem ac4 {d:Nat} {p:PP}:aL T (oU d) [20] 60 Fj (before GY [1,1,1,1,1,1,1,1,1]) ⟨aZ 0 [aD p],[],0⟩=
  some (aj [aR p,jx p] (fork (((ak p).1:Int)==0) (leaf ret ([.nil,.int .i64 3,aD (ak p),.tuple [],.tuple [],.tuple [],.tuple [],.tuple []],[]))
   (aj [aR (ak p),kX (ak p),(0:Nat)<1] (aj [(0:Nat)<1] (aj [(0:Nat)<1] (aj [-2^63<=(0:Int),(0:Int)<2^63,-2^63<=(1:Int),(1:Int)<2^63,(0:Nat)<1,(0:Nat)<1]
    (leaf normal ([.nil,.int .i64 0,aD (ak p),.ptr 49152 0 1 0 [],.ptr 57344 0 1 0 [],.ptr 65536 0 1 0 [],.ptr 86016 0 3 0 [],.ptr 90112 0 3 0 []],
     [(65536,vN (Kf (aS (ak p)) (aQ (ak p)) 49152 65536) .void),(49152,⟨false,true,1,1,fun _=>.nil⟩),(90112,vM (.rat ((1:Int):Rat) (max 1 (ck (Int.natAbs 1)))) (.rat 0 1)),(86016,vM (.rat ((0:Int):Rat) (max 1 (ck (Int.natAbs 0)))) (.rat 0 1)),(57344,⟨false,false,1,1,fun j=>if(j==0)=true then Ed (aS (ak p)) (aQ (ak p))else .void⟩)])))))))):=ah
theorem akl {d n:Nat} {c:Nat->PP} {a:PP} {l:List (Rat×Rat)}:aL T (oU d) [29,41] 60 A8 (before yJ [1,1,1,1,0,1]) ⟨aH Fj (KC a),J1 n c l,6⟩=
  let K:=rat 0 1;let J:=n<2^40;let t:=0<n;let b:=l.length;let C:=2^47;let B:=112+1;let I:PP:=br (aD (c 0));let s:=rat 1 af;let H:=own 73734 7 0 0;let f:=af<=af;let G:=kr n (fun i=>br (aD (c i))) d 0 1;let r:=(↑(120:Nat):Int);let q:=(0:Int)<=0;let m:=[int i64 0];let F:=aC [∀(i:Nat),i<n->bf (aD (c i)) (aD (br (aD (c i))))];let A:=1*6<=2^24;let g:=(2:Int)^47;let P:List (Rat×Rat):=bM n (fun i=>br (aD (c i))) d 0 1;let O:=aq 3 a.fst fun i=>rat (a.snd i) af;let D:=bf (eH n c) (eH n fun i=>br (aD (c i)));let e:=0<1;let h:=b+1;let E:=b9 I 1;let Q:=[e,e,f,∀(i:Nat),i<n->bf (aD (c i)) (aD (br (aD (c i)))),t,cj n (fun i=>br (aD (c i))) 1];let z:=agg [K,K];let M:List (Rat×Rat):=jZ (cG l) b++P;let k:=M.length;let N:aA:=aA.mk true true 7 0 fun x=>agg (z::m);let L:List (Rat×Rat):=jZ (fun i=>if i<b then cG l i else nth [agg [rat 0 af,rat 0 af]] z (i-b+0)) h++P;let w:=(↑k:Int);let j:=L.length;let p:=k+1;let y:=(↑p:Int);let u:=(↑j:Int);let o:=j+1;let v:=(↑o:Int);some (aj [e,e,f,∀(i:Nat),i<n->bf (aD (c i)) (aD (br (aD (c i)))),t,cj n (fun i=>br (aD (c i))) 0] (fork (decide (b9 I 0=0)) (aj [e,e,f,A,h*B*2<=C,e] (aj [e,e,e,aC [f],aC [f],F,D,D,D,h=h,∀(i:Nat),i<h->(if i<b then cG l i else nth [agg [rat 0 af,rat 0 af]] z (i-b+0)).keys=[]/\bf (if i<b then cG l i else nth [agg [rat 0 af,rat 0 af]] z (i-b+0)) (dH (mX (if i<b then cG l i else nth [agg [rat 0 af,rat 0 af]] z (i-b+0))).fst (mX (if i<b then cG l i else nth [agg [rat 0 af,rat 0 af]] z (i-b+0))).snd af),t,J,G,h+P.length<2^30] (aj Q (fork (decide (E=0)) (aj [e,e,f,A,o*B*2<=C,e] (aj [e,q/\(0:Int)<=v/\v<=g/\v*r<=g] (aj [e] (leaf normal (O::own 98310 7 0 0::own 81926 6 0 o::int i64 v::m,[(81926,aA.mk true true 6 o fun i=>if i<j then cG L i else nth [agg [s,s]] z (i-j+0)),((98310:Nat),N)]))))) (aj [e,q/\(0:Int)<=u/\u<=g/\u*r<=g] (aj [e] (leaf normal (O::H::own 49158 6 0 j::int i64 u::m,[(49158,aA.mk true true 6 j fun i=>agg [rat (cw L i).fst af,rat (cw L i).snd af]),((73734:Nat),N)])))))))) (aj [e,e,e,aC [f],aC [f],F,D,D,D,b=b,∀(i:Nat),i<b->(cG l i).keys=[]/\bf (cG l i) (dH (aN (rat (cw l i).fst af)) (aN (rat (cw l i).snd af)) af),t,J,G,b+P.length<2^30] (aj Q (fork (decide (E=0)) (aj [e,e,f,A,p*B*2<=C,e] (aj [e,q/\(0:Int)<=y/\y<=g/\y*r<=g] (aj [e] (leaf normal (O::H::own 57350 6 0 p::int i64 y::m,[(57350,aA.mk true true 6 p fun i=>if i<k then cG M i else nth [agg [s,s]] z (i-k+0)),((73734:Nat),N)]))))) (aj [e,q/\(0:Int)<=w/\w<=g/\w*r<=g] (aj [e] (leaf normal (O::own 49158 7 0 0::own 24582 6 0 k::int i64 w::m,[(24582,aA.mk true true 6 k fun i=>agg [rat (cw M i).fst af,rat (cw M i).snd af]),((49158:Nat),N)]))))))))):=ah
theorem aab {d m i:Nat} {a:PP} {l:List (Rat×Rat)} {g:Nat->Nat}:aL T (oU d) [53] 60 A8 [part yJ [1,1,1,1,0,1,0,0]] ⟨aH A8 (BO a m i),BP l g i,2⟩=
  let p:=rat 0 1;let h:=(↑m:Int);let o:=own 0 6 0 m;let n:=aq 3 a.fst fun i=>rat (a.snd i) af;let b:=(↑i:Int);let k:Nat×aA:=(0,aA.mk true true 6 l.length fun i=>agg [rat (cw l i).fst af,rat (cw l i).snd af]);let f:=b+1;let e:=b.toNat+0;some (fork (decide (b<h)) (aj [(0:Int)<=b/\b.toNat<m,e<l.length,(0:Nat)<1] (aj [(0:Nat)<1,(1:Nat)*7<=2^24,(i+1)*((120:Nat)+1)*2<=2^47] (aj [-(2:Int)^63<=f/\f<2^63] (leaf normal ([n,own 36866 7 0 (i+1),o,int i64 h,int i64 f],[k,(36866,aA.mk true true 7 (i+1) fun i_1=>if i_1<i then agg [cG l i_1,int i64 (↑(g i_1):Int)]else nth [agg [agg [rat (cw l e).fst af,rat (cw l e).snd af],int i64 1]] (agg [agg [p,p],int i64 0]) (i_1-i+0))]))))) (leaf (exit 0) ([n,own 1 7 0 i,o,int i64 h,int i64 b],[k,(1,aA.mk true true 7 i fun j=>agg [agg [rat (cw l j).fst af,rat (cw l j).snd af],int i64 (↑(g j):Int)])]))):=ah
theorem afM {d m i:Nat} {a:PP} {l:List (Rat×Rat)} {g:Nat->Nat}:aL T (oU d) [] 60 sZ (before vX [0,1]) ⟨aH A8 (BO a m i),BP l g i,2⟩=
  let n:Nat×(Nat->Rat):=(a.fst,fun i=>aN (rat (a.snd i) af));let k:=cL (fun i=>rat (a.snd i) af) a.fst af;let b:=bO (cV fun i=>aN (rat (a.snd i) af)) (a.fst-1);let h:Nat×(Nat->Rat):=(b,fun i=>aN (rat (cV (fun i=>aN (rat (a.snd i) af)) i) af));let f:PP×PP:=(n,h);let e:PP:=(bW f b).fst;some (aj [k,a.fst<2^40,cU (a.fst-1) (cV fun i=>aN (rat (a.snd i) af)),k,cL (fun i=>rat (cV (fun i=>aN (rat (a.snd i) af)) i) af) b af,a.fst<2^30,b<2^30,Trim n,Trim h,oB f] (leaf normal ([aq 3 e.fst fun i=>rat (cN e.fst e.snd i) af,own 1 7 0 i],[(1,aA.mk true true 7 i fun j=>agg [agg [rat (cw l j).fst af,rat (cw l j).snd af],int i64 (↑(g j):Int)])]))):=ah
theorem Z1 {d m:Nat} {a:PP} {l:List (Rat×Rat)} {g:Nat->Nat}:aL T (oU d) [68] 60 sZ (before yx [1,0]) ⟨aH sZ (DY a m),uy l g m,1⟩=
  let b:List AV×aI:=([aq 3 a.fst fun i=>rat (a.snd i) af,own 0 7 0 m],[(0,aA.mk true true 7 m fun j=>agg [agg [rat (cw l j).fst af,rat (cw l j).snd af],int i64 (↑(g j):Int)])]);some (fork (decide ((↑a.fst:Int)>1)) (leaf normal b) (leaf (exit 2) b)):=ah
theorem ajm {d m:Nat} {a:PP} {l:List (Rat×Rat)} {g:Nat->Nat}:aL T (oU d) [] 60 Bn (before Au [1,1]) ⟨aH sZ (DY a m),uy l g m,1⟩=
  let e:=own 0 7 0 m;let b:Nat×(Nat->Rat):=(a.fst,fun i=>aN (rat (a.snd i) af));some (aj [cL (fun i=>rat (a.snd i) af) a.fst af,kX b] (leaf normal ([aq 3 a.fst fun i=>rat (a.snd i) af,e,aq 1 (aS b) fun i=>aq 3 (aQ b i).fst fun i_1=>rat ((aQ b i).snd i_1) af,e,int i64 (↑m:Int),int i64 0],[(0,aA.mk true true 7 m fun j=>agg [agg [rat (cw l j).fst af,rat (cw l j).snd af],int i64 (↑(g j):Int)])]))):=ah
theorem XT {d m n i:Nat} {a:PP} {c:Nat->PP} {l:List (Rat×Rat)} {g:Nat->Nat}:aL T (oU d) [78,86] 60 Bn [part Au [1,1,0,0]] ⟨aH Bn (HD a n c m i),uy l g m,1⟩=
  let o:=(↑m:Int);let w:=aq 3 a.fst fun i=>rat (a.snd i) af;let v:=aq 1 n fun i=>aq 3 (c i).fst fun i_1=>rat ((c i).snd i_1) af;let q:=(2:Int)^63;let r:=own 0 7 0 m;let p:=(↑i:Int);let u:Nat×aA:=(0,aA.mk true true 7 m fun j=>agg [agg [rat (cw l j).fst af,rat (cw l j).snd af],int i64 (↑(g j):Int)]);let e:=p+1;let h:=(0:Int)<=p/\p.toNat<m;let b:=p.toNat+0;let k:=(↑(g b):Int)+1;let f:=rat (cw l b).fst af;let s:=rat (cw l b).snd af;let t:=[w,r,v,r,int i64 o,int i64 e];some (fork (decide (p<o)) (aj [h,b<m,∀(i:Nat),i<n->bf (aD (c i)) (aD (br (aD (c i)))),bf f (rat (aN f) af),bf s (rat (aN s) af),(0:Nat)<n,n<2^40,cj n (fun i=>br (aD (c i))) (aN f),cj n (fun i=>br (aD (c i))) (aN s)] (fork (lI n (fun i=>br (aD (c i))) (aN f) (aN s)) (aj [h,b<m,-q<=k/\k<q,h,b<m] (aj [-q<=e/\e<q] (leaf normal (t,[(0,aA.mk true true 7 m fun j=>agg [agg [rat (bif j==b then(cw l b).fst else(cw l j).fst) (bif j==b then af else af),rat (bif j==b then(cw l b).snd else(cw l j).snd) (bif j==b then af else af)],o9 (j==b) (int i64 k) (int i64 (↑(g j):Int))])])))) (aj [-q<=e/\e<q] (leaf normal (t,[u]))))) (leaf (exit 4) ([w,r,v,r,int i64 o,int i64 p],[u]))):=ah
theorem aeD {d m n i:Nat} {a:PP} {c:Nat->PP} {l:List (Rat×Rat)} {g:Nat->Nat}:aL T (oU d) [] 60 sZ (behind Au [1,1]++[part yx [1,1]]) ⟨aH Bn (HD a n c m i),uy l g m,1⟩=
  let o:Nat×(Nat->Rat):=(a.fst,fun i=>aN (rat (a.snd i) af));let k:=cL (fun i=>rat (a.snd i) af) a.fst af;let b:=bO (cV fun i=>aN (rat (a.snd i) af)) (a.fst-1);let h:Nat×(Nat->Rat):=(b,fun i=>aN (rat (cV (fun i=>aN (rat (a.snd i) af)) i) af));let f:PP×PP:=(o,h);let e:PP:=(bW f b).fst;some (aj [k,a.fst<2^40,cU (a.fst-1) (cV fun i=>aN (rat (a.snd i) af)),k,cL (fun i=>rat (cV (fun i=>aN (rat (a.snd i) af)) i) af) b af,a.fst<2^30,b<2^30,Trim o,Trim h,oB f] (leaf normal ([aq 3 e.fst fun i=>rat (cN e.fst e.snd i) af,own 0 7 0 m],[(0,aA.mk true true 7 m fun j=>agg [agg [rat (cw l j).fst af,rat (cw l j).snd af],int i64 (↑(g j):Int)])]))):=ah
theorem VH {d m:Nat} {a:PP} {l:List (Rat×Rat)} {g:Nat->Nat}:dc T (oU d) [] 60 f18 [part vX [1]] ⟨aH sZ (DY a m),uy l g m,1⟩=
  some (leaf ret [aq 7 m fun i=>agg [agg [rat (cw l (i+0)).fst af,rat (cw l (i+0)).snd af],int i64 (↑(g (i+0)):Int)],int i64 0]):=ah
theorem Dk {d:Nat}:bY P (oU d):=gM (aM Fm (aM Gu (aM M6 (aM (Nw d) (aM HA (aM Dw (aM EK (aM Jr iG))))))))
theorem Kv {a:PP} (ta:Trim a) (h:1<a.1):(bN a (bz a)).1<a.1:=by
 have h1:(bz a).1=a.1-1:=qj (.inr (by
  unfold cV
  rw[show a.1-1-1+1=a.1-1 by omega]
  intro h0
  rcases Rat.mul_eq_zero.1 h0 with h0|h0
  ·have h0:((a.1-1:Nat):Int)=0:=Rat.intCast_inj.1 h0
   omega
  ·rcases ta with h2|h2
   ·omega
   ·exact h2 h0))
 have h2:=(nj ta (eC (a:=a))).2.len aa eC (j9 ta eC)
 omega
theorem xX {a:PP} (ta:Trim a):∀j,Trim (gu a j)
 |0=>j9 ta eC
 |j+1=>j9 (xX ta j) eC
theorem C9 {a:PP} (ta:Trim a):(bN a (bz a)).1<=a.1:=xF (s:=(a,bz a)) aX (Nat.le_trans fK (Nat.sub_le _ _)) ta eC _
theorem Jb {a:PP} (ta:Trim a):∀j,(gu a j).1<=a.1
 |0=>C9 ta
 |j+1=>Nat.le_trans (C9 (xX ta j)) (Jb ta j)
theorem Li {a:PP} (ta:Trim a):∀f j,(gu a j).1<=f->(gu a (qz a f j)).1<=1/\(∀i,j<=i->i<qz a f j->1<(gu a i).1)/\j<=qz a f j
 |0,j,h=>⟨by show(gu a j).1<=1;omega,fun i h1 h2=>by have:i<j:=h2;omega,aX⟩
 |f+1,j,h=>by
  unfold qz
  split
  ·rename_i h1
   have:=Kv (xX ta j) h1
   obtain⟨g1,g2,g3⟩:=Li ta f (j+1) (by show(bN _ _).1<=f;omega)
   refine⟨g1,fun i h2 h3=>?_,aa⟩
   rcases Nat.eq_or_lt_of_le h2 with h4|h4
   ·rw[<-h4];exact h1
   ·exact g2 i h4 h3
  ·exact⟨aa,fun i h1 h2=>aa,aX⟩
theorem Qf {a:PP}:∀f j,qz a f j<=j+f
 |0,j=>aX
 |f+1,j=>by
  unfold qz
  split
  ·have:=Qf (a:=a) f (j+1);omega
  ·omega
theorem J8 {a:PP} {l:List (Rat×Rat)} {i:Nat}:∀j,mC a l j i<=j+1
 |0=>aX
 |j+1=>by
  have:=J8 (a:=a) (l:=l) (i:=i) j
  unfold mC;split<;>omega
theorem aaV {k es:Nat} (h:0<es):bf .nil (.own k es 0 0):=by
 refine⟨rfl,fun M w cs hc=>?_⟩
 cases hc with
 |vnil h1=>cases h1;exact .own0 h .nil
def jt (a:PP) (l:List (Rat×Rat)) (k i x:Nat):Nat:=if x<i then mC a l (k+1) x else mC a l k x
abbrev xZ (a:PP) (l:List (Rat×Rat)) (k i:Nat):Bool:=lI (aS (gu a k)) (aQ (gu a k)) (cw l i).1 (cw l i).2
theorem Rm {a:PP} {l:List (Rat×Rat)} {k i:Nat}:mC a l (k+1) i=if xZ a l k i=true then mC a l k i+1 else mC a l k i:=rfl
theorem Ib {a:PP} {l:List (Rat×Rat)} {k i:Nat}:jt a l k i i=mC a l k i:=if_neg aa
theorem Qx {a:PP} {l:List (Rat×Rat)} {k i x:Nat} (h:x≠i):jt a l k (i+1) x=jt a l k i x:=by
 unfold jt
 by_cases h1:x<i
 ·rw[if_pos h1,if_pos aa]
 ·rw[if_neg h1,if_neg aa]
theorem Xx {a:PP} {l:List (Rat×Rat)} {k i:Nat} (h:xZ a l k i=true):jt a l k (i+1) i=jt a l k i i+1:=by
 rw[Ib];unfold jt
 rw[if_pos aa,Rm,if_pos h]
theorem YH {a:PP} {l:List (Rat×Rat)} {k i:Nat} (h:xZ a l k i=false):jt a l k (i+1)=jt a l k i:=by
 funext x
 by_cases hx:x=i
 ·subst hx
  rw[Ib];unfold jt
  rw[if_pos aa,Rm,if_neg (by rw[h];decide)]
 ·exact Qx hx
theorem KD {a:PP} {l:List (Rat×Rat)} {k i c j:Nat} (hc:c=i) (h:xZ a l k i=true):
  AV.agg [.agg [.rat (bif j==c then(cw l c).1 else(cw l j).1) (bif j==c then af else af),.rat (bif j==c then(cw l c).2 else(cw l j).2) (bif j==c then af else af)],o9 (j==c) (.int .i64 ((jt a l k i c:Nat)+1)) (.int .i64 (jt a l k i j:Nat))]=oF l (jt a l k (i+1)) j:=by
 subst hc
 by_cases hj:j=c
 ·subst hj
  rw[beq_self_eq_true]
  show AV.agg [cG l j,.int .i64 ((jt a l k j j:Nat)+1)]=AV.agg [cG l j,.int .i64 (jt a l k (j+1) j:Nat)]
  rw[Xx h];rfl
 ·rw[show(j==c)=false by simp[hj]]
  show AV.agg [cG l j,.int .i64 (jt a l k c j:Nat)]=AV.agg [cG l j,.int .i64 (jt a l k (c+1) j:Nat)]
  rw[Qx hj]
theorem aaN {l:List (Rat×Rat)} {p:Rat×Rat} {z:AV} {i:Nat} (hi:i<l.length+1):keys (if i<l.length then cG l i else nth [dH p.1 p.2 af] z (i-l.length+0))=[]/\
  bf (if i<l.length then cG l i else nth [dH p.1 p.2 af] z (i-l.length+0)) (dH (mX (if i<l.length then cG l i else nth [dH p.1 p.2 af] z (i-l.length+0))).1 (mX (if i<l.length then cG l i else nth [dH p.1 p.2 af] z (i-l.length+0))).2 af):=by
 rw[wS hi];exact⟨rfl,.refl _⟩
theorem C5 {a:PP} {l:List (Rat×Rat)} {g:Nat->Nat} {k0 k1 M:Nat} {row:aA} {z:Nat->AV} (hM:l.length=M) (hrow:row=⟨true,true,6,M,row.f⟩) (hf:∀i,i<l.length->row.f i=cG l i) (hne:k0≠k1):
  en [] ([aD a,.own k1 7 0 0,.own k0 6 0 M,.int .i64 M,.int .i64 0],[(k0,row),(k1,⟨true,true,7,0,z⟩)]) (BO a l.length 0) (BP l g 0) 2:=by
 subst hM
 have e1:look k1 [(k0,row),(k1,(⟨true,true,7,0,z⟩:aA))]=some ⟨true,true,7,0,z⟩:=by simp[look,hne]
 have e0:look k0 [(k0,row),(k1,(⟨true,true,7,0,z⟩:aA))]=some ⟨true,true,6,l.length,row.f⟩:=by rw[<-hrow];simp[look]
 exact⟨[(0,k0),(1,k1)],by simp[jy,hne,Ne.symm hne],rfl,rfl,bF rfl e0 rfl (fun i hi=>bT (by rw[hf i hi];rfl) (hf i hi)) (bF rfl e1 rfl (fun i hi=>absurd hi (Nat.not_lt_zero _)) trivial)⟩
theorem afj {d:Nat} {p:PP} (hz:Dr d p) (K:Nat):aW P 18 K [aD p] [] (aO (Ic d p) []):=by
 have hW:=cP
 obtain⟨z1,z2⟩:=hz
 refine jj (r:=aO (Ic d p) []) hT MN rfl bh rfl (fun _ cx h0=>?_) K []
 have hk:=nr h0
 refine az.Ij hT Dk hm (x:=GY) [1,1,1,1,1,1,1,1,1] ah ah MN.dst hk (f1:=[20]) 60 Fj 6 (fun _:Unit=>KC (ak p)) (fun _=>J1 (aS (ak p)) (aQ (ak p)) []) (fun _=>(ak p).1≠0) ⟨_,ac4 (d:=d),?_⟩ (fun _ hne=>?_)
 ·simp only[ag.all,aC,beq_iff_eq,beq_eq_false_iff_ne,ne_eq]
  refine⟨⟨eO aX,z1⟩,fun h s' hv=>?_,fun h=>?_⟩
  ·have h:(ak p).1=0:=aa
   have e1:ji d p=[]:=if_pos h
   refine nc.fin ⟨[.nil,.int .i64 3],rfl,?_⟩ hv
   show iR [.nil,.int .i64 3] [.aq 7 (ji d p).length (oF (ji d p) (sS d p)),.int .i64 (if(ak p).1=0 then 3 else 0)]
   rw[e1,if_pos h]
   exact⟨mT aa,.refl _,trivial⟩
  ·have h:(ak p).1≠0:=aa
   obtain⟨y1,y2,y3,y4,y5,y6,y7,y8⟩:=z2 h
   refine⟨⟨eO aX,y1,aa⟩,aa,aa,⟨aa,aa,aa,aa,aa,aa⟩,(),h,[(0,49152),(1,65536),(3,57344),(4,86016),(5,90112)],rfl,rfl,rfl,?_⟩
   refine kg rfl rfl (.inr ⟨rfl,aaV aa⟩) (kg rfl rfl (.inl (.inr (EN ⟨⟨rfl,jD rfl (.refl _)⟩,⟨rfl,iY rfl⟩,⟨rfl,iY rfl⟩,⟨rfl,jD rfl (.refl _)⟩,trivial⟩ rfl))) (l6 rfl aa aa (dD (kg rfl rfl (.inr ⟨rfl,dG rfl (by rw[hW];decide)⟩) (kg rfl rfl (.inr ⟨rfl,dG rfl (by rw[hW];decide)⟩) trivial)))))
 ·obtain⟨y1,y2,y3,y4,y5,y6,y7,y8⟩:=z2 hne
  have hsm:0<aS (ak p):=Nat.succ_pos _
  have hl:ji d p=mq d (aS (ak p)) (aQ (ak p)):=if_neg hne
  obtain⟨l,hll⟩:∃l,l=ji d p:=⟨_,rfl⟩
  rw[<-hll]at y6 y8
  have hl2:l=(if b9 (aQ (ak p) 0) 0=0 then [(0,0)]else [])++bM (aS (ak p)) (aQ (ak p)) d 0 1++(if b9 (aQ (ak p) 0) 1=0 then [(1,1)]else []):=by rw[hll,hl];rfl
  refine az.qZ hT Dk hm (x:=yJ) [1,1,1,1,0,1] (i:=0) (y:=part yJ [1,1,1,1,0,1,0,0]) (z:=vX) ah ah ah ah hk (f1:=[29,41]) (f2:=[53]) 60 A8 2 (fun i:Nat=>BO (ak p) l.length i) (fun i=>BP l (fun _=>1) i) (fun i=>i<=l.length) (fun i=>i=l.length) (fun i=>l.length-i) (fun _=>False)
   ⟨_,akl (d:=d),?_⟩ (fun i hi=>⟨_,aab (d:=d),?_⟩) (fun i hi=>?_) fun _ _ h=>h.elim
  ·have hC:(fun i=>br (aD (aQ (ak p) i)))=aQ (ak p):=rfl
   have hC0:br (aD (aQ (ak p) 0))=aQ (ak p) 0:=rfl
   have h00:([]:List (Rat×Rat)).length=0:=rfl
   have e0:jZ (fun i=>if i<([]:List (Rat×Rat)).length then cG [] i else nth [.agg [.rat 0 af,.rat 0 af]] (.agg [.rat 0 1,.rat 0 1]) (i-([]:List (Rat×Rat)).length+0)) (([]:List (Rat×Rat)).length+1)=[(0,0)]:=RM (l:=[]) (p:=(0,0))
   simp only[ag.all,aC,hC,hC0,JK,e0,bI,bR]
   have hm:(bM (aS (ak p)) (aQ (ak p)) d 0 1).length<=l.length:=by rw[hl2];simp only[List.length_append];omega
   refine⟨⟨aa,aa,aX,fun i _=>.refl _,hsm,y3⟩,fun r0=>⟨⟨aa,aa,aX,aa,aa,aa⟩,⟨aa,aa,aa,aX,aX,fun i _=>.refl _,.refl _,.refl _,.refl _,trivial,?_,hsm,y2,y5,?_⟩,⟨aa,aa,aX,fun i _=>.refl _,hsm,y4⟩,?_⟩,fun r0=>⟨⟨aa,aa,aa,aX,aX,fun i _=>.refl _,.refl _,.refl _,.refl _,trivial,fun i hi=>absurd hi (Nat.not_lt_zero _),hsm,y2,y5,?_⟩,⟨aa,aa,aX,fun i _=>.refl _,hsm,y4⟩,?_⟩⟩
   ·exact fun i hi=>aaN (l:=[]) (p:=(0,0)) hi
   ·show 0+1+(bM (aS (ak p)) (aQ (ak p)) d 0 1).length<2^30
    rw[hl2,if_pos r0]at y6;simp only[List.length_append,List.length_cons,List.length_nil]at y6;omega
   ·refine⟨fun r1=>?_,fun r1=>?_⟩
    ·rw[if_pos r0,if_pos r1]at hl2
     have hle:l.length=([(0,0)]++bM (aS (ak p)) (aQ (ak p)) d 0 1).length+1:=by rw[hl2,List.length_append];rfl
     refine⟨⟨aa,aa,aX,aa,aa,aa⟩,⟨aa,aa,aa,aa,aa⟩,aa,0,Nat.zero_le _,C5 hle rfl (fun i hi=>?_) (by decide)⟩
     rw[hle]at hi;rw[hl2];exact wS (p:=(1,1)) hi
    ·rw[if_pos r0,if_neg r1,List.append_nil]at hl2
     have hl3:([(0,0)]++bM (aS (ak p)) (aQ (ak p)) d 0 1).length=l.length:=by rw[<-hl2]
     refine⟨⟨aa,aa,aa,aa,aa⟩,aa,0,Nat.zero_le _,C5 hl3.symm rfl (fun i hi=>by rw[hl2]) (by decide)⟩
   ·show 0+(bM (aS (ak p)) (aQ (ak p)) d 0 1).length<2^30
    omega
   ·refine⟨fun r1=>?_,fun r1=>?_⟩
    ·rw[if_neg r0,if_pos r1]at hl2
     have hle:l.length=([]++bM (aS (ak p)) (aQ (ak p)) d 0 1).length+1:=by rw[hl2,List.length_append];rfl
     refine⟨⟨aa,aa,aX,aa,aa,aa⟩,⟨aa,aa,aa,aa,aa⟩,aa,0,Nat.zero_le _,C5 hle rfl (fun i hi=>?_) (by decide)⟩
     rw[hle]at hi;rw[hl2];exact wS (p:=(1,1)) hi
    ·rw[if_neg r0,if_neg r1,List.append_nil]at hl2
     have hl3:([]++bM (aS (ak p)) (aQ (ak p)) d 0 1).length=l.length:=by rw[<-hl2]
     refine⟨⟨aa,aa,aa,aa,aa⟩,aa,0,Nat.zero_le _,C5 hl3.symm rfl (fun i hi=>by rw[hl2]) (by decide)⟩
  ·have hiA:((i:Int)).toNat+0=i:=aa
   simp only[ag.all,aC,bI,bR]
   refine⟨fun h=>⟨⟨aa,aa,aa⟩,⟨aa,aa,aa⟩,aa,i+1,aa,by dsimp only;omega,[(0,0),(1,36866)],rfl,by rw[show(i:Int)+1=((i+1:Nat):Int) by omega];rfl,rfl,oM (bF rfl rfl rfl (fun x hx=>?_) trivial)⟩,
    fun h=>⟨rfl,i,aa,[(0,0),(1,1)],rfl,rfl,rfl,oM (bF rfl rfl rfl (fun x hx=>bT rfl rfl) trivial)⟩⟩
   rw[hiA]
   by_cases hx2:x<i
   ·rw[if_pos hx2];exact bT rfl rfl
   ·rw[if_neg hx2,NI aa,show x=i by omega];exact bT rfl rfl
  ·subst hi
   have ta:Trim (ak p):=mI
   obtain⟨J,hJ⟩:∃J,J=qz (ak p) (ak p).1 0:=⟨_,rfl⟩
   have hl0:(gu (ak p) 0).1<=(ak p).1:=Jb ta 0
   obtain⟨j1,j2,_⟩:=Li ta (ak p).1 0 hl0
   rw[<-hJ]at j1 j2
   have hp41:(ak p).1<=41:=Nat.le_trans fK z1.2.1
   have hd:∀{x:PP},x.1<=41->(bz x).1<2^30:=fun h=>Nat.lt_of_le_of_lt fK aa
   refine az.rI hT Dk hm (x:=vX) [0,1] (i:=2) (y:=yx) (z:=part vX [1]) ah ah ah ah [1,0] (j:=3) (x1:=Au) (zb:=part yx [1,1]) ah ah ah [1,1] (i2:=4) (y2:=part Au [1,1,0,0]) ah ah rfl hk
    (f1:=[]) (f2:=[68]) (f3:=[]) (f4:=[78,86]) (f5:=[]) 60 sZ Bn 1 1 (fun k:Nat=>DY (gu (ak p) k) l.length) (fun k=>uy l (mC (ak p) l k) l.length) (fun k=>k<=J) (fun k=>k=J) (fun k=>J-k) (fun k=>k<J) (fun _=>False) (fun _=>False)
    (fun k (i:Nat)=>HD (gu (ak p) k) (aS (gu (ak p) k)) (aQ (gu (ak p) k)) l.length i) (fun k i=>uy l (jt (ak p) l k i) l.length) (fun _ i=>i<=l.length) (fun _ i=>i=l.length) (fun _ i=>l.length-i)
    ⟨_,afM (d:=d),?_⟩ (fun k hk=>⟨_,Z1 (d:=d),?_⟩) (fun k hk hG=>⟨_,ajm (d:=d),?_⟩) (fun k hk hG i hi=>⟨_,XT (d:=d),?_⟩) (fun k hk hG i hi=>⟨_,aeD (d:=d),?_⟩) (fun k hk=>?_) (fun _ _ h=>h.elim) (fun _ _ h=>h.elim)
   ·simp only[ag.all,aC]
    refine⟨⟨eO aX,by show(ak p).1<_;omega,y7.1,eO aX,eO aX,by show(ak p).1<_;omega,hd hp41,ta,eC,y7.2⟩,0,Nat.zero_le _,[(0,1)],rfl,rfl,rfl,oM trivial⟩
   ·simp only[ag.all,aC,bI,bR]
    refine⟨fun h=>⟨?_,[(0,0)],rfl,rfl,rfl,oM trivial⟩,fun h=>⟨rfl,k,?_,[(0,0)],rfl,rfl,rfl,oM trivial⟩⟩
    ·rcases Nat.lt_or_ge k J with h2|h2
     ·exact h2
     ·have:k=J:=aa
      subst this;omega
    ·rcases Nat.lt_or_ge k J with h2|h2
     ·have:=j2 k (Nat.zero_le _) h2
      omega
     ·omega
   ·obtain⟨x1,x2,x3,x4⟩:=y8 k (j2 k (Nat.zero_le _) hG)
    simp only[ag.all,aC]
    exact⟨⟨eO aX,x2⟩,0,Nat.zero_le _,[(0,0)],rfl,rfl,rfl,oM trivial⟩
   ·obtain⟨x1,x2,x3,x4⟩:=y8 k (j2 k (Nat.zero_le _) hG)
    have hJ2:J<=(ak p).1:=by rw[hJ];have:=Qf (a:=ak p) (ak p).1 0;omega
    have hsk:0<aS (gu (ak p) k):=Nat.succ_pos _
    have hb:jt (ak p) l k i i<=42:=by rw[Ib];have:=J8 (a:=ak p) (l:=l) (i:=i) k;omega
    simp only[ag.all,aC,bI,bR,bS,Nat.add_zero]
    refine⟨fun h=>⟨⟨aa,aa,fun i _=>.refl _,.refl _,.refl _,hsk,x3,(x4 i aa).1,(x4 i aa).2⟩,fun h2=>⟨⟨aa,aa,aa,aa,aa⟩,aa,i+1,aa,by dsimp only;omega,[(0,0)],rfl,by rw[show(i:Int)+1=((i+1:Nat):Int) by omega];rfl,rfl,bF rfl rfl rfl (fun x hx=>?_) trivial⟩,
      fun h2=>⟨aa,i+1,aa,by dsimp only;omega,[(0,0)],rfl,by rw[show(i:Int)+1=((i+1:Nat):Int) by omega];rfl,rfl,bF rfl rfl rfl (fun x hx=>?_) trivial⟩⟩,
     fun h=>⟨rfl,i,aa,[(0,0)],rfl,rfl,rfl,oM trivial⟩⟩
    ·have h2:xZ (ak p) l k i=true:=h2
     exact bT (by rw[KD rfl h2];rfl) (KD rfl h2)
    ·have h2:xZ (ak p) l k i=false:=h2
     exact bT rfl (by show oF l (jt (ak p) l k i) x=_;rw[YH h2])
   ·obtain⟨x1,x2,x3,x4⟩:=y8 k (j2 k (Nat.zero_le _) hG)
    have hg41:(gu (ak p) k).1<=41:=Nat.le_trans (Jb ta k) hp41
    simp only[ag.all,aC]
    refine⟨⟨eO aX,by show(gu (ak p) k).1<_;omega,x1.1,eO aX,eO aX,by show(gu (ak p) k).1<_;omega,hd hg41,xX ta k,eC,x1.2⟩,k+1,hG,by dsimp only;omega,[(0,0)],rfl,rfl,rfl,bF rfl rfl rfl (fun x hx=>bT rfl ?_) trivial⟩
    show AV.agg [cG l x,.int .i64 (jt (ak p) l k i x:Nat)]=.agg [cG l x,.int .i64 (mC (ak p) l (k+1) x:Nat)]
    unfold jt
    rw[if_pos (show x<i by omega)]
   ·subst hk
    refine az.nR ((aJ.fin hT Dk hm 60 (VH (d:=d)) ah ?_).mono fun _ _ h=>.inl h)
    show iR [.aq 7 l.length _,.int .i64 0] [.aq 7 (ji d p).length (oF (ji d p) (sS d p)),.int .i64 (if(ak p).1=0 then 3 else 0)]
    refine⟨wN (by rw[hll]) fun i hi=>?_,cE (if_neg hne).symm,trivial⟩
    have ht:sS d p i=mC (ak p) l k i:=by unfold sS;rw[<-hll,<-hJ]
    show _=AV.agg [cG (ji d p) i,.int .i64 (sS d p i:Nat)]
    rw[ht,<-hll];rfl
def PA (d:Nat):Spec:=ef (kC (kL af) kN) (fun a=>Ic d a.1) fun a=>[Dr d a.1]
theorem aat (d:Nat):bp P (PA d) 18:=dy fun⟨a,_⟩ K hn=>afj hn K
def fS (k:Nat->Rat) (j:Nat):Nat->Int
 |0=>-1
 |l+1=>if k (j+l)=k (j+l+1)then fS k j l else(j+l:Nat)
theorem Oi {k:Nat->Rat} {j:Nat}:∀{l:Nat},k j≠k (j+l)->∃P:Nat,fS k j l=(P:Int)/\j<=P/\P<j+l/\k P≠k (P+1)
 |0,h=>absurd rfl h
 |l+1,h=>by
  unfold fS
  by_cases he:k (j+l)=k (j+l+1)
  ·rw[if_pos he]
   obtain⟨P,h1,h2,h3,h4⟩:=Oi (k:=k) (j:=j) (l:=l) (by rw[he];exact h)
   exact⟨P,h1,h2,by omega,h4⟩
  ·rw[if_neg he]
   exact⟨j+l,rfl,by omega,by omega,he⟩
theorem Kn.piece {n p:Nat} {k:Nat->Rat} (h:Kn n p k) {j:Nat} (hj:j+p+1<n):∃P:Nat,fS k j (p+1)=(P:Int)/\j<=P/\P<=j+p/\k P<k (P+1)/\p<=P/\P+p+1<n:=by
 have hp:=h.p1
 have hne:k j≠k (j+(p+1)):=by
  have hlt:k j<k (j+(p+1)):=by
   by_cases h0:j=0
   ·subst h0
    have hl:=h.len
    have a1:=h.mult 1 (by omega) (by omega)
    rw[h.first 1 (by omega),show 1+p=0+(p+1) by omega]at a1
    exact a1
   ·have a1:=h.mult j (by omega) (by omega)
    have a2:=h.mono (show j+p<=j+(p+1) by omega) (by omega)
    grind
  grind
 obtain⟨P,h1,h2,h3,h4⟩:=Oi hne
 have hs:=h.sorted P (by omega)
 refine⟨P,h1,h2,by omega,by grind,?_,?_⟩
 ·rcases Nat.lt_or_ge P p with hh|hh
  ·exact absurd (by rw[h.first P (by omega),h.first (P+1) (by omega)]) h4
  ·exact hh
 ·rcases Nat.lt_or_ge (P+p+1) n with hh|hh
  ·exact hh
  ·exact absurd (by rw[h.last P (by omega) (by omega),h.last (P+1) (by omega) (by omega)]) h4
open Go
theorem Nx {x:Int} {n:Nat} (h:x.natAbs<2^n) (hn:1<=n):Sz (x:Rat) n:=
 ⟨by rw[Rat.num_intCast];exact h,by rw[Rat.den_intCast];exact Nat.lt_of_lt_of_le (show 1<2^1 by decide) (Nat.pow_le_pow_right (by decide) hn)⟩
end Go.Am.B
namespace Go.Am
open Go
def ct (D:Int) (s:Nat) (x:Rat):Prop:=∃z:Int,(z:Rat)=x*(D:Rat)/\z.natAbs<=2^s
theorem qe {D:Int} (h:D≠0):(D:Rat)≠0:=fun h0=>by
 have h0:(D:Rat)=((0:Int):Rat):=h0
 exact h (Rat.intCast_inj.1 h0)
theorem ct.more {D:Int} {s t:Nat} {x:Rat} (h:ct D s x) (ht:s<=t):ct D t x:=h.imp fun z hz=>⟨hz.1,Nat.le_trans hz.2 (Nat.pow_le_pow_right (by decide) ht)⟩
theorem ct.sz {D:Int} {s e:Nat} {x:Rat} (hD:D≠0) (hd:D.natAbs<=2^e) (h:ct D s x):Sz x (s+e+2):=by
 obtain⟨z,hz,b⟩:=h
 have hx:x=(z:Rat)/(D:Rat):=by rw[hz,Rat.div_def,Rat.mul_assoc,Rat.mul_inv_cancel _ (qe hD),Rat.mul_one]
 rw[hx]
 have s1:Sz (z:Rat) (s+1):=B.Nx (Nat.lt_of_le_of_lt b (Nat.pow_lt_pow_right (by decide) aa)) aa
 have s2:Sz (D:Rat) (e+1):=B.Nx (Nat.lt_of_le_of_lt hd (Nat.pow_lt_pow_right (by decide) aa)) aa
 exact(s1.div s2).more aa
theorem ct.zero {D:Int} {s:Nat}:ct D s 0:=⟨0,by rw[Rat.zero_mul];rfl,Nat.zero_le _⟩
theorem ct.int {z:Int} {s:Nat} (h:z.natAbs<=2^s):ct 1 s (z:Rat):=⟨z,by rw[show((1:Int):Rat)=1 from rfl,Rat.mul_one],h⟩
theorem ct.mul {D E:Int} {s t:Nat} {x y:Rat} (h:ct D s x) (h':ct E t y):ct (D*E) (s+t) (x*y):=by
 obtain⟨z,hz,b⟩:=h
 obtain⟨w,hw,c⟩:=h'
 refine⟨z*w,by rw[Rat.intCast_mul,hz,hw,Rat.intCast_mul];grind,?_⟩
 rw[Int.natAbs_mul,Nat.pow_add];exact Nat.mul_le_mul b c
theorem ct.add {D:Int} {s:Nat} {x y:Rat} (h:ct D s x) (h':ct D s y):ct D (s+1) (x+y):=by
 obtain⟨z,hz,b⟩:=h
 obtain⟨w,hw,c⟩:=h'
 refine⟨z+w,by rw[Rat.intCast_add,hz,hw];grind,?_⟩
 have:=Int.natAbs_add_le z w
 rw[Nat.pow_succ];omega
theorem ct.up {D E:Int} {s e:Nat} {x:Rat} (h:ct D s x) (hE:E.natAbs<=2^e):ct (D*E) (s+e) x:=by
 obtain⟨z,hz,b⟩:=h
 refine⟨z*E,by rw[Rat.intCast_mul,hz,Rat.intCast_mul];grind,?_⟩
 rw[Int.natAbs_mul,Nat.pow_add];exact Nat.mul_le_mul b hE
theorem ct.zM {D:Int} {s e:Nat} {x:Rat} (h:ct D s x) {n:Int} (hn:n.natAbs<=2^e):ct D (e+s) ((n:Rat)*x):=by
 obtain⟨z,hz,b⟩:=h
 refine⟨n*z,by rw[Rat.intCast_mul,hz];grind,?_⟩
 rw[Int.natAbs_mul,Nat.pow_add];exact Nat.mul_le_mul hn b
theorem A2 {w:Int} {t:Nat} (h:w.natAbs<=2^t) (j:Nat):(w^j).natAbs<=2^(j*t):=by
 rw[Int.natAbs_pow,Nat.mul_comm,Nat.pow_mul];exact Nat.pow_le_pow_left h j
theorem nU {v w:Int} {s t:Nat} (h:v.natAbs<=2^s) (h':w.natAbs<=2^t):(v*w).natAbs<=2^(s+t):=by
 rw[Int.natAbs_mul,Nat.pow_add];exact Nat.mul_le_mul h h'
def dF (n:Nat) (k:Nat->Rat) (s:Nat):Prop:=∃D:Int,D≠0/\D.natAbs<=2^s/\∀i,i<n->ct D s (k i)
def Bd (a:PP) (s:Nat):Prop:=dF a.1 a.2 s
theorem dF.sz {n s:Nat} {k:Nat->Rat} (h:dF n k s) {i:Nat} (hi:i<n):Sz (k i) (2*s+2):=by
 obtain⟨D,h1,h2,h3⟩:=h
 exact((h3 i hi).sz h1 h2).more aa
theorem dF.more {n s t:Nat} {k:Nat->Rat} (h:dF n k s) (ht:s<=t):dF n k t:=by
 obtain⟨D,h1,h2,h3⟩:=h
 exact⟨D,h1,Nat.le_trans h2 (Nat.pow_le_pow_right (by decide) ht),fun i hi=>(h3 i hi).more ht⟩
theorem dF.short {n m s:Nat} {k:Nat->Rat} (h:dF n k s) (hm:m<=n):dF m k s:=by
 obtain⟨D,h1,h2,h3⟩:=h
 exact⟨D,h1,h2,fun i hi=>h3 i aa⟩
theorem dF.congr {n s:Nat} {k l:Nat->Rat} (h:dF n k s) (e:∀i,i<n->k i=l i):dF n l s:=by
 obtain⟨D,h1,h2,h3⟩:=h
 exact⟨D,h1,h2,fun i hi=>by rw[<-e i hi];exact h3 i hi⟩
theorem Bd.D3 {a b:PP} {s:Nat} (h:Bd a s) (e:gO a b):Bd b s:=by
 show dF b.1 b.2 s
 rw[<-e.1];exact dF.congr h e.2
theorem TG {n e s t:Nat} {d a:Nat->Rat} (ha:dF n a s) (hd:dF (e+1) d t) (h0:d e≠0):
  ∃D w:Int,D≠0/\w≠0/\D.natAbs<=2^s/\w.natAbs<=2^t/\(∀j,j<=n-e->∀i,i<n->ct (D*w^j) (s+j*(t+1)) (cC e d a (n-e) j i))/\∀k,k<n-e->ct (D*w^(n-e)) (s+(n-e)*(t+1)) (ej e d a (n-e) k):=by
 obtain⟨D,d1,d2,d3⟩:=ha
 obtain⟨E,e1,e2,e3⟩:=hd
 obtain⟨w,w1,w2⟩:=e3 e aa
 have hw:w≠0:=fun h=>by
  rw[h]at w1
  have w1:(0:Rat)=d e*(E:Rat):=w1
  exact(Rat.mul_eq_zero.1 w1.symm).elim h0 (qe e1)
 have key:∀j,j<=n-e->∀i,i<n->ct (D*w^j) (s+j*(t+1)) (cC e d a (n-e) j i):=by
  intro j
  induction j with
  |zero=>exact fun _ i hi=>by rw[Int.pow_zero,Int.mul_one,Nat.zero_mul];exact d3 i hi
  |succ j ih=>
   intro hj i hi
   have ih:=ih aa
   show ct _ _ (g8 e d (n-e-1-j) (cC e d a (n-e) j) i)
   have hs:s+(j+1)*(t+1)=s+j*(t+1)+t+1:=by rw[Nat.add_mul];omega
   have hD:D*w^(j+1)=D*w^j*w:=by rw[Int.pow_succ,Int.mul_assoc]
   rw[hs,hD]
   unfold g8
   by_cases h:n-e-1-j<=i/\i<n-e-1-j+e+1
   ·rw[if_pos h]
    obtain⟨z,z1,z2⟩:=ih i hi
    obtain⟨y,y1,y2⟩:=ih (n-e-1-j+e) aa
    obtain⟨m,m1,m2⟩:=e3 (i-(n-e-1-j)) aa
    refine⟨z*w-y*m,?_,?_⟩
    ·rw[Rat.intCast_sub,Rat.intCast_mul,Rat.intCast_mul,Rat.intCast_mul,z1,m1]
     generalize ((D*w^j:Int):Rat)=Q at*
     rw[y1,w1,Rat.div_def]
     have:d e*(d e)⁻¹=1:=Rat.mul_inv_cancel _ h0
     generalize (d e)⁻¹=v at*
     generalize d (i-(n-e-1-j))=u
     generalize cC e d a (n-e) j i=x
     generalize cC e d a (n-e) j (n-e-1-j+e)=r
     generalize d e=g at*
     have h3:r*v*u*(Q*(g*(E:Rat)))=r*u*Q*(E:Rat)*(g*v):=by grind
     rw[Rat.sub_eq_add_neg,Rat.sub_eq_add_neg,Rat.add_mul,Rat.neg_mul,h3,this];grind
    ·have b1:=nU z2 w2
     have b2:=nU y2 m2
     have:=Int.natAbs_sub_le (z*w) (y*m)
     rw[Nat.pow_succ];omega
   ·rw[if_neg h]
    exact((ih i hi).up w2).more aa
 refine⟨D,w,d1,hw,d2,w2,key,fun k hk=>?_⟩
 -- the quotient
 obtain⟨z,z1,z2⟩:=key (n-e-1-k) aa (k+e) aa
 have h1:ct (D*w^(n-e-1-k)*w) (s+(n-e-1-k)*(t+1)+t) (ej e d a (n-e) k):=by
  refine⟨z*E,?_,nU z2 e2⟩
  unfold ej
  rw[Rat.intCast_mul,Rat.intCast_mul (D*w^(n-e-1-k)),z1,w1,Rat.div_def]
  have:d e*(d e)⁻¹=1:=Rat.mul_inv_cancel _ h0
  generalize (d e)⁻¹=v at*
  generalize cC e d a (n-e) (n-e-1-k) (k+e)=r
  generalize d e=g at*
  generalize ((D*w^(n-e-1-k):Int):Rat)=Q
  have h3:r*v*(Q*(g*(E:Rat)))=r*Q*(E:Rat)*(g*v):=by grind
  rw[h3,this,Rat.mul_one]
 have h2:=h1.up (A2 w2 k)
 rw[show D*w^(n-e-1-k)*w*w^k=D*w^(n-e) by rw[Int.mul_assoc,Int.mul_assoc,<-Int.pow_succ',<-Int.pow_add,show n-e-1-k+(k+1)=n-e by omega]]at h2
 refine h2.more ?_
 have:(n-e)*(t+1)=(n-e-1-k)*(t+1)+(k+1)*(t+1):=by rw[<-Nat.add_mul,show n-e-1-k+(k+1)=n-e by omega]
 rw[this,Nat.add_mul k 1,Nat.mul_add k t 1];omega
theorem Bd.rem {a d:PP} {s t:Nat} (ha:Bd a s) (hd:Bd d t) (h0:0<d.1) (td:Trim d):Bd (dj a d) (s+(a.1-(d.1-1))*(t+1))/\Bd (fE a d) (s+(a.1-(d.1-1))*(t+1))/\(∀j,j<=a.1-(d.1-1)->∀i,i<a.1->Sz (cC (d.1-1) d.2 a.2 (a.1-(d.1-1)) j i) (2*(s+(a.1-(d.1-1))*(t+1))+2))/\∀k,k<a.1-(d.1-1)->Sz (ej (d.1-1) d.2 a.2 (a.1-(d.1-1)) k) (2*(s+(a.1-(d.1-1))*(t+1))+2):=by
 have hd':dF (d.1-1+1) d.2 t:=by rw[show d.1-1+1=d.1 by omega];exact hd
 obtain⟨D,w,d1,w1,d2,w2,h1,h2⟩:=TG ha hd' (td.resolve_left aa)
 obtain⟨R,hR⟩:∃R,R=a.1-(d.1-1):=⟨_,rfl⟩
 unfold dj fE
 rw[<-hR]at h1 h2 ⊢
 have hne:∀j,D*w^j≠0:=fun j=>Int.mul_ne_zero d1 (Int.pow_ne_zero w1)
 have hjR:∀{j},j<=R->j*(t+1)<=R*(t+1):=fun h=>Nat.mul_le_mul_right _ h
 have hab:∀j,j<=R->(D*w^j).natAbs<=2^(s+R*(t+1)):=fun j hj=>Nat.le_trans (nU d2 (A2 w2 j)) (Nat.pow_le_pow_right (by decide) (by have:=hjR hj;have:=Nat.mul_le_mul_left j (show t<=t+1 by omega);omega))
 refine⟨⟨D*w^R,hne R,hab R aX,fun i hi=>h1 R aX i (Nat.lt_of_lt_of_le hi fK)⟩,⟨D*w^R,hne R,hab R aX,fun k hk=>h2 k (Nat.lt_of_lt_of_le hk fK)⟩,fun j hj i hi=>?_,fun k hk=>?_⟩
 ·exact((h1 j hj i hi).sz (hne j) (hab j hj)).more (by have:=hjR hj;omega)
 ·exact((h2 k hk).sz (hne R) (hab R aX)).more aa
theorem Bd.cN {a:PP} {s:Nat} (h:Bd a s) (ta:Trim a):Bd (dM a) s:=by
 obtain⟨D,h1,h2,h3⟩:=h
 rcases Nat.eq_zero_or_pos a.1 with h0|h0
 ·exact⟨1,by decide,Nat.one_le_two_pow,fun i hi=>absurd hi (by show¬i<a.1;omega)⟩
 have ht:a.2 (a.1-1)≠0:=ta.resolve_left aa
 obtain⟨w,w1,w2⟩:=h3 (a.1-1) aa
 have hw:w≠0:=fun h=>by
  rw[h]at w1
  have w1:(0:Rat)=a.2 (a.1-1)*(D:Rat):=w1
  exact(Rat.mul_eq_zero.1 w1.symm).elim ht (qe h1)
 refine⟨w,hw,w2,fun i hi=>?_⟩
 obtain⟨z,z1,z2⟩:=h3 i hi
 refine⟨z,?_,z2⟩
 show _=Go.Am.cN a.1 a.2 i*_
 unfold Go.Am.cN
 rw[z1,w1,Rat.div_def]
 have:a.2 (a.1-1)*(a.2 (a.1-1))⁻¹=1:=Rat.mul_inv_cancel _ ht
 generalize (a.2 (a.1-1))⁻¹=v at*
 generalize a.2 (a.1-1)=g at*
 have h4:a.2 i*v*(g*(D:Rat))=a.2 i*(D:Rat)*(g*v):=by grind
 rw[h4,this,Rat.mul_one]
theorem Ak {n s:Nat} {k:Nat->Rat} (h:dF n k s) (hn:n<=41):dF (n-1) (cV k) (s+6):=by
 obtain⟨D,h1,h2,h3⟩:=h
 refine⟨D,h1,Nat.le_trans h2 (Nat.pow_le_pow_right (by decide) aa),fun i hi=>?_⟩
 unfold cV
 exact((h3 (i+1) aa).zM (e:=6) aa).more aa
theorem Bd.cV {a:PP} {s:Nat} (h:Bd a s) (ha:a.1<=41):Bd (bz a) (s+6):=(Ak h ha).short fK
theorem Bd.neg {a:PP} {s:Nat} (h:Bd a s):Bd (a.1,fun i=>((-1:Int):Rat)*a.2 i) s:=by
 obtain⟨D,h1,h2,h3⟩:=h
 exact⟨D,h1,h2,fun i hi=>((h3 i hi).zM (e:=0) (n:=-1) (by decide)).more aa⟩
theorem EZ {n s τ:Nat} {k:Nat->Rat} {D T:Int} {t:Rat} (h:∀i,i<n->ct D s (k i)) (ht:ct T τ t) (hT:T.natAbs<=2^τ):∀m,m<=n->ct (D*T^m) (s+m*(τ+1)) (gi n k t m)
 |0,_=>ct.zero
 |m+1,hm=>by
  have ih:=EZ h ht hT m aa
  have e1:=ih.mul ht
  have e2:=(h (n-1-m) aa).up (A2 hT (m+1))
  have hD:D*T^m*T=D*T^(m+1):=by rw[Int.pow_succ,Int.mul_assoc]
  rw[hD]at e1
  have hs:s+(m+1)*(τ+1)=s+m*(τ+1)+τ+1:=by rw[Nat.add_mul];omega
  rw[hs]
  refine(e1.more aX).add (e2.more ?_)
  rw[Nat.add_mul,Nat.one_mul]
  have:=Nat.mul_le_mul_left m (show τ<=τ+1 by omega)
  omega
theorem HV:∀δ:Nat,1<=δ->δ+2<=3^δ
 |1,_=>by decide
 |δ+2,_=>by
  have:=HV (δ+1) aa
  rw[Nat.pow_succ];omega
theorem BK (n:Nat):0<3^n:=Nat.pow_pos (by decide)
theorem s7 {m n:Nat} (h:m<=n):3^m<=3^n:=Nat.pow_le_pow_right (by decide) h
theorem Bd.more {a:PP} {s t:Nat} (h:Bd a s) (ht:s<=t):Bd a t:=dF.more h ht
theorem Mv {B W M l l':Nat} (hB:B+1<=W*3^(M-l)) (hl:l'<l) (hM:l<=M):B+(l-(l'-1))*(B+1)+1<=W*3^(M-l')\/l'=0:=by
 rcases Nat.eq_zero_or_pos l' with h|h
 ·exact .inr h
 left
 have h1:l-(l'-1)=l-l'+1:=aa
 have h2:=HV (l-l') aa
 have h3:M-l'=M-l+(l-l'):=aa
 rw[h1,h3,Nat.pow_add,<-Nat.mul_assoc]
 have h4:(B+1)*(l-l'+2)<=W*3^(M-l)*3^(l-l'):=Nat.mul_le_mul hB h2
 have h5:(B+1)*(l-l'+2)=B+(l-l'+1)*(B+1)+1:=by
  rw[Nat.mul_comm,show l-l'+2=l-l'+1+1 by omega,Nat.add_mul (l-l'+1)];omega
 omega
theorem ajH {u M l l':Nat} (hl:l<=M) (hl':l'<=M) (h0:0<l'):u+(l-(l'-1))*(u+1)+1<=2*(u+1)*3^(M-l'):=by
 have h1:(l-(l'-1))<=l-l'+1:=aa
 have h2:l-l'+2<=2*3^(l-l'):=by
  rcases Nat.eq_zero_or_pos (l-l')with h|h
  ·rw[h];decide
  ·have:=HV (l-l') h
   have:=BK (l-l');omega
 have h3:3^(l-l')<=3^(M-l'):=s7 aa
 have h4:(u+1)*(l-l'+2)<=(u+1)*(2*3^(M-l')):=Nat.mul_le_mul_left _ aa
 have h5:(u+1)*(l-l'+2)=u+(l-l'+1)*(u+1)+1:=by
  rw[Nat.mul_comm,show l-l'+2=l-l'+1+1 by omega,Nat.add_mul (l-l'+1)];omega
 have h6:(l-(l'-1))*(u+1)<=(l-l'+1)*(u+1):=Nat.mul_le_mul_right _ h1
 have h7:(u+1)*(2*3^(M-l'))=2*(u+1)*3^(M-l'):=by rw[<-Nat.mul_assoc,Nat.mul_comm (u+1) 2]
 omega
theorem Ey {a b:PP} {u M:Nat} (ta:Trim a) (tb:Trim b) (la:a.1<=M) (lb:b.1<=M) (ha:Bd a u) (hb:Bd b u):∀j,∃B,B+1<=2*(u+1)*3^(M-(bW (a,b) j).1.1)/\Bd (bW (a,b) j).1 B/\Bd (bW (a,b) j).2 B/\(bW (a,b) j).1.1<=M/\(bW (a,b) j).2.1<=M/\((bW (a,b) j).2.1<(bW (a,b) j).1.1\/j=0/\B=u\/(bW (a,b) j).2.1=0)
 |0=>by
  have:=BK (M-a.1)
  refine⟨u,?_,ha,hb,la,lb,.inr (.inl ⟨rfl,rfl⟩)⟩
  show u+1<=2*(u+1)*3^(M-a.1)
  have:=Nat.mul_le_mul_left (2*(u+1)) this
  omega
 |j+1=>by
  obtain⟨B,h1,h2,h3,h4,h5,h6⟩:=Ey ta tb la lb ha hb j
  have ht:=lC (s:=(a,b)) ta tb j
  show∃B,B+1<=2*(u+1)*3^(M-(fZ (bW (a,b) j)).1.1)/\Bd (fZ (bW (a,b) j)).1 B/\Bd (fZ (bW (a,b) j)).2 B/\(fZ (bW (a,b) j)).1.1<=M/\(fZ (bW (a,b) j)).2.1<=M/\((fZ (bW (a,b) j)).2.1<(fZ (bW (a,b) j)).1.1\/j+1=0/\B=u\/(fZ (bW (a,b) j)).2.1=0)
  generalize bW (a,b) j=s at*
  unfold fZ
  by_cases h0:s.2.1=0
  ·rw[if_pos h0];exact⟨B,h1,h2,h3,h4,h5,.inr (.inr h0)⟩
  ·rw[if_neg h0]
   have hr:=oA (a:=s.1) (d:=s.2) aa ht.2
   have hb:=(Bd.rem h2 h3 aa ht.2).1.cN qI
   refine⟨B+(s.1.1-(s.2.1-1))*(B+1),?_,h3.more (Nat.le_add_right _ _),hb,h5,?_,.inl hr⟩
   ·rcases h6 with h6|⟨_,rfl⟩|h6
    ·exact(Mv h1 h6 h4).resolve_right h0
    ·exact ajH h4 h5 aa
    ·exact absurd h6 h0
   ·show(dj s.1 s.2).1<=M;omega
theorem KU {a b:PP} {u M:Nat} (ta:Trim a) (tb:Trim b) (la:a.1<=M) (lb:b.1<=M) (ha:Bd a u) (hb:Bd b u):∃B,B+1<=2*(u+1)*3^(M-(bN a b).1)/\Bd (bN a b) B:=by
 obtain⟨B,h1,h2,_⟩:=Ey ta tb la lb ha hb b.1
 exact⟨B,h1,h2.cN (lC (s:=(a,b)) ta tb _).1⟩
theorem Ap {a b:PP} {u M:Nat} (ta:Trim a) (tb:Trim b) (la:a.1<=M) (lb:b.1<a.1) (ha:Bd a u) (hb:Bd b u):∀j,j<=eo (a,b)->∃B,B+1<=2*(u+1)*3^(M-(bH (a,b) j).1.1)/\Bd (bH (a,b) j).1 B/\Bd (bH (a,b) j).2 B/\(bH (a,b) j).1.1<=M/\(bH (a,b) j).2.1<(bH (a,b) j).1.1
 |0,_=>by
  have:=BK (M-a.1)
  refine⟨u,?_,ha,hb,la,lb⟩
  show u+1<=2*(u+1)*3^(M-a.1)
  have:=Nat.mul_le_mul_left (2*(u+1)) this
  omega
 |j+1,hj=>by
  obtain⟨B,h1,h2,h3,h4,h5⟩:=Ap ta tb la lb ha hb j aa
  have ht:=mU (s:=(a,b)) ta tb j
  have h0:=(lS (s:=(a,b)) ta tb).2.2 j aa
  show∃B,B+1<=2*(u+1)*3^(M-(mL (bH (a,b) j)).1.1)/\Bd (mL (bH (a,b) j)).1 B/\Bd (mL (bH (a,b) j)).2 B/\(mL (bH (a,b) j)).1.1<=M/\(mL (bH (a,b) j)).2.1<(mL (bH (a,b) j)).1.1
  generalize bH (a,b) j=s at*
  have hr:=oA (a:=s.1) (d:=s.2) aa ht.2
  refine⟨B+(s.1.1-(s.2.1-1))*(B+1),(Mv h1 h5 h4).resolve_right h0,h3.more (Nat.le_add_right _ _),(Bd.rem h2 h3 aa ht.2).1.neg,?_,hr⟩
  show s.2.1<=M;omega
theorem XA {a d:PP} {B M:Nat} (ha:Bd a B) (hd:Bd d B) (h0:0<d.1) (td:Trim d) (hM:a.1-(d.1-1)<=M):
  (∀j,j<=a.1-(d.1-1)->∀i,i<a.1->Sz (cC (d.1-1) d.2 a.2 (a.1-(d.1-1)) j i) (2*((M+1)*(B+1))+2))/\∀k,k<a.1-(d.1-1)->Sz (ej (d.1-1) d.2 a.2 (a.1-(d.1-1)) k) (2*((M+1)*(B+1))+2):=by
 obtain⟨_,_,h1,h2⟩:=ha.rem hd h0 td
 have:B+(a.1-(d.1-1))*(B+1)<=(M+1)*(B+1):=by
  have:=Nat.mul_le_mul_right (B+1) hM
  rw[Nat.add_mul];omega
 exact⟨fun j hj i hi=>(h1 j hj i hi).more aa,fun k hk=>(h2 k hk).more aa⟩
theorem ct.sum {D:Int} {s b:Nat} {f:Nat->Rat} {n:Nat} (hn:n<=2^b) (h:∀i,i<n->ct D s (f i)):ct D (s+b) (sg f n):=by
 have key:∀m,m<=n->∃z:Int,(z:Rat)=sg f m*(D:Rat)/\z.natAbs<=m*2^s:=by
  intro m
  induction m with
  |zero=>exact fun _=>⟨0,by show _=0*_;rw[Rat.zero_mul];rfl,Nat.zero_le _⟩
  |succ m ih=>
   intro hm
   obtain⟨z,z1,z2⟩:=ih aa
   obtain⟨w,w1,w2⟩:=h m aa
   refine⟨z+w,?_,?_⟩
   ·show _=(sg f m+f m)*_
    rw[Rat.intCast_add,z1,w1];grind
   ·have:=Int.natAbs_add_le z w
    rw[Nat.add_mul,Nat.one_mul];omega
 obtain⟨z,z1,z2⟩:=key n aX
 refine⟨z,z1,Nat.le_trans z2 ?_⟩
 rw[Nat.pow_add,Nat.mul_comm]
 exact Nat.mul_le_mul_left _ hn
theorem ct.ite {D:Int} {s:Nat} {x:Rat} {p:Prop} [Decidable p] (h:ct D s x):ct D s (if p then x else 0):=by
 split
 ·exact h
 ·exact .zero
theorem JI {m n s t:Nat} {D E:Int} {U V:Nat->Rat} (hm:m+1<=64) (hn:n+1<=64) (hU:∀i,ct D s (U i)) (hV:∀j,ct E t (V j)) {i j k:Nat} (hi:i<=m+1) (hj:j<=n+1):
  ct (D*E) (s+t+13) (sg (fun i=>sg (fun j=>if i+j=k then U i*V j else 0) (n+1)) i+sg (fun j=>if i+j=k then U i*V j else 0) j):=by
 have h1:∀i,∀j,j<=n+1->ct (D*E) (s+t+6) (sg (fun j=>if i+j=k then U i*V j else 0) j):=fun i j hj=>ct.sum aa fun j _=>((hU i).mul (hV j)).ite
 have h2:ct (D*E) (s+t+6+6) (sg (fun i=>sg (fun j=>if i+j=k then U i*V j else 0) (n+1)) i):=ct.sum aa fun i _=>h1 i _ aX
 exact h2.add ((h1 i j hj).more aa)
theorem Qw {m n s t:Nat} {D E:Int} {U V:Nat->Rat} (hm:m+1<=64) (hn:n+1<=64) (hU:∀i,ct D s (U i)) (hV:∀j,ct E t (V j)) (k:Nat):ct (D*E) (s+t+13) (kM m n U V k):=by
 have:=JI hm hn hU hV (k:=k) (Nat.le_refl (m+1)) (Nat.zero_le (n+1))
 unfold kM
 rw[show sg (fun j=>if m+1+j=k then U (m+1)*V j else 0) 0=0 from rfl,Rat.add_zero]at this
 exact this
def jY (N:Nat):Nat->Nat
 |0=>1
 |k+1=>jY N k*(if k<=N then bn N k else 1)
theorem BR {N:Nat}:∀k,0<jY N k
 |0=>Nat.one_pos
 |k+1=>by
  unfold jY
  refine Nat.mul_pos (BR k) ?_
  split
  ·rename_i h;exact Du h
  ·exact Nat.one_pos
theorem Bs {N:Nat}:∀k,jY N k<=2^(k*N)
 |0=>by rw[Nat.zero_mul];exact Nat.le_refl _
 |k+1=>by
  unfold jY
  rw[Nat.add_mul,Nat.one_mul,Nat.pow_add]
  refine Nat.mul_le_mul (Bs k) ?_
  split
  ·exact uw N k
  ·exact Nat.one_le_two_pow
theorem PE {N i:Nat} (hi:i<=N):∀k,i<k->∃w,jY N k=bn N i*w/\w<=jY N k
 |0,h=>absurd h (Nat.not_lt_zero _)
 |k+1,h=>by
  rcases Nat.eq_or_lt_of_le (Nat.le_of_lt_succ h)with h1|h1
  ·subst h1
   refine⟨jY N i,?_,?_⟩
   ·show jY N i*(if i<=N then bn N i else 1)=_
    rw[if_pos hi,Nat.mul_comm]
   ·show _<=jY N i*(if i<=N then bn N i else 1)
    rw[if_pos hi]
    exact Nat.le_mul_of_pos_right _ (Du hi)
  ·obtain⟨w,w1,w2⟩:=PE hi k h1
   refine⟨w*(if k<=N then bn N k else 1),?_,?_⟩
   ·show jY N k*_=_
    rw[w1,Nat.mul_assoc]
   ·show _<=jY N k*_
    exact Nat.mul_le_mul_right _ w2
theorem ct.LZ {D:Int} {s N i:Nat} {x:Rat} (h:ct D s x) (hi:i<=N):ct (D*(jY N (N+1):Nat)) (s+(N+1)*N) (x/bq N i):=by
 obtain⟨z,z1,z2⟩:=h
 obtain⟨w,w1,w2⟩:=PE hi (N+1) aa
 refine⟨z*(w:Int),?_,?_⟩
 ·have hb:=Po hi
  rw[w1,Rat.intCast_mul,z1,Rat.intCast_mul,Int.natCast_mul,Rat.intCast_mul,Rat.div_def]
  have:bq N i*(bq N i)⁻¹=1:=Rat.mul_inv_cancel _ hb
  show x*(D:Rat)*((w:Int):Rat)=x*(bq N i)⁻¹*((D:Rat)*(bq N i*((w:Int):Rat)))
  generalize (bq N i)⁻¹=v at*
  generalize bq N i=g at*
  generalize ((w:Int):Rat)=y
  have h4:x*v*((D:Rat)*(g*y))=x*(D:Rat)*y*(g*v):=by grind
  rw[h4,this,Rat.mul_one]
 ·rw[Int.natAbs_mul,Nat.pow_add,Int.natAbs_natCast]
  exact Nat.mul_le_mul z2 (Nat.le_trans w2 (Bs _))
theorem DB {D:Int} {m s:Nat} {p:Nat->Rat} (h:∀i,i<m+1->ct D s (p i)) (i:Nat):ct D (s+m) (bq m i*p i):=by
 by_cases hi:i<m+1
 ·have:=(h i hi).zM (e:=m) (n:=(bn m i:Nat)) (by rw[Int.natAbs_natCast];exact uw m i)
  exact this.more aa
 ·rw[Jo aa,Rat.zero_mul];exact .zero
theorem Ok {m n s t:Nat} {p q:Nat->Rat} (hm:m+n<=40) (hp:dF (m+1) p s) (hq:dF (n+1) q t):dF (m+n+1) (kY m n p q) (s+t+(m+n)+13+(m+n+1)*(m+n)):=by
 obtain⟨D,d1,d2,d3⟩:=hp
 obtain⟨E,e1,e2,e3⟩:=hq
 refine⟨D*E*(jY (m+n) (m+n+1):Nat),?_,?_,fun k hk=>?_⟩
 ·have:=BR (N:=m+n) (m+n+1)
  exact Int.mul_ne_zero (Int.mul_ne_zero d1 e1) aa
 ·have h1:=nU (nU d2 e2) (show((jY (m+n) (m+n+1):Nat):Int).natAbs<=2^((m+n+1)*(m+n)) by rw[Int.natAbs_natCast];exact Bs _)
  exact Nat.le_trans h1 (Nat.pow_le_pow_right (by decide) aa)
 ·unfold kY
  exact((Qw aa aa (DB d3) (DB e3) k).LZ aa).more aa
theorem Up {m n s t:Nat} {p q:Nat->Rat} (hm:m+n<=40) (hp:dF (m+1) p s) (hq:dF (n+1) q t) {i j k:Nat} (hi:i<=m+1) (hj:j<=n+1):
  Sz (sg (fun i=>sg (fun j=>if i+j=k then bq m i*p i*(bq n j*q j)else 0) (n+1)) i+sg (fun j=>if i+j=k then bq m i*p i*(bq n j*q j)else 0) j) (2*(s+t+(m+n)+13)+2):=by
 obtain⟨D,d1,d2,d3⟩:=hp
 obtain⟨E,e1,e2,e3⟩:=hq
 have:=JI (k:=k) aa aa (DB d3) (DB e3) hi hj
 exact(this.sz (Int.mul_ne_zero d1 e1) (Nat.le_trans (nU d2 e2) aX)).more aa
theorem Dm {D:Int} {s n:Nat} {p:Nat->Rat} (h:∀i,i<n->ct D s (p i)):∀k i,k+i<n->ct D (s+k) (gr p k i)
 |0,i,hi=>h i aa
 |k+1,i,hi=>by
  obtain⟨z,z1,z2⟩:=Dm h k (i+1) aa
  obtain⟨w,w1,w2⟩:=Dm h k i aa
  refine⟨z-w,?_,?_⟩
  ·show _=(gr p k (i+1)-gr p k i)*_
   rw[Rat.intCast_sub,z1,w1];grind
  ·have:=Int.natAbs_sub_le z w
   rw[show s+(k+1)=s+k+1 by omega,Nat.pow_succ];omega
theorem FP {n s:Nat} {p:Nat->Rat} (h:dF n p s):dF n (fj n p) (s+2*n):=by
 obtain⟨D,d1,d2,d3⟩:=h
 refine⟨D,d1,Nat.le_trans d2 (Nat.pow_le_pow_right (by decide) aa),fun k hk=>?_⟩
 unfold fj
 have:=(Dm d3 k 0 aa).zM (e:=n-1) (n:=(bn (n-1) k:Nat)) (by rw[Int.natAbs_natCast];exact uw _ k)
 exact this.more aa
theorem Bd.cf {a:PP} {s:Nat} (h:Bd a s):∃D:Int,D≠0/\D.natAbs<=2^s/\∀i,ct D s (fh a i):=by
 obtain⟨D,d1,d2,d3⟩:=h
 refine⟨D,d1,d2,fun i=>?_⟩
 unfold fh
 split
 ·rename_i hi;exact d3 i hi
 ·exact .zero
theorem xg {a b:PP} {s t:Nat} (ha:Bd a s) (hb:Bd b t) (la:a.1<=60) (lb:b.1<=60):Bd (bZ a b) (s+t+13):=by
 obtain⟨D,d1,d2,d3⟩:=ha.cf
 obtain⟨E,e1,e2,e3⟩:=hb.cf
 exact⟨D*E,Int.mul_ne_zero d1 e1,Nat.le_trans (nU d2 e2) (Nat.pow_le_pow_right (by decide) aa),fun k _=>Qw aa aa d3 e3 k⟩
theorem CV {a b:PP}:(cz (bZ a b)).1=0\/(cz (bZ a b)).1+1<=(cz a).1+(cz b).1:=by
 rcases Nat.eq_zero_or_pos (cz (bZ a b)).1 with h|h
 ·exact .inl h
 ·right
  have:=rm (c:=cz (bZ a b)) (a:=cz a) (b:=cz b) (fun t=>by rw[eI,eI,eI,cA]) h fJ fJ fJ
  omega
theorem mb {a:PP}:(cz a).1<=a.1:=fK
theorem j6.of_eq {c d h f:PP} (s:j6 c h f) (e:∀t,aE c t=aE d t):j6 d h f:=
 ⟨fun t=>by rw[<-e,s.eq],s.dv.of_eq fun t=>by rw[gN,gN,Nv e]⟩
def sO (p q:PP):PP:=(p.1-1+(q.1-1)+1,kY (p.1-1) (q.1-1) p.2 q.2)
def iM (p q:PP):Nat->PP
 |0=>p
 |j+1=>sO (iM p q j) q
def ig (q:PP):PP:=(q.1,fj q.1 q.2)
def jI (p:PP) (t:Rat):Rat:=cs (p.1-1) p.2 t
theorem mH {q:PP} (h:1<=q.1) (t:Rat):aE (ig q) t=jI q t:=by
 obtain⟨n,k⟩:=q
 obtain⟨m,rfl⟩:∃m,n=m+1:=⟨n-1,by have h:1<=n:=h;omega⟩
 exact Tz
theorem wj {p q:PP} (t:Rat):jI (sO p q) t=jI p t*jI q t:=by
 unfold jI sO
 rw[Nat.add_sub_cancel]
 exact acY
structure rL (q:PP):Prop where
 lo:1<=q.1
 hi:q.1<=3
 bd:Bd q 7
theorem rL.pw {q:PP} (h:rL q):Bd (ig q) 13:=by
 have h1:dF q.1 (fj q.1 q.2) (7+2*q.1):=FP h.bd
 exact h1.more (by have:=h.hi;omega)
structure qU (i:Nat) (p:PP):Prop where
 lo:1<=p.1
 hi:p.1<=4*i+1
 bd:Bd p (400*i)
 pw:∃c h f:PP,(∀t,aE c t=jI p t)/\Bd c (52*i)/\c.1<=8*i+1/\j6 c h f/\(cz f).1<=2*i+1
theorem qU.one:qU 0 (1,fun _=>1) where
 lo:=aX
 hi:=aX
 bd:=⟨1,by decide,aX,fun i _=>⟨1,(Rat.one_mul _).symm,aX⟩⟩
 pw:=⟨gY,gY,gY,fun t=>by rw[jo];rfl,⟨1,by decide,aX,fun i _=>⟨1,(Rat.one_mul _).symm,aX⟩⟩,aX,j6.one,mb⟩
theorem zh {p q:PP} (hp:1<=p.1) (hq:rL q):∀j,1<=(iM p q j).1/\(iM p q j).1<=p.1+2*j
 |0=>⟨hp,aX⟩
 |j+1=>by
  have:=zh hp hq j
  have h2:=hq.hi
  show 1<=(iM p q j).1-1+(q.1-1)+1/\(iM p q j).1-1+(q.1-1)+1<=_
  omega
theorem Ft {p q:PP} {s:Nat} (hp:1<=p.1) (hq:rL q) (hb:Bd p s):∀j,p.1+2*j<=13->Bd (iM p q j) (s+200*j)
 |0,_=>hb
 |j+1,h=>by
  have ih:=Ft hp hq hb j aa
  have hl:=zh hp hq j
  have h1:=hq.lo
  have h2:=hq.hi
  have hb2:dF ((iM p q j).1-1+1) (iM p q j).2 (s+200*j):=by rw[show(iM p q j).1-1+1=(iM p q j).1 by omega];exact ih
  have hb3:dF (q.1-1+1) q.2 7:=by rw[show q.1-1+1=q.1 by omega];exact hq.bd
  have:=Ok aa hb2 hb3
  refine dF.more this ?_
  have h5:(iM p q j).1-1+(q.1-1)<=12:=aa
  have h6:((iM p q j).1-1+(q.1-1)+1)*((iM p q j).1-1+(q.1-1))<=13*12:=Nat.mul_le_mul aa h5
  omega
theorem qU.step {i r:Nat} {p q:PP} (h:qU i p) (hq:rL q) (hi:i<=2) (hr:1<=r/\r<=2):qU (i+1) (iM p q r):=by
 have hl:=zh h.lo hq r
 have h1:=h.hi
 obtain⟨c,hh,f,c1,c2,c3,c4,c5⟩:=h.pw
 have hq1:=hq.lo
 have hq2:=hq.hi
 have hcq:(ig q).1=q.1:=rfl
 have hcu:(cz (ig q)).1<=3:=Nat.le_trans mb hq2
 have hf:(cz (bZ f (ig q))).1<=2*(i+1)+1:=by
  rcases CV (a:=f) (b:=ig q)with h0|h0<;>omega
 have e1:∀t,aE (bZ c (ig q)) t=aE c t*aE (ig q) t:=fun t=>cA
 have l1:(bZ c (ig q)).1=c.1+q.1+1:=rfl
 have b1:=xg c2 hq.pw aa aa
 refine⟨hl.1,aa,(Ft h.lo hq h.bd r aa).more aa,?_⟩
 rcases(show r=1\/r=2 by omega)with rfl|rfl
 ·refine⟨bZ c (ig q),hh,bZ f (ig q),fun t=>?_,b1.more aa,aa,c4.HQ e1,hf⟩
  show _=jI (sO p q) t
  rw[wj,e1,c1,mH hq1]
 ·have b2:=xg b1 hq.pw aa aa
  have l2:(bZ (bZ c (ig q)) (ig q)).1=(bZ c (ig q)).1+q.1+1:=rfl
  refine⟨bZ (bZ c (ig q)) (ig q),bZ hh (ig q),bZ f (ig q),fun t=>?_,b2.more aa,aa,c4.Nm fun t=>by rw[cA,e1],hf⟩
  show _=jI (sO (sO p q) q) t
  rw[wj,wj,cA,e1,c1,mH hq1]
structure kG (c:PP):Prop where
 tr:Trim c
 len:c.1<=13
 bd:Bd c 156
 sq:∃h f:PP,j6 c h f/\(cz f).1<=7
theorem qU.gd {i:Nat} {p:PP} (h:qU i p) (hi:i<=3):kG (bO (fj p.1 p.2) p.1,fj p.1 p.2):=by
 obtain⟨c,hh,f,c1,c2,c3,c4,c5⟩:=h.pw
 have h1:=h.hi
 have e:∀t,aE (cz c) t=aE (bO (fj p.1 p.2) p.1,fj p.1 p.2) t:=fun t=>by
  rw[eI,c1,<-mH h.lo]
  exact xe.symm
 have hb:Bd (cz c) (52*i):=dF.short c2 mb
 refine⟨mI,?_,(hb.D3 (C2 fJ mI e)).more aa,hh,f,c4.of_eq fun t=>by rw[<-e,eI],aa⟩
 have:bO (fj p.1 p.2) p.1<=p.1:=fK
 show bO _ _<=13
 omega
theorem I7 {n s:Nat} {c:Nat->Rat} {D:Int} (h:∀i,i<n->ct D s (c i)) {i:Nat} (hi:i<n):∀k,k<=n->ct (D*(jY (n-1) (n-1+1):Nat)) (s+(n-1+1)*(n-1)+n+k) (lU n c i k)
 |0,_=>.zero
 |k+1,hk=>by
  have ih:=I7 h hi k aa
  have h1:=((h k aa).LZ (N:=n-1) (i:=k) aa).zM (e:=n) (n:=(bn i k:Nat)) (by rw[Int.natAbs_natCast];exact Nat.le_trans (uw i k) (Nat.pow_le_pow_right (by decide) aa))
  have h2:=ih.add (h1.more (t:=s+(n-1+1)*(n-1)+n+k) aa)
  have e:lU n c i (k+1)=lU n c i k+((bn i k:Nat):Int)*(c k/bq (n-1) k):=by
   show lU n c i k+((bn i k:Int):Rat)/bq (n-1) k*c k=_
   rw[Rat.div_def,Rat.div_def];grind
  rw[e];exact h2
theorem NO {n s:Nat} {c:Nat->Rat} (hb:dF n c s) {i k:Nat} (hi:i<n) (hk:k<=n):Sz (lU n c i k) (2*(s+n*n+2*n)+2):=by
 obtain⟨D,d1,d2,d3⟩:=hb
 have h1:=I7 d3 hi k hk
 have h2:=BR (N:=n-1) (n-1+1)
 have h3:(n-1+1)*(n-1)<=n*n:=Nat.mul_le_mul aa aa
 have h4:=nU d2 (show((jY (n-1) (n-1+1):Nat):Int).natAbs<=2^((n-1+1)*(n-1)) by rw[Int.natAbs_natCast];exact Bs _)
 exact(h1.sz (Int.mul_ne_zero d1 aa) h4).more aa
end Go.Am
