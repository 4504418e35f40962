/- slices.Grow, Concat of numbers; law12.awake. -/
import Derived.Test.YtnniljlepppdpaaGreatY42
import Derived.Test.YtnniljlepppdpaaGreatY40
set_option linter.unusedVariables false
noncomputable section
namespace Go.Am.B
open Go Go.Am.N AV ah ax IntKind
theorem alT:aT P SS HP (ay HP):=aU Proofs.Tryz.func277 ag ag ag
theorem alP:aT P Rp K0 (ay K0):=aU Proofs.Tryz.func230 ag ag ag
theorem XH:aT P C1 DG (ay DG):=aU Proofs.Tryz.func32 ag ag ag
abbrev UJ:FuncId:=SS
abbrev ae2:Func:=HP
abbrev U4:FuncId:=Rp
abbrev aoN:Func:=K0
def RL:Spec:=pR fun K l=>match l with
 |[.nil,.int .i64 n]=>some ⟨jh [.own K 3 0 0],[(K,⟨true,true,3,n.toNat,fun _=>.rat 0 1⟩)],[0<n/\n<2^30]⟩
 |_=>none
abbrev IX (na nb:Nat) (f g:Nat->Rat):AV:=.aq 1 2 fun i=>nth [br f na 2048,br g nb 2048] .nil i
def Ef (na:Nat) (f g:Nat->Rat) (i:Nat):Rat:=if i<na then f i else g (i-na)
def SK:Spec:=pR fun K l=>match l with
 |[.aq 1 2 h]=>match h 0,h 1 with
  |.aq 3 na f,.aq 3 nb g=>some ⟨jh [.own K 3 0 (na+nb)],[(K,⟨true,true,3,na+nb,fun i=>.rat (Ef na (fun i=>aL (f i)) (fun i=>aL (g i)) i) 2048⟩)],[bt f na 2048,bt g nb 2048,0<na+nb,na+nb<2^30]⟩
  |_,_=>none
 |_=>none
def OX:bf:=nG::(U4,SK)::[]
def Ui:bf:=nG::(abq,iz T OX [] 400 af7)::(Kv,Nn)::(HH,Ns)::(yR,Jn)::(Hr,I7)::[]
def RQ:Spec:=bY fun l=>match l with
 |[.rat q _]=>match decide (q=1/4),decide (q=1)with
  |true,_=>some (aJ (.str [49,47,52]) [])
  |false,true=>some (aJ (.str [49]) [])
  |_,_=>none
 |_=>none
def Nz:bf:=sG::(IP,NK)::(De,Tl)::(WO,iz T Ui [200018,200026] 400 anQ)::(al3,iz T (sG::nr) [] 200 adx)::(pC,rT)::(D9,RQ)::nr
theorem aau {n:Int}:aG T [nG] [200006,100016] 60 [4] [ay ae2] ⟨aP 0 [.nil,.int .i64 n],[],0⟩=
  let c4:Prop:=(0:Int)<=0;let c3:Int:=(2:Int)^63;let c2:Int:=(↑(0:Nat):Int);let c1:Int:=(0:Int)-c2;let c5:Nat:=(n-c1).toNat;some (aj [decide (n<0)=false] (aj [-c3<=c1/\c1<c3,-c3<=n-c1/\n-c1<c3] (aj [decide (n-c1>0)=true] (aj [c4/\c4/\c4/\(0:Int)<=c2,(0:Int)<n-c1/\c5*((56:Nat)+1)*2<=2^47,c4/\(0:Int)<=c2/\c2<=c2/\c2<=(↑c5:Int)] (leaf ret ([own 73728 3 0 0],[(73728,ak.mk true true 3 c5 fun x=>rat 0 1)])))))):=ag
theorem acL {na nb:Nat} {f g:Nat->Rat}:aG T [nG,(UJ,RL)] [200020] 60 [2] [ay aoN] ⟨aP 0 [IX na nb f g],[],0⟩=
  let c6:Prop:=(0:Int)<=0/\Int.toNat (0:Int)<2;let c4:Nat:=0+na;let c3:Int:=(0:Int)+(↑na:Int);let c2:Int:=(0:Int)+1;let c1:Int:=(2:Int)^63;let c8:Prop:=(0:Int)<=c2/\c2.toNat<2;let c7:Prop:=-c1<=c2+1/\c2+1<c1;let c5:Int:=c3+(↑nb:Int);some (aj [c6] (aj [-c1<=c3/\c3<c1] (aj [decide (c3<0)=false] (aj [-c1<=c2/\c2<c1] (aj [c8] (aj [-c1<=c5/\c5<c1] (aj [decide (c5<0)=false] (aj [c7] (aj [(0:Int)<c5/\c5<2^30] (aj [c6] (aj [c4*((56:Nat)+1)*2<=2^47] (aj [-c1<=c2/\c2<c1] (aj [c8] (aj [(c4+nb)*((56:Nat)+1)*2<=2^47] (aj [c7] (leaf ret ([own 221184 3 0 (c4+nb)],[(221184,ak.mk true true 3 (c4+nb) fun i=>if i<c4 then if i<0 then rat 0 1 else rat (f (i-0)) 2048 else rat (g (i-c4)) 2048)]))))))))))))))))):=ag
theorem V6:bU T DH [] 60 qC (ay qC) ⟨aP 0 [.agg [.bool false,.mag 1,.mag 0]],[],0⟩=
  some (leaf ret [str [(49:UInt8)]]):=ag
theorem amZ:bU T Nz [100023,100027,100033,100037,100043] 400 DG (ay DG) ⟨aP 0 [],[],0⟩=
  let c39:Prop:=iK=iK;let c38:List UInt8:=[(49:UInt8),(47:UInt8),(52:UInt8)];let c37:Rat:=(↑(1:Int):Rat)/(↑(2:Int):Rat);let c30:Nat:=2^47;let c29:Nat:=56+1;let c23:Nat:=2^40;let c18:Prop:=4*3<=2^24;let c16:Prop:=(0:Int)<=0/\Int.toNat (0:Int)<2;let c14:Nat:=4+4;let c13:Int:=(↑(3:Nat):Int);let c11:Int:=(2:Int)^63;let c10:Int:=(0:Int)+1;let c8:Prop:=0<1;let c7:AV:=agg [AV.bool (decide ((0:Rat)<0)),mag (↑(nat_lit 0):Int).natAbs,mag (if 1=1 then 0 else 1)];let c5:AV:=rat 0 1;let c3:AV:=rat (↑(1:Int):Rat) (Max.max 1 (bQ (Int.natAbs (1:Int))));let c34:Nat:=c14+4;let c33:List AV:=[agg [agg [c5,c5,c5],c3],agg [agg [c7,c3,c5],c3]];let c32:List AV:=[agg [agg [c3,c5,c5],c3],agg [agg [c3,c3,c3],c3]];let c31:Prop:=-c11<=c10/\c10<c11;let c26:AV:=agg [agg [c5,c5,c5],c5];let c22:Prop:=(0:Int)<=1/\(1:Int)<c13;let c21:Prop:=(0:Int)<=c10/\c10.toNat<2;let c20:Prop:=(0:Int)<=0/\(0:Int)<c13;let c19:Prop:=(0:Int)<=2/\(2:Int)<c13;let c17:Prop:=-c11<=c10+1/\c10+1<c11;let c2:List AV:=[c7,c7,c3,c3];let c28:Prop:=bt (fun i=>nth c2 c5 (i+0)) 4 2048;let c24:Prop:=(gY 4 (fun i=>aL (nth c2 c5 (i+0))) (1:Int)!=0)=false;let c15:Prop:=bt (fun i=>nth c2 c5 (i+0)) 4 sJ;let c12:Prop:=bt (fun i=>nth c2 c5 (i+0)) 4 2000;let c9:Nat:=c34+4;let c1:List AV:=[aq 12 2 fun i=>nth c33 c26 (i+0),aq 12 2 fun i=>nth c32 c26 (i+0)];let c35:Nat:=fW (nth c1 nil ((0:Nat)+0));let c27:Prop:=ec (fun i=>nth c1 nil (i+0)) 2 2000;let c25:Nat:=c9+4;let c36:Nat:=c25+4;let c6:Sf:=Sf.mk (1:Int) (1:Int) 4 (fun i=>aL (nth c2 c5 (i+0))) 4 (fun i=>aL (nth c2 c5 (i+0))) 2 c35 (jo fun i=>nth c1 nil (i+0));let c4:Prop:=bt (fun i=>if i+0<c25 then if i+0<c9 then if i+0<c34 then if i+0<c14 then rat (Ef 4 (fun i=>aL (nth c2 c5 (i+0))) (fun i=>aL (nth c2 c5 (i+0))) (i+0)) 2048 else nth [c5,c5,c5,c3] c5 (i+0-c14+0)else nth [c7,c3,c5,c3] c5 (i+0-c34+0)else nth [c3,c5,c5,c3] c5 (i+0-c9+0)else nth [c3,c3,c3,c3] c5 (i+0-c25+0)) c36 2048;some (aj [-c11<=1,(1:Int)<c11,-c11<=2,(2:Int)<c11] (aj [c8,c12,c12,c27,(64:Nat)<=sK,(64:Nat)<=sK,gd c6] (aj [c8,c12,c12,c27,(1:Nat)<=sK,gd c6] (aj [c8,c8,c8,c8,(2:Nat)*1<=2^24,c28,c28,(0:Nat)<c14,c14<2^30,c8,c16,c16,c8,c20,c8,c22,c8,c19,c8,c8,c18,c34*c29*2<=c30,c31,c21,c8,c20,c8,c22,c8,c19,c8,c8,c18,c9*c29*2<=c30,c17,c31,c21,c16,c8,c20,c8,c22,c8,c19,c8,c8,c18,c25*c29*2<=c30,c31,c21,c8,c20,c8,c22,c8,c19,c8,c8,c18,c36*c29*2<=c30,c17,c17,c4,c36<c23,kj=kj\/kj=jO,c8,c8,c15,(4:Nat)<c23,c24,c8,c8,c15,(4:Nat)<c23,c24,c8,c15,c15,ec (fun i=>nth c1 nil (i+0)) 2 sJ,gd c6,c8,c16,ki (fun i=>nth c33 c26 (i+0)) 2 2048,(2:Nat)<c23,∀(i:Nat),i<2->0<(lS (nth c33 c26 (i+0))).d,c39,c31,c21,ki (fun i=>nth c32 c26 (i+0)) 2 2048,(2:Nat)<c23,∀(i:Nat),i<2->0<(lS (nth c32 c26 (i+0))).d,c39,c17,c4,c36<c23,jO=kj\/jO=jO,((0:Int)==0)=true,(bif true then vq c6 c37 c37==0 else false)=true,(bif true then c38==c38 else false)=true,(bif true then cX 4 (fun i=>aL (nth c2 c5 (i+0))) 0==(0:Int)else false)=true,(bif true then(↑c35:Int)==2 else false)=true] (leaf ret [AV.bool true]))))):=ag
theorem aeQ:aW P RL UJ:=by
 refine wJ fun K args r hk hs=>?_
 split at hs
 ·rename_i n
  simp only[az]at hs
  subst hs
  refine FN hT alT (fun _=>zB hk rfl (show fq [.nil,.int .i64 n] [.nil,.int .i64 n]from⟨.refl _,.refl _,trivial⟩)) aX fun need c hkp=>?_
  have need:0<n/\n<2^30:=need
  obtain⟨h1,h2⟩:=need
  refine au.bC hT (cz bz) hm 60 [4] aau ag ?_
  have e:n-(0-((0:Nat):Int))=n:=aa
  simp only[ah.all,aA,e]
  exact⟨decide_eq_false aa,⟨aa,aa⟩,decide_eq_true aa,⟨aa,aa,aa⟩,fun s' hs'=>⟨by simp,[4],_,[.own 73728 3 0 0],_,73728,_,hs',ag,⟨⟨rfl,bW (by simp[bp,look]) rfl rfl⟩,trivial⟩,rfl,jl rfl fun i hi=>gm rfl⟩⟩
 ·simp at hs
theorem aki:aW P SK U4:=by
 refine wJ fun K args r hk hs=>?_
 split at hs
 ·rename_i h
  split at hs
  ·rename_i na f nb g h0 h1
   simp only[az]at hs
   subst hs
   refine FN hT alP (args0:=[IX na nb (fun i=>aL (f i)) (fun i=>aL (g i))]) (fun need=>zB hk rfl (show fq [.aq 1 2 h] [IX na nb (fun i=>aL (f i)) (fun i=>aL (g i))]from⟨dS fun i hi=>?_,trivial⟩)) aX fun need c hkp=>?_
   ·obtain⟨n1,n2,n3,n4⟩:=need
    match i,hi with
    |0,_=>rw[h0];exact AX n1
    |1,_=>rw[h1];exact AX n2
   ·obtain⟨n1,n2,n3,n4⟩:bt f na 2048/\bt g nb 2048/\0<na+nb/\na+nb<2^30:=need
    refine au.bC hT (cz (aI aeQ bz)) hm 60 [2] acL ag ?_
    simp only[ah.all,aA]
    (repeat' with_reducible refine And.intro ?_ ?_)
    all_goals first|omega|exact decide_eq_false aa|skip
    intro s' hs'
    refine⟨by simp,[2],_,[.own 221184 3 0 (0+na+nb)],_,221184,_,hs',ag,⟨⟨rfl,bW (by simp[bp,look]) rfl aa⟩,trivial⟩,rfl,jl aa fun i hi=>?_⟩
    have e:(if i<0+na then if i<0 then AV.rat 0 1 else .rat (aL (f (i-0))) 2048 else .rat (aL (g (i-(0+na)))) 2048)=AV.rat (Ef na (fun i=>aL (f i)) (fun i=>aL (g i)) i) 2048:=by
     unfold Ef
     rw[Nat.zero_add,Nat.sub_zero,if_neg (Nat.not_lt_zero i)]
     split<;>rfl
    show fR _ (if i<0+na then if i<0 then AV.rat 0 1 else .rat (aL (f (i-0))) 2048 else .rat (aL (g (i-(0+na)))) 2048) _
    rw[e];exact gm rfl
  ·simp at hs
 ·simp at hs
theorem afH:aW P RQ D9:=by
 refine cJ fun K args r hk hs _=>?_
 have fin:∀{q:Rat} {n a b:Nat} {t:ah (List AV)} {l:List UInt8},kids (.rat q n)=[.bool false,.mag a,.mag b]->bU T DH [] 60 qC (ay qC) ⟨aP 0 [.agg [.bool false,.mag a,.mag b]],[],0⟩=some t->(t.all fun _ us=>fj us (.str l))->aQ P D9 K [.rat q n] [] (aJ (.str l) []):=fun h0 h1 h2=>
  gZ (bZ (r:=aJ _ []) hT amF hm ajC rfl aX rfl 60 h1 (fun _=>h2) K []) rfl (show fq [_] [_]from⟨by rw[<-h0];exact PT,trivial⟩) []
 split at hs
 ·rename_i q n
  split at hs
  all_goals simp only[az,reduceCtorEq]at hs
  all_goals subst hs
  ·obtain rfl:q=1/4:=of_decide_eq_true ‹_›
   exact fin ag amn (.refl _)
  ·obtain rfl:q=1:=of_decide_eq_true ‹decide (q=1)=true›
   exact fin ag V6 (.refl _)
 ·simp at hs
theorem al4:bu P OX:=cz (aI aki bz)
theorem ZS:bu P Ui:=cz (aI (iU hT al4 hm (aU Proofs.Tryz.func147 ag ag ag) _ _) (aI abP (aI ag7 (aI Pd (aI QO bz)))))
theorem aif:bu P Nz:=j7 (aI VG (aI afx (aI (iU hT ZS hm (aU Proofs.Tryz.func51 ag ag ag) _ _) (aI (iU hT (j7 oy) hm (aU Proofs.Tryz.func126 ag ag ag) _ _) (aI vp (aI afH oy))))))
theorem KK {f:Nat->Rat} (h:∀i,i<4->f i=nB 1 0 (fun _=>((0:Int):Rat)) ((0:Int):Rat) i):Kn 4 1 f:=
 ((KG.start (p:=1) aa (z:=0) aa aa).done:Kn (2*1+2+0) 1 _).congr fun i hi=>(h i hi).symm
set_option maxHeartbeats 1000000 in
theorem anG (K:Nat):aQ P C1 K [] [] (aJ (.bool true) []):=by
 refine bZ (r:=aJ (.bool true) []) hT aif hm XH rfl aX rfl 400 amZ (fun _=>?_) K []
 simp only[ah.all,aA]
 (repeat' with_reducible first|refine And.intro ?_ ?_)
 all_goals first|omega|decide|exact .inl trivial|exact .inr trivial|trivial|exact .refl _|skip
 all_goals first|decide+kernel|skip
 all_goals first
  |exact bne_eq_false_iff_eq.2 ((KK fun i hi=>by
    match i,hi with
    |0,_|1,_|2,_|3,_=>decide+kernel).Ly (by decide) (by decide))
  |refine⟨KK fun i hi=>?_,KK fun i hi=>?_,by decide,by decide,by decide,by decide,by decide,by decide,by decide,by decide,fun i j hi hj=>?_⟩
  |intro i hi
 all_goals first
  |match i,hi with
   |0,_|1,_|2,_|3,_=>decide+kernel
  |match i,hi,j,hj with
   |0,_,0,_|0,_,1,_|1,_,0,_|1,_,1,_=>decide+kernel
  |skip
 all_goals first
  |match i,hi with
   |0,_|1,_=>exact kG
   |2,_|3,_=>exact eR (by decide)
  |match i,hi with
   |0,_|1,_=>first|exact b7 ⟨b7 ⟨eR (by decide),eR (by decide),eR (by decide),trivial⟩,eR (by decide),trivial⟩|exact b7 ⟨b7 ⟨kG,eR (by decide),eR (by decide),trivial⟩,eR (by decide),trivial⟩
  |match i,hi with
   |0,_|1,_=>
    refine dS fun j hj=>?_
    match j,hj with
    |0,_|1,_=>first|exact b7 ⟨b7 ⟨eR (by decide),eR (by decide),eR (by decide),trivial⟩,eR (by decide),trivial⟩|exact b7 ⟨b7 ⟨kG,eR (by decide),eR (by decide),trivial⟩,eR (by decide),trivial⟩
  |(replace hi:i<24:=hi
    rcases(by omega:i=0\/i=1\/i=2\/i=3\/i=4\/i=5\/i=6\/i=7\/i=8\/i=9\/i=10\/i=11\/i=12\/i=13\/i=14\/i=15\/i=16\/i=17\/i=18\/i=19\/i=20\/i=21\/i=22\/i=23)with rfl|rfl|rfl|rfl|rfl|rfl|rfl|rfl|rfl|rfl|rfl|rfl|rfl|rfl|rfl|rfl|rfl|rfl|rfl|rfl|rfl|rfl|rfl|rfl<;>first|exact bN.refl _|exact kG|exact eR (by decide))
  |skip
def Pz:Spec:=bY fun l=>match l with
 |[]=>some (aJ (.bool true) [])
 |_=>none
theorem ahX:aW P Pz C1:=by
 refine cJ fun K args r hk hs _=>?_
 split at hs
 ·simp only[az]at hs
  subst hs
  exact fun need=>anG K need
 ·simp at hs
end Go.Am.B
