/- brepkernellaw06.RootsRefines. -/
import Derived.Test.YtolopdkjjlfgjaaGreatM33
import Derived.Test.YtolopdkjjlfgjaaGreatY44
set_option linter.unusedVariables false
namespace Go.Am.B
open Go Go.Am.N AV ag aq IntKind Proofs.Tryz
theorem aad:bf 8 f8:=bg func8
noncomputable def Kk:bk:=nG::(11,J8)::(12,Qj)::(14,PX)::(13,kj Hp)::(19,LW cH)::(43,kj Gg)::(44,kj vW)::(45,Cx)::(46,zk)::(47,Ce)::(48,Ce)::(20,LB)::[]
abbrev NU:ag (List AV):=leaf ret [AV.bool true]
abbrev je (w:Int):Rat:=((w%40-3:Int):Rat)/((64:Int):Rat)
def ur (p:PP) (s:Rat×Rat) (t:Int) (k:Nat) (w:Int):ag (List AV):=aj [(0:Int)<40,(40:Int)<2^62,-(2:Int)^63<=w%40-3/\w%40-3<(2:Int)^63,-(2:Int)^63<=w%40-3,w%40-3<(2:Int)^63,-(2:Int)^63<=64,(64:Int)<2^63,0<1]
 (aj [0<1,0<1,aR p,aW (rat s.1 k) (rat s.1 af),aW (rat s.2 k) (rat s.2 af),64<=af,qi p s (je w),0<1] (aj [0<1,0<1,aR p,aW (rat s.1 k) (rat s.1 af),aW (rat s.2 k) (rat s.2 af),64<=af,qi p s (je w),0<1]
  (aj [(ig p s (je w)==ig p s (je w))=true,0<1,1*7<=2^24,0<1,1*7<=2^24,∀i,i<1->aW (nth [eP (iO p s t (je w))] jd (i+0)) (eP (pU (nth [eP (iO p s t (je w))] jd (i+0)))),∀i,i<1->aW (nth [eP (iO p s t (je w))] jd (i+0)) (eP (pU (nth [eP (iO p s t (je w))] jd (i+0)))),1<2^40,1<2^40,(bif true then vD 1 (fun i=>pU (nth [eP (iO p s t (je w))] jd (i+0))) 1 (fun i=>pU (nth [eP (iO p s t (je w))] jd (i+0)))else false)=true] NU)))
def PE (p:PP) (s:Rat×Rat) (t:Int) (i w:Int) (b:Bool):ag (List AV):=fork (decide (((dY cH p).length:Int)>0))
 (aj [decide (((dY cH p).length:Int)>0)=true] (fork (bif true then !b else false) (aj [0<((dY cH p).length:Int),((dY cH p).length:Int)<2^62,0<=i%((dY cH p).length:Int)/\(i%((dY cH p).length:Int)).toNat<(dY cH p).length,0<1] (ur p (cj (dY cH p) (i%((dY cH p).length:Int)).toNat) (uf cH p (i%((dY cH p).length:Int)).toNat:Nat) af w)) (ur p s t 64 w)))
 (aj [decide (((dY cH p).length:Int)>0)=false] (fork false (aj [0<((dY cH p).length:Int),((dY cH p).length:Int)<2^62,0<=i%((dY cH p).length:Int)/\(i%((dY cH p).length:Int)).toNat<(dY cH p).length,0<1] (ur p (cj (dY cH p) (i%((dY cH p).length:Int)).toNat) (uf cH p (i%((dY cH p).length:Int)).toNat:Nat) af w)) (ur p s t 64 w)))
theorem aji {n:Nat} {z:Nat->Int} {i w:Int} {b:Bool}:b9 T Kk [21,40,43,100072,100079] 60 f8 (aH f8) ⟨aU 0 [.ak 1 n fun i=>.int .i64 (z i),.int .i64 i,.int .i64 w,.bool b],[],0⟩=
  some (fork (!decide ((n:Int)<=500)) NU (aj [dh n (fun i=>int i64 (z i)) 0,CQ n (fun i=>int i64 (z i)) 0] (aj [aR (ki n (fun i=>int i64 (z i)) 0),Cs cH (ki n (fun i=>int i64 (z i)) 0)] (aj [dh n (fun i=>int i64 (z i)) (oJ n (fun i=>int i64 (z i)) 0),dh n (fun i=>int i64 (z i)) (Dp n (fun i=>int i64 (z i)) (oJ n (fun i=>int i64 (z i)) 0)),(0:Int)<3,(3:Int)<2^62,0<1]
   (PE (ki n (fun i=>int i64 (z i)) 0) (qI n (fun i=>int i64 (z i)) (oJ n (fun i=>int i64 (z i)) 0)) (cT n (fun i=>int i64 (z i)) (Dp n (fun i=>int i64 (z i)) (oJ n (fun i=>int i64 (z i)) 0)) 3) i w b))))):=ah
theorem adO:bR P Kk:=gi (aJ aiX (aJ abX (aJ VQ (aJ Se (aJ (aiw cH) (aJ acv (aJ Bk (aJ Iq (aJ A8 (aJ SO (aJ SW (aJ ZP cz))))))))))))
theorem Lj {p:PP} {s:Rat×Rat} {t:Int} {k:Nat} {w:Int} (hk:k<=af) (h:qi p s (je w)) {R:aq->List AV->Prop} (hR:R .ret [AV.bool true]):(ur p s t k w).all R:=by
 have hW:=cF
 unfold ur
 have hs:vD 1 (fun i=>pU (nth [eP (iO p s t (je w))] jd (i+0))) 1 (fun i=>pU (nth [eP (iO p s t (je w))] jd (i+0)))=true:=decide_eq_true ⟨rfl,fun _ _=>rfl⟩
 have hr:∀i,i<1->aW (nth [eP (iO p s t (je w))] jd (i+0)) (eP (pU (nth [eP (iO p s t (je w))] jd (i+0)))):=fun i hi=>by
  obtain rfl:i=0:=aa
  exact .refl _
 have hL:az [0<1,0<1,aR p,aW (rat s.1 k) (rat s.1 af),aW (rat s.2 k) (rat s.2 af),64<=af,qi p s (je w),0<1]:=⟨aa,aa,dQ,dy rfl hk,dy rfl hk,aa,h,Nat.zero_lt_one⟩
 exact⟨⟨aa,aa,aa,aa,aa,aa,aa,Nat.zero_lt_one⟩,hL,hL,⟨by simp,aa,aa,aa,aa,hr,hr,aa,aa,hs⟩,hR⟩
theorem M6 {w:Int} (h:0<je w):1<=je w*64:=by
 have e:je w*64=((w%40-3:Int):Rat):=Rat.div_mul_cancel (by decide)
 rw[e]
 have h2:0<je w*64:=Rat.mul_pos h (by decide)
 rw[e]at h2
 have h3:(0:Int)<w%40-3:=by exact_mod_cast h2
 exact pz (a:=1) aa
theorem ad6 {n:Nat} {z:Nat->Int} {i w:Int} {b:Bool} (K:Nat):aQ P 8 K [.ak 1 n (fun i=>.int .i64 (z i)),.int .i64 i,.int .i64 w,.bool b] [] (aL (.bool true) []):=by
 have hW:=cF
 refine ck (r:=aL (.bool true) []) hT adO hm aad rfl aX rfl 60 aji (fun _=>?_) K []
 have hp:=QT (n:=n) (f:=fun i=>.int .i64 (z i)) (a:=0)
 have hg:(aF (ki n (fun i=>.int .i64 (z i)) 0)).1≠0->eH (aF (ki n (fun i=>.int .i64 (z i)) 0)):=TM
 obtain⟨x1,x2,x3⟩:=S6 (n:=n) (f:=fun i=>.int .i64 (z i)) (a:=oJ n (fun i=>.int .i64 (z i)) 0)
 have hd1:dh n (fun i=>AV.int .i64 (z i)) 0->dh n (fun i=>AV.int .i64 (z i)) (oJ n (fun i=>.int .i64 (z i)) 0):=fun h=>h.fl _
 have hd2:∀a,dh n (fun i=>AV.int .i64 (z i)) a->dh n (fun i=>AV.int .i64 (z i)) (Dp n (fun i=>.int .i64 (z i)) a):=fun a h=>h.number.number
 generalize ki n (fun i=>.int .i64 (z i)) 0=p at*
 generalize qI n (fun i=>.int .i64 (z i)) (oJ n (fun i=>.int .i64 (z i)) 0)=s at*
 have l2:(dY cH p).length<=10:=by rw[ET hg];exact Z2 hg
 have hB:∀t,(ur p s t 64 w).all fun _ us=>gx us (.bool true):=fun t=>Lj aa (Lg hp.of hg x1 x2 (Nat.zero_le _) x3 M6) (.refl _)
 simp only[ag.all,az,Bool.not_eq_true',bD,Bool.not_eq_false',bB]
 refine⟨fun _=>.refl _,fun h=>?_⟩
 have h0:dh n (fun i=>AV.int .i64 (z i)) 0:=⟨fun i=>rfl,aa,aa,aa⟩
 refine⟨⟨h0,afa⟩,⟨dQ,agD hp.of hg⟩,⟨hd1 h0,hd2 _ (hd1 h0),aa,aa,aa⟩,?_⟩
 unfold PE
 simp only[ag.all,az,bB,bD]
 refine⟨fun hl=>⟨hl,fun _=>?_,fun _=>hB _⟩,fun hl=>⟨hl,⟨fun h=>Bool.noConfusion h,fun _=>hB _⟩⟩⟩
 have q1:=Int.emod_nonneg i (show((dY cH p).length:Int)≠0 by omega)
 have q2:=Int.emod_lt_of_pos i (show 0<((dY cH p).length:Int) by omega)
 have q3:(i%((dY cH p).length:Int)).toNat<(dY cH p).length:=aa
 exact⟨⟨aa,aa,⟨q1,q3⟩,aa⟩,Lj aT (aje hp.of hg q3 M6) (.refl _)⟩
end Go.Am.B
