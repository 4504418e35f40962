/- natural.Div: the whole. -/
import Derived.Test.YtppeigelbecpbaaGreatB11
set_option linter.unusedVariables false
namespace Go.Am.B
open Go Go.Am.N AV
theorem aC.cat {P:Program} {c:Ctx} {nt:Nat} {Q:ah→aE→Prop}:∀{a b:List Code} {s:aE},aC P c nt a s (cK (fun s'=>aC P c nt b s' Q) Q)→aC P c nt (a++b) s Q
 |[],b,s,h=>h
 |x::a,b,s,h=>aj.mono h fun e s' h=>by
  cases e with
  |normal=>exact aC.cat (a:=a) h
  |exit i=>exact h
  |ret=>exact h
theorem aC.chunk {P:Program} {c:Ctx} {nt:Nat} {Q:ah→aE→Prop} {l:List Code} {s:aE} (k:Nat) (h:aC P c nt (l.take k) s (cK (fun s'=>aC P c nt (l.drop k) s' Q) Q)):aC P c nt l s Q:=by
 have:=aC.cat h
 rwa [List.take_append_drop]at this
theorem FH {B s:Nat} (hB:B≠0) (hs:s=32-aY (ay B (nl B-1))):s<32∧nl (B*2^s)=nl B∧2^31≤ay (B*2^s) (nl B-1)∧B*2^s<2^(32*nl B):=by
 have hp:=eL.2 hB
 have htop:=xU hB
 have hlt:=cA (N:=B) (i:=nl B-1)
 have hk:aY (ay B (nl B-1))≤32:=gp.2 hlt
 have hk0:0<aY (ay B (nl B-1)):=by unfold aY;rw[if_neg htop];omega
 have h1:ay B (nl B-1)<2^aY (ay B (nl B-1)):=gp.1 (Nat.le_refl _)
 have h2:2^(aY (ay B (nl B-1))-1)≤ay B (nl B-1):=by
  rcases Nat.lt_or_ge (ay B (nl B-1)) (2^(aY (ay B (nl B-1))-1))with h|h
  ·have:=gp.2 h;omega
  ·exact h
 have hBd:B=val (nl B-1) (ay B)+ay B (nl B-1)*2^(32*(nl B-1)):=by
  have:=ep (N:=B)
  obtain⟨k,hk⟩:∃k,nl B=k+1:=⟨nl B-1,by omega⟩
  rw[hk,val]at this
  rw[hk,Nat.add_sub_cancel]
  exact this.symm
 have hlow:val (nl B-1) (ay B)<2^(32*(nl B-1)):=ec fun i _=>cA
 generalize hb1:ay B (nl B-1)=b1 at*
 generalize hkd:aY b1=k at*
 generalize hlo:val (nl B-1) (ay B)=low at*
 have hT:0<2^(32*(nl B-1)):=Nat.two_pow_pos _
 have eT:2^(32*nl B)=2^32*2^(32*(nl B-1)):=by rw[←Nat.pow_add];congr 1;omega
 have hS:0<2^s:=Nat.two_pow_pos _
 have hks:2^k*2^s=2^32:=by rw[←Nat.pow_add];congr 1;omega
 have hks1:2^(k-1)*2^s=2^31:=by rw[←Nat.pow_add];congr 1;omega
 have hlo1:2^31≤b1*2^s:=by rw[←hks1];exact Nat.mul_le_mul_right _ h2
 have hhi1:(b1+1)*2^s≤2^32:=by rw[←hks];exact Nat.mul_le_mul_right _ h1
 obtain⟨T,hTd⟩:∃T,T=2^(32*(nl B-1)):=⟨_,rfl⟩
 rw[←hTd]at hT eT hBd hlow
 have hVlt:B*2^s<2^32*T:=by
  have a1:B<(b1+1)*T:=by rw[Nat.add_mul,Nat.one_mul];omega
  have a2:B*2^s<(b1+1)*T*2^s:=(Nat.mul_lt_mul_right hS).2 a1
  have a3:(b1+1)*T*2^s=(b1+1)*2^s*T:=by rw[Nat.mul_assoc,Nat.mul_comm T,←Nat.mul_assoc]
  have a4:(b1+1)*2^s*T≤2^32*T:=Nat.mul_le_mul_right _ hhi1
  omega
 have hVge:b1*2^s*T≤B*2^s:=by
  have a1:b1*T*2^s≤B*2^s:=Nat.mul_le_mul_right _ (by omega)
  have a3:b1*T*2^s=b1*2^s*T:=by rw[Nat.mul_assoc,Nat.mul_comm T,←Nat.mul_assoc]
  omega
 have hV31:2^31*T≤B*2^s:=Nat.le_trans (Nat.mul_le_mul_right _ hlo1) hVge
 refine⟨by omega,?_,?_,by rw[eT];exact hVlt⟩
 ·have a1:nl (B*2^s)≤nl B:=cq.2 (by rw[eT];exact hVlt)
  have a2:¬nl (B*2^s)≤nl B-1:=by
   rw[cq,←hTd]
   omega
  omega
 ·unfold ay
  rw[←hTd]
  have a1:B*2^s/T<2^32:=by rw[Nat.div_lt_iff_lt_mul hT];exact hVlt
  have a2:2^31≤B*2^s/T:=by rw[Nat.le_div_iff_mul_le hT];exact hV31
  rw[Nat.mod_eq_of_lt a1];exact a2
section pieces
variable {c:Ctx} (h0:∀k x,c.k0 k=some x→k<9) {Q:ah→aE→Prop} {lq s lu V:Nat} {q u:Nat→Nat} {s':aE}
include h0 in
theorem WS {N:Nat} (hlu:lu=lq+nl V) (hlu2:lu<2^41) (hn:2≤nl V) (hnorm:2^31≤ay V (nl V-1)) (hu:∀i,i<lu→u i<2^32) (hN:val lu u=N) (hlt:N<V*2^(32*lq))
  (hv:aR ck s'=some (dj lq s lu V ((lq:Int)-1),bZ lq lu (fun _=>0) u))
  (fin:∀q u s',(∀i,i<lu→u i<2^32)→(∀i,i<lq→q i<2^32)→val lq q*V+val lu u=N→val lu u<V→aR ck s'=some (dj lq s lu V (-1),bZ lq lu q u)→Q .normal s'):
  aj P c cN.ntmps (part (au cN) jU) s' Q:=by
 refine aj.fl (i:=1) (y:=uO) (by kernel_rfl) ck 9 h0 (fun p:Nat×(Nat→Nat)×(Nat→Nat)=>dj lq s lu V ((p.1:Int)-1)) (fun p=>bZ lq lu p.2.1 p.2.2) (fun _=>rfl) (fun _=>gd)
  (fun p=>p.1≤lq∧(∀i,i<lu→p.2.2 i<2^32)∧(∀i,i<lq→p.2.1 i<2^32)∧(∀i,i<p.1→p.2.1 i=0)∧(∀i,p.1+nl V≤i→i<lu→p.2.2 i=0)∧val lq p.2.1*V+val (p.1+nl V) p.2.2=N∧val (p.1+nl V) p.2.2<V*2^(32*p.1))
  (fun p=>p.1) (lq,(fun _=>0),u) hv ⟨by simp,hu,fun i _=>by simp,fun i _=>rfl,fun i h1 h2=>by simp only at h1;omega,?_,?_⟩ ?_
 ·simp only;rw[val_zero fun _ _=>rfl,←hlu,hN];omega
 ·simp only;rw[←hlu,hN];exact hlt
 rintro⟨m,q,u⟩ ⟨hm',hu,hq,hq0,hu0,hval,hlt⟩
 simp only at hm' hu hq hq0 hu0 hval hlt
 refine aj.hole [1,0] (by kernel_rfl) (aC.aV hT gz hm 60 ck Lp (by kernel_rfl) ?_)
 simp only[aa.all,decide_eq_true_eq,decide_eq_false_iff_not]
 refine⟨fun hb s' hv=>?_,fun hb s' hv=>?_⟩
 ·obtain⟨j,rfl⟩:∃j,m=j+1:=⟨m-1,by omega⟩
  have hv:aR ck s'=some (dj lq s lu V (j:Nat),bZ lq lu q u):=cC hv (by
   simp only[dj,List.cons.injEq,AV.int.injEq,and_true,true_and];omega) rfl
  have hsplit:=val_add (z:=u) (a:=j) (b:=nl V+1)
  rw[show j+(nl V+1)=j+1+nl V by omega]at hsplit
  have hBj:0<2^(32*j):=Nat.two_pow_pos _
  have hW:val (nl V+1) (fun i=>u (j+i))<V*4294967296:=by
   have e:V*2^(32*(j+1))=V*4294967296*2^(32*j):=by rw[fm,Nat.mul_assoc]
   rw[e]at hlt
   refine Nat.lt_of_mul_lt_mul_right (a:=2^(32*j)) ?_
   omega
  refine aj.mq (i:=2) (y:=lN) (by kernel_rfl) (aj.gY (nx:=9) hv h0 rfl gd ?_)
  refine Q9 h0 hlu2 hn hnorm (by omega) (by omega) hu hW fun x u' s' hx hu' hout hsum hlt' hv=>?_
  show aC P c cN.ntmps (behind uO [1,0]) s' _
  refine aC.dB hT gz hm 60 (nx:=9) hv h0 rfl gd ck WH (by kernel_rfl) (by kernel_rfl) fun s' hv=>?_
  have hjl:val j u'=val j u:=val_congr fun i hi=>hout i (by omega)
  have hsplit':=val_add (z:=u') (a:=j) (b:=nl V+1)
  have hVl:V<2^(32*nl V):=jL
  have htop0:u' (j+nl V)=0:=Yu (z:=fun i=>u' (j+i)) (n:=nl V) (by omega)
  have hsplit2:=val_add (z:=u') (a:=j) (b:=nl V)
  have hw1:val (nl V+1) (fun i=>u' (j+i))=val (nl V) (fun i=>u' (j+i)):=by rw[val,htop0];simp
  have hjlt:val j u<2^(32*j):=ec fun i hi=>hu i (by omega)
  refine⟨(j,bG q j x,u'),cC hv ?_ rfl,⟨by simp only;omega,hu',fJ hx hq,fun i hi=>?_,fun i h1 h2=>?_,?_,?_⟩,by simp only;omega⟩
  ·simp only[dj,List.cons.injEq,AV.int.injEq,and_true,true_and]
   rw[wrap_i64 (by omega) (by omega)]
  ·simp only at hi ⊢
   rw[dX (by omega)];exact hq0 i (by omega)
  ·simp only at h1
   show u' i=0
   by_cases hi:i=j+nl V
   ·subst hi;exact htop0
   ·rw[hout i (by omega)];exact hu0 i (by omega) h2
  ·simp only
   rw[mT (by omega) (hq0 j (by omega)),hsplit2,hjl,←hw1]
   rw[hsplit,←hsum]at hval
   rw[Nat.add_mul]at hval ⊢
   rw[show x*2^(32*j)*V=x*V*2^(32*j) by rw[Nat.mul_assoc,Nat.mul_comm (2^(32*j)),←Nat.mul_assoc]]
   omega
  ·simp only
   rw[hsplit2,hjl,←hw1]
   have:=Nat.mul_le_mul_right (2^(32*j)) hlt'
   rw[Nat.succ_mul]at this
   omega
 ·have hm0:m=0:=by omega
  subst hm0
  refine nr (dM (fin q u s' hu hq ?_ ?_ (cC hv rfl rfl)))
  ·rw[jC (k:=0+nl V) (by omega) hu0];exact hval
  ·rw[jC (k:=0+nl V) (by omega) hu0];simpa using hlt
theorem Q0 {x s:Nat} (h:s<32):(x:Int).fdiv (2^min ((s:Int).toNat) IntKind.u32.bits)=((x/2^s:Nat):Int):=by
 have:=qD (x:=x) (s:=(s:Int)) (by omega) (by omega)
 simpa using this
theorem YG {a b:Nat} (ha:a<2^32) (hb:b<2^32):
  IntKind.u32.wrap ((BitVec.ofInt IntKind.u32.bits (a:Int)|||BitVec.ofInt IntKind.u32.bits (b:Int)).toNat:Int)=((a|||b:Nat):Int):=by
 have e:(BitVec.ofInt IntKind.u32.bits (a:Int)|||BitVec.ofInt IntKind.u32.bits (b:Int)).toNat=a|||b:=by
  rw[BitVec.toNat_or,BitVec.ofInt_natCast,BitVec.ofInt_natCast,BitVec.toNat_ofNat,BitVec.toNat_ofNat]
  rw[show IntKind.u32.bits=32 from rfl,Nat.mod_eq_of_lt ha,Nat.mod_eq_of_lt hb]
 rw[e]
 have:a|||b<2^32:=Nat.or_lt_two_pow ha hb
 exact wrap_u32 (by omega) (by omega)
theorem Ml {a b s:Nat} (hs:s<32) (ha:a<2^32):IntKind.u32.wrap ((BitVec.ofInt IntKind.u32.bits ((a/2^s:Nat):Int)|||BitVec.ofInt IntKind.u32.bits (IntKind.u32.wrap ((b:Int)*2^min (32-s) IntKind.u32.bits))).toNat:Int)=
  ((a/2^s+b%2^s*2^(32-s):Nat):Int):=by
 have hB:2^32=2^s*2^(32-s):=by rw[←Nat.pow_add];congr 1;omega
 have h1:a/2^s<2^(32-s):=by
  rw[Nat.div_lt_iff_lt_mul (Nat.two_pow_pos _),Nat.mul_comm,←hB];exact ha
 have e1:IntKind.u32.wrap ((b:Int)*2^min (32-s) IntKind.u32.bits)=((b%2^s*2^(32-s):Nat):Int):=by
  rw[show IntKind.u32.bits=32 from rfl,Nat.min_eq_left (by omega)]
  rw[show(b:Int)*2^(32-s)=((b*2^(32-s):Nat):Int) by simp,gN]
  congr 1
  rw[hB,Nat.mul_comm (2^s),Nat.mul_comm b,Nat.mul_mod_mul_left,Nat.mul_comm]
 have h2:b%2^s*2^(32-s)<2^32:=by
  rw[hB]
  exact(Nat.mul_lt_mul_right (Nat.two_pow_pos _)).2 (Nat.mod_lt _ (Nat.two_pow_pos _))
 have h3:a/2^s<2^32:=Nat.lt_of_le_of_lt (Nat.div_le_self _ _) ha
 rw[e1,YG h3 h2]
 congr 1
 rw[Nat.or_comm,mV h1,Nat.add_comm]
abbrev jn:List Nat:=[4,5,9,261,262]
abbrev nP (lq s l i:Nat):List AV:=[.own 8 1 0 lq,.own 7 1 0 l,.int .i64 s,.int .i64 l,.int .i64 (i:Nat)]
include h0 in
theorem W4 {l R:Nat} (hs:s<32) (hlu:lu<2^41) (hl:nl R=l) (hl2:l≤lu) (hu:∀i,i<lu→u i<2^32) (hR:∀i,i<l→u i=ay R i)
  (hv:aR jn s'=some (nP lq s l 0,bZ lq lu q u))
  (fin:∀w s',(∀i,i<lu→w i<2^32)→val l w=R/2^s→aR jn s'=some (nP lq s l l,bZ lq lu q w)→Q .normal s'):
  aj P c cN.ntmps (part iR [1,0,1]) s' Q:=by
 refine aj.fl (i:=9) (y:=part iR [1,0,1,0,0]) (by kernel_rfl) jn 9 h0 (fun p:Nat×(Nat→Nat)=>nP lq s l p.1) (fun p=>bZ lq lu q p.2) (fun _=>rfl) (fun _=>gd)
  (fun p=>p.1≤l∧(∀i,i<lu→p.2 i<2^32)∧(∀i,i<p.1→p.2 i=ay (R/2^s) i)∧(∀i,p.1≤i→p.2 i=u i))
  (fun p=>l-p.1) (0,u) hv ⟨by simp,hu,fun i hi=>by simp only at hi;omega,fun i _=>rfl⟩ ?_
 rintro⟨i,w⟩ ⟨hi,hw,hdone,hrest⟩
 simp only at hi hw hdone hrest
 refine aj.hole [1,1,0] (by kernel_rfl) (aC.aV hT vk hm 60 jn Qz (by kernel_rfl) ?_)
 simp only[aa.all,decide_eq_true_eq,decide_eq_false_iff_not]
 refine⟨fun hb s' hv=>?_,fun hb s' hv=>?_⟩
 ·have hil:i<l:=by omega
  have hwi:w i=ay R i:=by rw[hrest i (by omega),hR i hil]
  refine aj.mq (i:=10) (y:=part iR [1,0,1,0,0,1,1,0,0]) (by kernel_rfl) (aj.gY (nx:=9) hv h0 rfl gd ?_)
  refine aj.hole [1,1] (by kernel_rfl) (aC.aV hT vk hm 60 [4,5,9,25,261,262] R5 (by kernel_rfl) ?_)
  rw[Q0 hs]
  simp only[aa.all,az,Int.toNat_natCast,Nat.add_zero,beq_iff_eq]
  refine⟨⟨by omega,by omega,by omega,by omega,by omega⟩,fun s' hv=>?_⟩
  have hset:(fun j=>if j=i then AV.int .u32 ((w i/2^s:Nat):Int)else ax w j)=ax (bG w i (w i/2^s)):=by
   funext k;exact e9 rfl k
  rw[hset]at hv
  have hw1:∀k,k<lu→bG w i (w i/2^s) k<2^32:=fJ (Nat.lt_of_le_of_lt (Nat.div_le_self _ _) (hw i (by omega))) hw
  have next:∀{w':Nat→Nat} {s':aE} {Q':ah→aE→Prop},(∀k,k<lu→w' k<2^32)→w' i=ay (R/2^s) i→(∀k,k≠i→w' k=w k)→aR jn s'=some (nP lq s l i,bZ lq lu q w')→
    aC P c cN.ntmps (behind (part iR [1,0,1,0,0]) [1,1,0]) s' (cK (fun s'=>∃k:Nat×(Nat→Nat),aR jn s'=some (nP lq s l k.1,bZ lq lu q k.2)∧(k.1≤l∧(∀i,i<lu→k.2 i<2^32)∧(∀i,i<k.1→k.2 i=ay (R/2^s) i)∧(∀i,k.1≤i→k.2 i=u i))∧l-k.1<l-i) Q'):=by
   intro w' s' Q' h1 h2 h3 hv
   refine aC.dB hT vk hm 60 (nx:=9) hv h0 rfl gd jn S5 (by kernel_rfl) (by kernel_rfl) fun s' hv=>?_
   refine⟨(i+1,w'),cC hv ?_ rfl,⟨by simp only;omega,h1,fun k hk=>?_,fun k hk=>?_⟩,by simp only;omega⟩
   ·rw[cY (a:=(i:Int)+1) (n:=i+1) (by omega) (by omega)]
   ·simp only at hk ⊢
    by_cases hki:k=i
    ·rw[hki];exact h2
    ·rw[h3 k hki];exact hdone k (by omega)
   ·simp only at hk ⊢
    rw[h3 k (by omega)];exact hrest k (by omega)
  refine aj.dB hT vk hm 60 (nx:=9) hv h0 rfl gd jn W9 (by kernel_rfl) ?_
  have w1:IntKind.i64.wrap ((i:Int)+1)=((i+1:Nat):Int):=cY (by omega) (by omega)
  have w2:IntKind.i64.wrap (32-(s:Int))=((32-s:Nat):Int):=cY (by omega) (by omega)
  rw[w1,w2]
  simp only[Int.toNat_natCast,Nat.add_zero,gX]
  rw[Ml hs (hw i (by omega))]
  have e1:bG w i (w i/2^s) (i+1)=w (i+1):=dX (by omega)
  rw[e1]
  have same:ay R (i+1)%2^s=0→∀{s':aE},aR jn s'=some (nP lq s l i,bZ lq lu q (bG w i (w i/2^s)))→∀{Q':ah→aE→Prop},aC P c cN.ntmps (behind (part iR [1,0,1,0,0]) [1,1,0]) s' (cK (fun s'=>∃k:Nat×(Nat→Nat),aR jn s'=some (nP lq s l k.1,bZ lq lu q k.2)∧(k.1≤l∧(∀i,i<lu→k.2 i<2^32)∧(∀i,i<k.1→k.2 i=ay (R/2^s) i)∧(∀i,k.1≤i→k.2 i=u i))∧l-k.1<l-i) Q'):=by
   intro h s' hv Q'
   refine next hw1 ?_ (fun k hk=>dX hk) hv
   rw[gX,sC hs,h,hwi];simp
  refine⟨fun h1=>⟨h1,fun h2=>?_,fun h2 s' hv=>?_⟩,fun h1=>⟨h1,fun h2=>by simp at h2,fun h2 s' hv=>?_⟩⟩
  ·have h2':i+1<l:=by
    have:=of_decide_eq_true (show decide (((i+1:Nat):Int)<(l:Int))=true from h2)
    omega
   simp only[aa.all,az,beq_iff_eq]
   refine⟨⟨by omega,by omega,by omega,by omega,by omega,by omega,by omega⟩,fun s' hv=>?_⟩
   have hset2:(fun j=>if j=i then AV.int .u32 ((w i/2^s+w (i+1)%2^s*2^(32-s):Nat):Int)else ax (bG w i (w i/2^s)) j)=ax (bG w i (w i/2^s+w (i+1)%2^s*2^(32-s))):=by
    funext k
    unfold ax bG
    by_cases hk:k=i
    ·simp[hk]
    ·simp[hk]
   rw[hset2]at hv
   have hwi1:w (i+1)=ay R (i+1):=by rw[hrest _ (by omega),hR _ h2']
   have hval:w i/2^s+w (i+1)%2^s*2^(32-s)=ay (R/2^s) i:=by rw[sC hs,hwi,hwi1]
   refine next (fJ (by rw[hval];exact cA) hw) ?_ (fun k hk=>dX hk) hv
   rw[gX];exact hval
  ·refine same ?_ hv
   have h2':¬i+1<l:=by
    have:=of_decide_eq_false (show decide (((i+1:Nat):Int)<(l:Int))=false from h2)
    omega
   have hR0:R<2^(32*(i+1)):=cq.1 (by omega)
   unfold ay
   rw[Nat.div_eq_of_lt hR0];simp
  ·have:s=0:=by
    have:=of_decide_eq_false h1
    omega
   refine same ?_ hv
   subst this
   simp[Nat.mod_one]
 ·have hil:i=l:=by omega
  subst hil
  refine nr (dM (fin w s' hw ?_ hv))
  rw[val_congr hdone,lW]
  exact Nat.lt_of_le_of_lt (Nat.div_le_self _ _) (cq.1 (by omega))
end pieces
end Go.Am.B
