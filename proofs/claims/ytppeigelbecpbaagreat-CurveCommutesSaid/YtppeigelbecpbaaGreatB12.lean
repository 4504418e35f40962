/- natural.Div: the whole. -/
import Derived.Test.YtppeigelbecpbaaGreatB11
set_option linter.unusedVariables false
namespace Go.Am.B
open Go Go.Am.N AV
theorem aD.cat {P:Program} {c:Ctx} {nt:Nat} {Q:aj→aF→Prop}:∀{a b:List Code} {s:aF},aD P c nt a s (dz (fun s'=>aD P c nt b s' Q) Q)→aD P c nt (a++b) s Q
 |[],b,s,h=>h
 |x::a,b,s,h=>aq.mono h fun e s' h=>by
  cases e with
  |normal=>exact aD.cat (a:=a) h
  |exit i=>exact h
  |ret=>exact h
theorem aD.chunk {P:Program} {c:Ctx} {nt:Nat} {Q:aj→aF→Prop} {l:List Code} {s:aF} (k:Nat) (h:aD P c nt (l.take k) s (dz (fun s'=>aD P c nt (l.drop k) s' Q) Q)):aD P c nt l s Q:=by
 have:=aD.cat h
 rwa [List.take_append_drop]at this
theorem Ny {B s:Nat} (hB:B≠0) (hs:s=32-br (az B (nl B-1))):s<32∧nl (B*2^s)=nl B∧2^31≤az (B*2^s) (nl B-1)∧B*2^s<2^(32*nl B):=by
 have hp:=fY.2 hB
 have htop:=Cm hB
 have hlt:=de (N:=B) (i:=nl B-1)
 have hk:br (az B (nl B-1))≤32:=iI.2 hlt
 have hk0:0<br (az B (nl B-1)):=by unfold br;rw[if_neg htop];omega
 have h1:az B (nl B-1)<2^br (az B (nl B-1)):=iI.1 (Nat.le_refl _)
 have h2:2^(br (az B (nl B-1))-1)≤az B (nl B-1):=by
  rcases Nat.lt_or_ge (az B (nl B-1)) (2^(br (az B (nl B-1))-1))with h|h
  ·have:=iI.2 h;omega
  ·exact h
 have hBd:B=val (nl B-1) (az B)+az B (nl B-1)*2^(32*(nl B-1)):=by
  have:=fJ (N:=B)
  obtain⟨k,hk⟩:∃k,nl B=k+1:=⟨nl B-1,by omega⟩
  rw[hk,val]at this
  rw[hk,Nat.add_sub_cancel]
  exact this.symm
 have hlow:val (nl B-1) (az B)<2^(32*(nl B-1)):=fq fun i _=>de
 generalize hb1:az B (nl B-1)=b1 at*
 generalize hkd:br b1=k at*
 generalize hlo:val (nl B-1) (az B)=low at*
 have hT:0<2^(32*(nl B-1)):=Nat.two_pow_pos _
 have eT:2^(32*nl B)=2^32*2^(32*(nl B-1)):=by rw[←Nat.pow_add];congr 1;omega
 have hS:0<2^s:=Nat.two_pow_pos _
 have hks:2^k*2^s=2^32:=by rw[←Nat.pow_add];congr 1;omega
 have hks1:2^(k-1)*2^s=2^31:=by rw[←Nat.pow_add];congr 1;omega
 have hlo1:2^31≤b1*2^s:=by rw[←hks1];exact Nat.mul_le_mul_right _ h2
 have hhi1:(b1+1)*2^s≤2^32:=by rw[←hks];exact Nat.mul_le_mul_right _ h1
 obtain⟨T,hTd⟩:∃T,T=2^(32*(nl B-1)):=⟨_,rfl⟩
 rw[←hTd]at hT eT hBd hlow
 have hVlt:B*2^s<2^32*T:=by
  have a1:B<(b1+1)*T:=by rw[Nat.add_mul,Nat.one_mul];omega
  have a2:B*2^s<(b1+1)*T*2^s:=(Nat.mul_lt_mul_right hS).2 a1
  have a3:(b1+1)*T*2^s=(b1+1)*2^s*T:=by rw[Nat.mul_assoc,Nat.mul_comm T,←Nat.mul_assoc]
  have a4:(b1+1)*2^s*T≤2^32*T:=Nat.mul_le_mul_right _ hhi1
  omega
 have hVge:b1*2^s*T≤B*2^s:=by
  have a1:b1*T*2^s≤B*2^s:=Nat.mul_le_mul_right _ (by omega)
  have a3:b1*T*2^s=b1*2^s*T:=by rw[Nat.mul_assoc,Nat.mul_comm T,←Nat.mul_assoc]
  omega
 have hV31:2^31*T≤B*2^s:=Nat.le_trans (Nat.mul_le_mul_right _ hlo1) hVge
 refine⟨by omega,?_,?_,by rw[eT];exact hVlt⟩
 ·have a1:nl (B*2^s)≤nl B:=cT.2 (by rw[eT];exact hVlt)
  have a2:¬nl (B*2^s)≤nl B-1:=by
   rw[cT,←hTd]
   omega
  omega
 ·unfold az
  rw[←hTd]
  have a1:B*2^s/T<2^32:=by rw[Nat.div_lt_iff_lt_mul hT];exact hVlt
  have a2:2^31≤B*2^s/T:=by rw[Nat.le_div_iff_mul_le hT];exact hV31
  rw[Nat.mod_eq_of_lt a1];exact a2
section pieces
variable {c:Ctx} (h0:∀k x,c.k0 k=some x→k<9) {Q:aj→aF→Prop} {lq s lu V:Nat} {q u:Nat→Nat} {s':aF}
include h0 in
theorem Su {N:Nat} (hlu:lu=lq+nl V) (hlu2:lu<2^41) (hn:2≤nl V) (hnorm:2^31≤az V (nl V-1)) (hu:∀i,i<lu→u i<2^32) (hN:val lu u=N) (hlt:N<V*2^(32*lq))
  (hv:aX cN s'=some (ew lq s lu V ((lq:Int)-1),cz lq lu (fun _=>0) u))
  (fin:∀q u s',(∀i,i<lu→u i<2^32)→(∀i,i<lq→q i<2^32)→val lq q*V+val lu u=N→val lu u<V→aX cN s'=some (ew lq s lu V (-1),cz lq lu q u)→Q .normal s'):
  aq P c dI.ntmps (part (au dI) mP) s' Q:=by
 refine aq.gC (i:=1) (y:=xx) (by kernel_rfl) cN 9 h0 (fun p:Nat×(Nat→Nat)×(Nat→Nat)=>ew lq s lu V ((p.1:Int)-1)) (fun p=>cz lq lu p.2.1 p.2.2) (fun _=>rfl) (fun _=>iC)
  (fun p=>p.1≤lq∧(∀i,i<lu→p.2.2 i<2^32)∧(∀i,i<lq→p.2.1 i<2^32)∧(∀i,i<p.1→p.2.1 i=0)∧(∀i,p.1+nl V≤i→i<lu→p.2.2 i=0)∧val lq p.2.1*V+val (p.1+nl V) p.2.2=N∧val (p.1+nl V) p.2.2<V*2^(32*p.1))
  (fun p=>p.1) (lq,(fun _=>0),u) hv ⟨by simp,hu,fun i _=>by simp,fun i _=>rfl,fun i h1 h2=>by simp only at h1;omega,?_,?_⟩ ?_
 ·simp only;rw[val_zero fun _ _=>rfl,←hlu,hN];omega
 ·simp only;rw[←hlu,hN];exact hlt
 rintro⟨m,q,u⟩ ⟨hm',hu,hq,hq0,hu0,hval,hlt⟩
 simp only at hm' hu hq hq0 hu0 hval hlt
 refine aq.hole [1,0] (by kernel_rfl) (aD.bf hT je hm 60 cN agm (by kernel_rfl) ?_)
 simp only[aa.all,decide_eq_true_eq,decide_eq_false_iff_not]
 refine⟨fun hb s' hv=>?_,fun hb s' hv=>?_⟩
 ·obtain⟨j,rfl⟩:∃j,m=j+1:=⟨m-1,by omega⟩
  have hv:aX cN s'=some (ew lq s lu V (j:Nat),cz lq lu q u):=dm hv (by
   simp only[ew,List.cons.injEq,AV.int.injEq,and_true,true_and];omega) rfl
  have hsplit:=val_add (z:=u) (a:=j) (b:=nl V+1)
  rw[show j+(nl V+1)=j+1+nl V by omega]at hsplit
  have hBj:0<2^(32*j):=Nat.two_pow_pos _
  have hW:val (nl V+1) (fun i=>u (j+i))<V*4294967296:=by
   have e:V*2^(32*(j+1))=V*4294967296*2^(32*j):=by rw[gz,Nat.mul_assoc]
   rw[e]at hlt
   refine Nat.lt_of_mul_lt_mul_right (a:=2^(32*j)) ?_
   omega
  refine aq.ov (i:=2) (y:=oA) (by kernel_rfl) (aq.jD (nx:=9) hv h0 rfl iC ?_)
  refine ahK h0 hlu2 hn hnorm (by omega) (by omega) hu hW fun x u' s' hx hu' hout hsum hlt' hv=>?_
  show aD P c dI.ntmps (behind xx [1,0]) s' _
  refine aD.eH hT je hm 60 (nx:=9) hv h0 rfl iC cN V4 (by kernel_rfl) (by kernel_rfl) fun s' hv=>?_
  have hjl:val j u'=val j u:=val_congr fun i hi=>hout i (by omega)
  have hsplit':=val_add (z:=u') (a:=j) (b:=nl V+1)
  have hVl:V<2^(32*nl V):=mQ
  have htop0:u' (j+nl V)=0:=YV (z:=fun i=>u' (j+i)) (n:=nl V) (by omega)
  have hsplit2:=val_add (z:=u') (a:=j) (b:=nl V)
  have hw1:val (nl V+1) (fun i=>u' (j+i))=val (nl V) (fun i=>u' (j+i)):=by rw[val,htop0];simp
  have hjlt:val j u<2^(32*j):=fq fun i hi=>hu i (by omega)
  refine⟨(j,bU q j x,u'),dm hv ?_ rfl,⟨by simp only;omega,hu',gT hx hq,fun i hi=>?_,fun i h1 h2=>?_,?_,?_⟩,by simp only;omega⟩
  ·simp only[ew,List.cons.injEq,AV.int.injEq,and_true,true_and]
   rw[wrap_i64 (by omega) (by omega)]
  ·simp only at hi ⊢
   rw[fm (by omega)];exact hq0 i (by omega)
  ·simp only at h1
   show u' i=0
   by_cases hi:i=j+nl V
   ·subst hi;exact htop0
   ·rw[hout i (by omega)];exact hu0 i (by omega) h2
  ·simp only
   rw[qB (by omega) (hq0 j (by omega)),hsplit2,hjl,←hw1]
   rw[hsplit,←hsum]at hval
   rw[Nat.add_mul]at hval ⊢
   rw[show x*2^(32*j)*V=x*V*2^(32*j) by rw[Nat.mul_assoc,Nat.mul_comm (2^(32*j)),←Nat.mul_assoc]]
   omega
  ·simp only
   rw[hsplit2,hjl,←hw1]
   have:=Nat.mul_le_mul_right (2^(32*j)) hlt'
   rw[Nat.succ_mul]at this
   omega
 ·have hm0:m=0:=by omega
  subst hm0
  refine rq (eV (fin q u s' hu hq ?_ ?_ (dm hv rfl rfl)))
  ·rw[mV (k:=0+nl V) (by omega) hu0];exact hval
  ·rw[mV (k:=0+nl V) (by omega) hu0];simpa using hlt
theorem akg {x s:Nat} (h:s<32):(x:Int).fdiv (2^min ((s:Int).toNat) IntKind.u32.bits)=((x/2^s:Nat):Int):=by
 have:=AW (x:=x) (s:=(s:Int)) (by omega) (by omega)
 simpa using this
theorem UF {a b:Nat} (ha:a<2^32) (hb:b<2^32):
  IntKind.u32.wrap ((BitVec.ofInt IntKind.u32.bits (a:Int)|||BitVec.ofInt IntKind.u32.bits (b:Int)).toNat:Int)=((a|||b:Nat):Int):=by
 have e:(BitVec.ofInt IntKind.u32.bits (a:Int)|||BitVec.ofInt IntKind.u32.bits (b:Int)).toNat=a|||b:=by
  rw[BitVec.toNat_or,BitVec.ofInt_natCast,BitVec.ofInt_natCast,BitVec.toNat_ofNat,BitVec.toNat_ofNat]
  rw[show IntKind.u32.bits=32 from rfl,Nat.mod_eq_of_lt ha,Nat.mod_eq_of_lt hb]
 rw[e]
 have:a|||b<2^32:=Nat.or_lt_two_pow ha hb
 exact wrap_u32 (by omega) (by omega)
theorem Zk {a b s:Nat} (hs:s<32) (ha:a<2^32):IntKind.u32.wrap ((BitVec.ofInt IntKind.u32.bits ((a/2^s:Nat):Int)|||BitVec.ofInt IntKind.u32.bits (IntKind.u32.wrap ((b:Int)*2^min (32-s) IntKind.u32.bits))).toNat:Int)=
  ((a/2^s+b%2^s*2^(32-s):Nat):Int):=by
 have hB:2^32=2^s*2^(32-s):=by rw[←Nat.pow_add];congr 1;omega
 have h1:a/2^s<2^(32-s):=by
  rw[Nat.div_lt_iff_lt_mul (Nat.two_pow_pos _),Nat.mul_comm,←hB];exact ha
 have e1:IntKind.u32.wrap ((b:Int)*2^min (32-s) IntKind.u32.bits)=((b%2^s*2^(32-s):Nat):Int):=by
  rw[show IntKind.u32.bits=32 from rfl,Nat.min_eq_left (by omega)]
  rw[show(b:Int)*2^(32-s)=((b*2^(32-s):Nat):Int) by simp,jr]
  congr 1
  rw[hB,Nat.mul_comm (2^s),Nat.mul_comm b,Nat.mul_mod_mul_left,Nat.mul_comm]
 have h2:b%2^s*2^(32-s)<2^32:=by
  rw[hB]
  exact(Nat.mul_lt_mul_right (Nat.two_pow_pos _)).2 (Nat.mod_lt _ (Nat.two_pow_pos _))
 have h3:a/2^s<2^32:=Nat.lt_of_le_of_lt (Nat.div_le_self _ _) ha
 rw[e1,UF h3 h2]
 congr 1
 rw[Nat.or_comm,rM h1,Nat.add_comm]
abbrev lM:List Nat:=[4,5,9,261,262]
abbrev rQ (lq s l i:Nat):List AV:=[.own 8 1 0 lq,.own 7 1 0 l,.int .i64 s,.int .i64 l,.int .i64 (i:Nat)]
include h0 in
theorem Xy {l R:Nat} (hs:s<32) (hlu:lu<2^41) (hl:nl R=l) (hl2:l≤lu) (hu:∀i,i<lu→u i<2^32) (hR:∀i,i<l→u i=az R i)
  (hv:aX lM s'=some (rQ lq s l 0,cz lq lu q u))
  (fin:∀w s',(∀i,i<lu→w i<2^32)→val l w=R/2^s→aX lM s'=some (rQ lq s l l,cz lq lu q w)→Q .normal s'):
  aq P c dI.ntmps (part kY [1,0,1]) s' Q:=by
 refine aq.gC (i:=9) (y:=part kY [1,0,1,0,0]) (by kernel_rfl) lM 9 h0 (fun p:Nat×(Nat→Nat)=>rQ lq s l p.1) (fun p=>cz lq lu q p.2) (fun _=>rfl) (fun _=>iC)
  (fun p=>p.1≤l∧(∀i,i<lu→p.2 i<2^32)∧(∀i,i<p.1→p.2 i=az (R/2^s) i)∧(∀i,p.1≤i→p.2 i=u i))
  (fun p=>l-p.1) (0,u) hv ⟨by simp,hu,fun i hi=>by simp only at hi;omega,fun i _=>rfl⟩ ?_
 rintro⟨i,w⟩ ⟨hi,hw,hdone,hrest⟩
 simp only at hi hw hdone hrest
 refine aq.hole [1,1,0] (by kernel_rfl) (aD.bf hT Ax hm 60 lM afz (by kernel_rfl) ?_)
 simp only[aa.all,decide_eq_true_eq,decide_eq_false_iff_not]
 refine⟨fun hb s' hv=>?_,fun hb s' hv=>?_⟩
 ·have hil:i<l:=by omega
  have hwi:w i=az R i:=by rw[hrest i (by omega),hR i hil]
  refine aq.ov (i:=10) (y:=part kY [1,0,1,0,0,1,1,0,0]) (by kernel_rfl) (aq.jD (nx:=9) hv h0 rfl iC ?_)
  refine aq.hole [1,1] (by kernel_rfl) (aD.bf hT Ax hm 60 [4,5,9,25,261,262] Zs (by kernel_rfl) ?_)
  rw[akg hs]
  simp only[aa.all,ax,Int.toNat_natCast,Nat.add_zero,beq_iff_eq]
  refine⟨⟨by omega,by omega,by omega,by omega,by omega⟩,fun s' hv=>?_⟩
  have hset:(fun j=>if j=i then AV.int .u32 ((w i/2^s:Nat):Int)else ay w j)=ay (bU w i (w i/2^s)):=by
   funext k;exact gu rfl k
  rw[hset]at hv
  have hw1:∀k,k<lu→bU w i (w i/2^s) k<2^32:=gT (Nat.lt_of_le_of_lt (Nat.div_le_self _ _) (hw i (by omega))) hw
  have next:∀{w':Nat→Nat} {s':aF} {Q':aj→aF→Prop},(∀k,k<lu→w' k<2^32)→w' i=az (R/2^s) i→(∀k,k≠i→w' k=w k)→aX lM s'=some (rQ lq s l i,cz lq lu q w')→
    aD P c dI.ntmps (behind (part kY [1,0,1,0,0]) [1,1,0]) s' (dz (fun s'=>∃k:Nat×(Nat→Nat),aX lM s'=some (rQ lq s l k.1,cz lq lu q k.2)∧(k.1≤l∧(∀i,i<lu→k.2 i<2^32)∧(∀i,i<k.1→k.2 i=az (R/2^s) i)∧(∀i,k.1≤i→k.2 i=u i))∧l-k.1<l-i) Q'):=by
   intro w' s' Q' h1 h2 h3 hv
   refine aD.eH hT Ax hm 60 (nx:=9) hv h0 rfl iC lM ae9 (by kernel_rfl) (by kernel_rfl) fun s' hv=>?_
   refine⟨(i+1,w'),dm hv ?_ rfl,⟨by simp only;omega,h1,fun k hk=>?_,fun k hk=>?_⟩,by simp only;omega⟩
   ·rw[ef (a:=(i:Int)+1) (n:=i+1) (by omega) (by omega)]
   ·simp only at hk ⊢
    by_cases hki:k=i
    ·rw[hki];exact h2
    ·rw[h3 k hki];exact hdone k (by omega)
   ·simp only at hk ⊢
    rw[h3 k (by omega)];exact hrest k (by omega)
  refine aq.eH hT Ax hm 60 (nx:=9) hv h0 rfl iC lM Ub (by kernel_rfl) ?_
  have w1:IntKind.i64.wrap ((i:Int)+1)=((i+1:Nat):Int):=ef (by omega) (by omega)
  have w2:IntKind.i64.wrap (32-(s:Int))=((32-s:Nat):Int):=ef (by omega) (by omega)
  rw[w1,w2]
  simp only[Int.toNat_natCast,Nat.add_zero,jM]
  rw[Zk hs (hw i (by omega))]
  have e1:bU w i (w i/2^s) (i+1)=w (i+1):=fm (by omega)
  rw[e1]
  have same:az R (i+1)%2^s=0→∀{s':aF},aX lM s'=some (rQ lq s l i,cz lq lu q (bU w i (w i/2^s)))→∀{Q':aj→aF→Prop},aD P c dI.ntmps (behind (part kY [1,0,1,0,0]) [1,1,0]) s' (dz (fun s'=>∃k:Nat×(Nat→Nat),aX lM s'=some (rQ lq s l k.1,cz lq lu q k.2)∧(k.1≤l∧(∀i,i<lu→k.2 i<2^32)∧(∀i,i<k.1→k.2 i=az (R/2^s) i)∧(∀i,k.1≤i→k.2 i=u i))∧l-k.1<l-i) Q'):=by
   intro h s' hv Q'
   refine next hw1 ?_ (fun k hk=>fm hk) hv
   rw[jM,A5 hs,h,hwi];simp
  refine⟨fun h1=>⟨h1,fun h2=>?_,fun h2 s' hv=>?_⟩,fun h1=>⟨h1,fun h2=>by simp at h2,fun h2 s' hv=>?_⟩⟩
  ·have h2':i+1<l:=by
    have:=of_decide_eq_true (show decide (((i+1:Nat):Int)<(l:Int))=true from h2)
    omega
   simp only[aa.all,ax,beq_iff_eq]
   refine⟨⟨by omega,by omega,by omega,by omega,by omega,by omega,by omega⟩,fun s' hv=>?_⟩
   have hset2:(fun j=>if j=i then AV.int .u32 ((w i/2^s+w (i+1)%2^s*2^(32-s):Nat):Int)else ay (bU w i (w i/2^s)) j)=ay (bU w i (w i/2^s+w (i+1)%2^s*2^(32-s))):=by
    funext k
    unfold ay bU
    by_cases hk:k=i
    ·simp[hk]
    ·simp[hk]
   rw[hset2]at hv
   have hwi1:w (i+1)=az R (i+1):=by rw[hrest _ (by omega),hR _ h2']
   have hval:w i/2^s+w (i+1)%2^s*2^(32-s)=az (R/2^s) i:=by rw[A5 hs,hwi,hwi1]
   refine next (gT (by rw[hval];exact de) hw) ?_ (fun k hk=>fm hk) hv
   rw[jM];exact hval
  ·refine same ?_ hv
   have h2':¬i+1<l:=by
    have:=of_decide_eq_false (show decide (((i+1:Nat):Int)<(l:Int))=false from h2)
    omega
   have hR0:R<2^(32*(i+1)):=cT.1 (by omega)
   unfold az
   rw[Nat.div_eq_of_lt hR0];simp
  ·have:s=0:=by
    have:=of_decide_eq_false h1
    omega
   refine same ?_ hv
   subst this
   simp[Nat.mod_one]
 ·have hil:i=l:=by omega
  subst hil
  refine rq (eV (fin w s' hw ?_ hv))
  rw[val_congr hdone,oQ]
  exact Nat.lt_of_le_of_lt (Nat.div_le_self _ _) (cT.1 (by omega))
end pieces
end Go.Am.B
