/- natural.trim. -/
import Derived.Test.YtolopdkjjlfgjaaGreatZ2
import Derived.Test.YtolopdkjjlfgjaaGreatNames
set_option linter.unusedVariables false
namespace Go.Am.B
open Go Go.Am.N AV Proofs.Tryz IntKind
theorem Og:bf 160 f160:=bg func160
theorem abc {n:Nat} {z:Nat->Nat}:aI T [] [] 30 [0,3] (before (aH f160) [1,1,0]) ⟨aU 0 [.ak 1 n (aB z)],[],0⟩=
  some (ag.leaf aq.normal ([AV.ak 1 n (aB z),AV.int .i64 (n:Int)],[])):=ah
theorem ajK {n k:Nat} {z:Nat->Nat}:aI T [] [8,15] 30 [0,3] [part (aH f160) [1,1,0,0,0]] ⟨[(0,.ak 1 n (aB z)),(3,.int .i64 k)],[],0⟩=
  some
 (ag.fork (decide ((k:Int)>0))
  (ag.aj
   [decide ((k:Int)>0)=true,
    0<=i64.wrap ((k:Int)-1)/\(i64.wrap ((k:Int)-1)).toNat<n]
   (ag.fork (bif true then((z (i64.wrap ((k:Int)-1)).toNat):Int)==0 else false)
    (ag.leaf aq.normal ([AV.ak 1 n (aB z),AV.int .i64 (i64.wrap ((k:Int)-1))],[]))
    (ag.leaf (aq.exit 0) ([AV.ak 1 n (aB z),AV.int .i64 (k:Int)],[]))))
  (ag.aj [decide ((k:Int)>0)=false]
   (ag.fork false (ag.leaf aq.normal ([AV.ak 1 n (aB z),AV.int .i64 (i64.wrap ((k:Int)-1))],[]))
    (ag.leaf (aq.exit 0) ([AV.ak 1 n (aB z),AV.int .i64 (k:Int)],[]))))):=ah
theorem ajV {n k:Nat} {z:Nat->Nat}:cQ T [] [] 30 f160 (behind (aH f160) [1,1,0]) ⟨[(0,.ak 1 n (aB z)),(3,.int .i64 k)],[],0⟩=
  some
 (ag.aj [(0:Int)<=0/\0<=(k:Int)/\(k:Int)<=(k:Int)/\(k:Int)<=(n:Int)]
  (ag.leaf aq.ret [AV.ak 1 ((k:Int).toNat-Int.toNat 0) fun i=>aB z (i+Int.toNat 0)])):=ah
theorem ai2 {n:Nat} {z:Nat->Nat} (K:Nat) (pre:aE):aQ P 160 K [.ak 1 n (aB z)] pre ⟨.mag (val n z),[],[n<2^62,∀i,i<n->z i<2^32]⟩:=by
 refine kO hT Og rfl aX rfl (fun need c h0=>?_) K pre
 obtain⟨hn,hz⟩:n<2^62/\∀i,i<n->z i<2^32:=need
 refine ax.hole [1,1,0] ah (aG.bO hT cz hm 30 [0,3] abc ah fun s' hv=>?_)
 refine ax.jj (i:=0) (y:=part (aH f160) [1,1,0,0,0]) ah (fun k:Nat=>⟨aC [0,3] [.ak 1 n (aB z),.int .i64 k],[],0⟩) (fun k=>k<=n/\∀i,k<=i->i<n->z i=0) id n
  (eG [] hv h0 rfl ⟨aS,aS,trivial⟩ trivial) ⟨aT,fun i h1 h2=>aa⟩ ?_
 rintro k ⟨hk,hzk⟩
 refine ax.bO hT cz hm 30 [0,3] ajK ah ?_
 have fin:(k=0\/z (k-1)≠0)->∀s',bE [0,3] s'=some ([.ak 1 n (aB z),.int .i64 k],[])->aG P c f160.ntmps (behind (aH f160) [1,1,0]) s' (Fin T f160 (.mag (val n z))):=by
  intro hk0 s' hv
  refine aG.weak ah (eG (vs:=[.ak 1 n (aB z),.int .i64 k]) (ps:=[]) (nx:=0) [] hv h0 rfl ⟨aS,aS,trivial⟩ trivial)
   (aG.fin hT cz hm 30 ajV ah ⟨⟨aa,aa,aa,aa⟩,?_⟩)
  have e:val n z=val k z:=ot hk hzk
  refine lT (by rw[e,Dd (fun i hi=>hz i aa) hk0];simp) fun i hi=>?_
  have hi':i<k:=by simpa using hi
  rw[e,qY (fun j hj=>hz j aa) hi']
  rfl
 have hw:0<k->i64.wrap ((k:Int)-1)=((k-1:Nat):Int):=fun h=>by rw[wrap_i64 aa aa];omega
 refine⟨fun hb=>?_,fun hb=>?_⟩
 ·have h1:0<k:=by simpa using hb
  rw[hw h1]
  refine⟨⟨hb,aa,by simp;omega⟩,fun hc s' hv=>?_,fun hc s' hv=>?_⟩
  ·refine⟨k-1,eG [] hv h0 rfl ⟨aS,aS,trivial⟩ trivial,⟨aa,fun i h1 h2=>?_⟩,by simp;omega⟩
   by_cases hi:i=k-1
   ·subst hi;simpa using hc
   ·exact hzk i aa h2
  ·exact fin (.inr (by simpa using hc)) s' hv
 ·have h1:k=0:=by simpa using hb
  refine⟨hb,fun hc=>by simp at hc,fun hc s' hv=>fin (.inl h1) s' hv⟩
def abV (N n:Nat):ep:=aL (.mag N) [n<2^62]
def G1:bk:=[(160,cu (mZ abV))]
theorem iT:bR P G1:=aJ (cW (u9 fun z n K hz need=>fun _=>ai2 K [] ⟨need,hz⟩)) cz
end Go.Am.B
