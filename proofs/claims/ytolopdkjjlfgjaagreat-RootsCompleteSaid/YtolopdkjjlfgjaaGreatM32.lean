/- brepkernellaw06.RootsDivisors. -/
import Derived.Test.YtolopdkjjlfgjaaGreatM31
import Derived.Test.YtolopdkjjlfgjaaGreatY43
set_option linter.unusedVariables false
namespace Go.Am.B
open Go Go.Am.N AV af ak IntKind
theorem Nc {q:PP} (h:1<=q.1) (t:Rat):aC (aJ q) t=er q t:=by
 rw[<-kV h];exact qY
theorem RQ {q:PP}:Trim (aJ q):=k8
theorem abH (n:Nat):1<=mz n:=by unfold mz;split<;>omega
theorem aep {a:PP} (t:Rat):er (sk a) t=aC a t:=by
 show cs (mz a.1-1) (qn a.1 a.2) t=_
 by_cases h0:a.1=0
 ·rw[iO h0]
  unfold mz qn
  rw[if_pos h0]
  show(if a.1=0 then(0:Rat)else _)=0
  rw[if_pos h0]
 ·unfold mz
  rw[if_neg h0,show qn a.1 a.2=eJ a.1 a.2 from funext fun i=>if_neg h0]
  obtain⟨m,hm⟩:∃m,a.1=m+1:=⟨a.1-1,aa⟩
  show cs (a.1-1) (eJ a.1 a.2) t=ev a.1 a.2 t
  rw[hm];exact XM
theorem Qh {a:PP} (ha:Trim a) (h:∀t,aC a t=0):a.1=0:=by
 have h1:=tK (b:=(0,fun _=>0)) ha (p6 fun t=>by rw[h,iO rfl])
 exact Nat.le_zero.1 h1
theorem XH {q:PP} (h:1<=q.1):ve q=true↔(aJ q).1=0:=by
 constructor
 ·intro h1
  refine Qh RQ fun t=>?_
  rw[Nc h,acH h (of_decide_eq_true h1:∀i,i<q.1->q.2 i=0)]
 ·intro h1
  exact decide_eq_true (acK fun t=>by rw[<-Nc h,iO h1])
theorem TC {a:PP} {s:Nat} (h:Bd a s):Bd (sk a) (s+a.1*a.1+2*a.1):=by
 show cR (mz a.1) (qn a.1 a.2) _
 by_cases h0:a.1=0
 ·exact⟨1,by decide,Nat.one_le_two_pow,fun i _=>by rw[show qn a.1 a.2 i=0 from if_pos h0];exact .zero⟩
 ·rw[show mz a.1=a.1 from if_neg h0,show qn a.1 a.2=eJ a.1 a.2 from funext fun i=>if_neg h0]
  exact C5 h
theorem Vb {n:Nat} (h:n≠0):zE n=0:=if_neg h
end Go.Am.B
