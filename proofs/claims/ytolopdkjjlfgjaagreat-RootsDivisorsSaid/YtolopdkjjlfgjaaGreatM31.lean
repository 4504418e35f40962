/- brepkernellaw06.RootsDivides. -/
import Derived.Test.YtolopdkjjlfgjaaGreatY40
import Derived.Test.YtolopdkjjlfgjaaGreatY39
import Derived.Test.YtolopdkjjlfgjaaGreatY38
set_option linter.unusedVariables false
namespace Go.Am.B
open Go Go.Am.N AV af aq IntKind
def abM:Spec:=dL (kC (kL ah) (kC (kL ah) kN)) (fun a=>.tuple [aP (jL a.1 a.2.1),aP (gu a.1 a.2.1),.int .i64 (zE (aC a.2.1).1)]) fun a=>[ej a.1,ej a.2.1,mS a.1 a.2.1]
def TS:Spec:=dL (kC (kL ah) (kC (kL ah) kN)) (fun a=>aP (lI a.1 a.2.1)) fun a=>[ej a.1,ej a.2.1,j9 (aC a.1,aC a.2.1),jq (cG (aC a.1) (aC a.2.1))]
theorem ZG {p q:PP} (hp:iR p) (hq:iR q):mS p q:=fun h0=>by
 have hW:=dg
 have l1:=hp.gd.len
 have l2:=hq.gd.len
 have hR:(aC p).1-((aC q).1-1)<=13:=aa
 obtain⟨r1,r2⟩:=sO hp.gd.bd hq.gd.bd (hq.pos h0) hq.gd.tr hR
 have lr:(dP (aC p) (aC q)).1<=13:=Nat.le_trans (show bO _ _<=(aC p).1 from eP) l1
 have lq:(gD (aC p) (aC q)).1<=13:=Nat.le_trans (show bO _ _<=_ from eP) hR
 have m1:=Nat.mul_le_mul lr lr
 have m2:=Nat.mul_le_mul lq lq
 exact⟨wQ hp.gd.bd hq.gd.bd (hq.pos h0) hq.gd.tr hR aa,tu r2 aa aa,tu r1 aa aa⟩
theorem Md {n:Nat} (h:n<=13):fP n<2^40:=by unfold fP;split<;>omega
theorem X4 {p q:PP} (hp:iR p) (hq:iR q):(jL p q).1<2^40/\(gu p q).1<2^40:=by
 have l1:=hp.gd.len
 unfold jL gu
 split
 ·exact⟨by show 0<_;omega,by show 0<_;omega⟩
 ·exact⟨Md (Nat.le_trans (show bO _ _<=_ from eP) aa),Md (Nat.le_trans (show bO _ _<=(aC p).1 from eP) l1)⟩
end Go.Am.B
