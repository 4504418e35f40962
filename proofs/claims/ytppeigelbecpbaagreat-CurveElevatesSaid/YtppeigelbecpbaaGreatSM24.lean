/- The statement CurveElevates: whatever the input, the law returns true, and the input reads behind the call as it did. No condition. -/
import Derived.Test.YtppeigelbecpbaaGreatRows
import Derived.Test.YtppeigelbecpbaaGreatM24
import Derived.Test.YtppeigelbecpbaaGreatZ2
import Derived.ProofKit
import Derived.ChangeSlices
set_option linter.unusedVariables false
namespace Go.Proofs.YtppeigelbecpbaaGreat
open Go.ChangeShapes Go.WideShapes Go.ChangeAt Go.RowKit
set_option maxRecDepth 100000 in
theorem curveElevates_lifted (os:Os) (started:os.Started) (H:Type) (enc:TypeId×Value->H):
  ReturnsInHanded {} Tryz.checked os 6 .any (Rows.curveElevatesSpec.pre6 enc Tryz.prog Tryz.f6 Rows.curveElevatesRow.domain false) (Rows.curveElevatesSpec.post enc Tryz.prog Tryz.f6 false true false false):=by
 have hl:laidOutB Tryz.prog=true:=Go.Am.N.ag
 have hk:Go.Am.xJ Tryz.prog [.list] Tryz.f6.params.toList:=by
  rw[Tryz.params6]
  exact⟨⟨⟨_,Tryz.underlying22,Tryz.underlying3,Go.Am.N.ag⟩,Go.Am.N.ag,of_decide_eq_true Go.Am.N.ag⟩,trivial⟩
 refine returnsInHanded_of_change (C:=Tryz.checked) Go.Am.N.ag started Go.Am.N.ag Tryz.func6
  (ChangeSpec.witness6 (enc:=enc) (C:=Tryz.checked) false ⟨#[],#[.slice none 0 0],[]⟩ 8 Go.Am.N.ag Go.Am.N.ag Go.Am.N.ag Go.Am.N.ag) ?_
 intro W base args ds gs before hval0 hW _ _
 have hW':=hW
 obtain⟨p,q,hA,hV,rfl,_,_⟩:=hW
 obtain⟨rfl,rfl⟩:=trodVars_none hV
 obtain⟨e0,rfl⟩:∃e0,ds=[e0]:=by
  have h:=Go.Am.Ov hA
  rw[Tryz.params6]at h
  match ds,h with
  |[e0],_=>exact⟨e0,rfl⟩
 simp only[List.append_nil]at hW'
 refine(Go.Am.UI (base:=base) hl Tryz.func6 Go.Am.N.ag hk hA (fun j t v h1 h2=>hval0 j t v (by simpa using h1) h2) (fun x hx=>by simpa using hW'.lt x hx) ?_).mono fun e W' ⟨he,hw,ht⟩=>?_
 ·rintro l0 ⟨_,_,rfl,⟨n0,z0,rfl⟩,rfl⟩
  exact Go.Am.B.ahm 0
 subst he
 exact⟨_,rfl,⟨_,_,_,[],_,[],hW',trodAll_mk1 (shut_bool Tryz.underlying4 _),ht,rfl,hw.frame _,fun h=>by cases h⟩⟩
theorem curveElevates:Rows.CurveElevatesSaid:=
 OpenClaim.holds_of_wide 6 Tryz.f6 rfl rfl rfl rfl rfl rfl rfl ⟨rfl,rfl,rfl,rfl,rfl⟩ rfl rfl rfl rfl rfl Go.Am.N.ag Tryz.func6 Go.Am.N.ag
  Go.Am.N.aX (by unfold Func.isWrapper;first|(rw[if_pos (by decide+kernel)];kernel_rfl)|(rw[if_neg (by decide+kernel)];exact⟨rfl,rfl⟩))
  (fun os started H enc _=>curveElevates_lifted os started H enc)
end Go.Proofs.YtppeigelbecpbaaGreat
