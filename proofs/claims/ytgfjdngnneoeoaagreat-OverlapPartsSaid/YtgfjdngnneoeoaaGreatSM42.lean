/- The statement OverlapParts: whatever the input, the law returns true, and the input reads behind the call as it did. No condition. -/
import Derived.Test.YtgfjdngnneoeoaaGreatRows
import Derived.Test.YtgfjdngnneoeoaaGreatM42
import Derived.Test.YtgfjdngnneoeoaaGreatZ2
import Derived.ProofKit
import Derived.ChangeSlices
set_option linter.unusedVariables false
namespace Go.Proofs.YtgfjdngnneoeoaaGreat
open Go.ChangeShapes Go.WideShapes Go.ChangeAt Go.RowKit
set_option maxRecDepth 100000 in
theorem overlapParts_lifted (os:Os) (started:os.Started) (H:Type) (enc:TypeId×Value->H):
  ReturnsInHanded {} Tryz.checked os 4 .any (Rows.overlapPartsSpec.pre6 enc Tryz.prog Tryz.f4 Rows.overlapPartsRow.domain false) (Rows.overlapPartsSpec.post enc Tryz.prog Tryz.f4 false true false false):=by
 have hl:laidOutB Tryz.prog=true:=by kernel_rfl
 have hk:Go.Am.uW Tryz.prog [.list] Tryz.f4.params.toList:=by
  rw[Tryz.params4]
  exact⟨⟨⟨_,Tryz.underlying22,Tryz.underlying3,by kernel_rfl⟩,by kernel_rfl,of_decide_eq_true (by kernel_rfl)⟩,trivial⟩
 refine returnsInHanded_of_change (C:=Tryz.checked) (by kernel_rfl) started (by kernel_rfl) Tryz.func4
  (ChangeSpec.witness6 (enc:=enc) (C:=Tryz.checked) false ⟨#[],#[.slice none 0 0],[]⟩ 8 (by kernel_rfl) (by kernel_rfl) (by kernel_rfl) (by kernel_rfl)) ?_
 intro W base args ds gs before hval0 hW _ _
 have hW':=hW
 obtain⟨p,q,hA,hV,rfl,_,_⟩:=hW
 obtain⟨rfl,rfl⟩:=trodVars_none hV
 obtain⟨e0,rfl⟩:∃e0,ds=[e0]:=by
  have h:=Go.Am.On hA
  rw[Tryz.params4]at h
  match ds,h with
  |[e0],_=>exact⟨e0,rfl⟩
 simp only[List.append_nil]at hW'
 refine(Go.Am.aav (base:=base) hl Tryz.func4 (by kernel_rfl) hk hA (fun j t v h1 h2=>hval0 j t v (by simpa using h1) h2) (fun x hx=>by simpa using hW'.lt x hx) ?_).mono fun e W' ⟨he,hw,ht⟩=>?_
 ·rintro l0 ⟨_,_,rfl,⟨n0,z0,rfl⟩,rfl⟩
  exact Go.Am.B.RH 0
 subst he
 exact⟨_,rfl,⟨_,_,_,[],_,[],hW',trodAll_mk1 (shut_bool Tryz.underlying4 _),ht,rfl,hw.frame _,fun h=>by cases h⟩⟩
theorem overlapParts:Rows.OverlapPartsSaid:=
 OpenClaim.holds_of_wide 4 Tryz.f4 rfl rfl rfl rfl rfl rfl rfl ⟨rfl,rfl,rfl,rfl,rfl⟩ rfl rfl rfl rfl rfl (by kernel_rfl) Tryz.func4 (by kernel_rfl)
  (of_decide_eq_true (by kernel_rfl)) (by unfold Func.isWrapper;first|(rw[if_pos (by decide+kernel)];kernel_rfl)|(rw[if_neg (by decide+kernel)];exact⟨rfl,rfl⟩))
  (fun os started H enc _=>overlapParts_lifted os started H enc)
end Go.Proofs.YtgfjdngnneoeoaaGreat
