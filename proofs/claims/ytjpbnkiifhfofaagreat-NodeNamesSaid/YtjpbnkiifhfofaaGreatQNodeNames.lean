/- NodeNames: whatever comes in, the law's function returns true, and what was handed in reads as it did; no condition. -/
import Derived.Test.YtjpbnkiifhfofaaGreatEv10
set_option maxHeartbeats 1000000
set_option linter.all false
set_option linter.deprecated false
set_option linter.unusedVariables false
set_option linter.unusedSimpArgs false
set_option linter.unnecessarySimpa false
set_option linter.unusedVariables false
namespace Go.Proofs.YtjpbnkiifhfofaaGreat.NodeNames
open Go Go.Evl Go.Evl.Zone Go.Proofs Go.RowKit Go.ChangeShapes Go.WideShapes Go.ChangeAt Go.Proofs.YtjpbnkiifhfofaaGreat
set_option maxRecDepth 100000

theorem law : LawOK 8 Tryz.f8.params.toList := by
  intro aa h
  obtain ⟨a, bs, rfl, h1, rfl⟩ : FitAll P0 12 [22] aa := h
  obtain ⟨l, rfl⟩ := fit_ops h1
  exact lawNames_ans tB nCB l

noncomputable abbrev wargs : Array Value := #[.slice none 0 0]

theorem witness_row (os : Os) {H : Type} (enc : TypeId × Value → H) :
    (OpenSpec.ofChange Rows.nodeNamesSpec).preRow enc P0 Tryz.f8 [] false [] ((theWorld os).forCall (fun _ _ => 0) ⟨#[], wargs, []⟩).memory wargs := by
  have hw : (DataW.whole enc P0 ((theWorld os).forCall (fun _ _ => 0) ⟨#[], wargs, []⟩).memory Tryz.f8.params.toList Rows.nodeNamesSpec.vars false wargs.toList 12).isSome = true := by kernel_rfl
  obtain ⟨x, hx⟩ := Option.isSome_iff_exists.1 hw
  exact OpenSpec.preRow_of_cond 12 hx rfl (fun k hk => by cases hk) (by kernel_rfl) (laidMet_nil _ _)

theorem lifted (os : Os) (started : os.Started) (H : Type) (enc : TypeId × Value → H) (F : Stop.Interp) :
    ReturnsInHanded {} Tryz.checked os 8 .any ((OpenSpec.ofChange Rows.nodeNamesSpec).preRow enc P0 Tryz.f8 Rows.nodeNamesRow.domain false Rows.nodeNamesRow.laid) (((OpenSpec.ofChange Rows.nodeNamesSpec).at F).post enc P0 Tryz.f8 false true false false) :=
  lift started Tryz.func8 (by kernel_rfl) rfl (fun ds hl => by
    match ds, hl with
    | [a], _ => rfl) rfl (by kernel_rfl) law wargs (by kernel_rfl) (by kernel_rfl) (by kernel_rfl) (witness_row os enc)

/-- NodeNames holds. -/
theorem said : Rows.NodeNamesSaid :=
  OpenClaim.holds_of_cond 8 Tryz.f8 rfl rfl rfl rfl rfl rfl rfl ⟨rfl, rfl, rfl, rfl, rfl⟩ rfl rfl rfl rfl rfl (by kernel_rfl) Tryz.func8 closed
    (of_decide_eq_true (by kernel_rfl)) (by unfold Func.isWrapper; first | (rw [if_pos (by decide +kernel)]; kernel_rfl) | (rw [if_neg (by decide +kernel)]; exact ⟨rfl, rfl⟩))
    (fun os started H enc _ F => by rw [OpenClaim.pre_eq_preRow]; exact lifted os started H enc F)

end Go.Proofs.YtjpbnkiifhfofaaGreat.NodeNames
