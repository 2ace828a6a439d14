/- NodeZones: whatever comes in, the law's function returns true, and what was handed in reads as it did; no condition. -/
import Derived.Test.YtjpbnkiifhfofaaGreatEv10
set_option maxHeartbeats 1000000
set_option linter.all false
set_option linter.deprecated false
set_option linter.unusedVariables false
set_option linter.unusedSimpArgs false
set_option linter.unnecessarySimpa false
set_option linter.unusedVariables false
namespace Go.Proofs.YtjpbnkiifhfofaaGreat.NodeZones
open Go Go.Evl Go.Evl.Zone Go.Proofs Go.RowKit Go.ChangeShapes Go.WideShapes Go.ChangeAt Go.Proofs.YtjpbnkiifhfofaaGreat
set_option maxRecDepth 100000

theorem law : LawOK 5 Tryz.f5.params.toList := by
  intro aa h
  obtain ⟨a, bs, rfl, h1, b, cs, rfl, h2, rfl⟩ : FitAll P0 12 [22, 29] aa := h
  obtain ⟨l, rfl⟩ := fit_ops h1
  obtain ⟨z, rfl⟩ := fit_zone h2
  exact zones_ans tB nCB l z

noncomputable abbrev wargs : Array Value := #[.slice none 0 0, .slice none 0 0]

theorem witness_row (os : Os) {H : Type} (enc : TypeId × Value → H) :
    (OpenSpec.ofChange Rows.nodeZonesSpec).preRow enc P0 Tryz.f5 [] false [] ((theWorld os).forCall (fun _ _ => 0) ⟨#[], wargs, []⟩).memory wargs := by
  have hw : (DataW.whole enc P0 ((theWorld os).forCall (fun _ _ => 0) ⟨#[], wargs, []⟩).memory Tryz.f5.params.toList Rows.nodeZonesSpec.vars false wargs.toList 12).isSome = true := by kernel_rfl
  obtain ⟨x, hx⟩ := Option.isSome_iff_exists.1 hw
  exact OpenSpec.preRow_of_cond 12 hx rfl (fun k hk => by cases hk) (by kernel_rfl) (laidMet_nil _ _)

theorem lifted (os : Os) (started : os.Started) (H : Type) (enc : TypeId × Value → H) (F : Stop.Interp) :
    ReturnsInHanded {} Tryz.checked os 5 .any ((OpenSpec.ofChange Rows.nodeZonesSpec).preRow enc P0 Tryz.f5 Rows.nodeZonesRow.domain false Rows.nodeZonesRow.laid) (((OpenSpec.ofChange Rows.nodeZonesSpec).at F).post enc P0 Tryz.f5 false true false false) :=
  lift started Tryz.func5 (by kernel_rfl) rfl (fun ds hl => by
    match ds, hl with
    | [a, b], _ => rfl) rfl (by kernel_rfl) law wargs (by kernel_rfl) (by kernel_rfl) (by kernel_rfl) (witness_row os enc)

/-- NodeZones holds. -/
theorem said : Rows.NodeZonesSaid :=
  OpenClaim.holds_of_cond 5 Tryz.f5 rfl rfl rfl rfl rfl rfl rfl ⟨rfl, rfl, rfl, rfl, rfl⟩ rfl rfl rfl rfl rfl (by kernel_rfl) Tryz.func5 closed
    (of_decide_eq_true (by kernel_rfl)) (by unfold Func.isWrapper; first | (rw [if_pos (by decide +kernel)]; kernel_rfl) | (rw [if_neg (by decide +kernel)]; exact ⟨rfl, rfl⟩))
    (fun os started H enc _ F => by rw [OpenClaim.pre_eq_preRow]; exact lifted os started H enc F)

end Go.Proofs.YtjpbnkiifhfofaaGreat.NodeZones
