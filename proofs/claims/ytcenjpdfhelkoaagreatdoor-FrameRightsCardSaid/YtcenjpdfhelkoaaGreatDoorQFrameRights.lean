/- FrameRights: whatever comes in, the law's function returns true, and what was handed in reads as it did; no condition. -/
import Derived.Test.YtcenjpdfhelkoaaGreatDoorEv9
set_option linter.all false
set_option linter.deprecated false
set_option linter.unusedVariables false
set_option linter.unusedSimpArgs false
set_option linter.unnecessarySimpa false
set_option linter.unusedVariables false
namespace Go.Proofs.YtcenjpdfhelkoaaGreatDoor.FrameRights
open Go Go.Evl Go.Evl.Zone Go.Proofs Go.RowKit Go.ChangeShapes Go.WideShapes Go.ChangeAt Go.Proofs.YtcenjpdfhelkoaaGreatDoor
set_option maxRecDepth 100000

theorem law : LawOK 3 Tryz.f3.params.toList := by
  intro aa h
  obtain ⟨a, bs, rfl, h1, rfl⟩ : FitAll P0 12 [29] aa := h
  obtain ⟨f, rfl, q⟩ := fit_frame h1
  exact frameRights_ans tI told_ans q.know q.members q.certs q.rows q.vecs q.floor

noncomputable abbrev wargs : Array Value := #[.agg #[.int .i64 0, .string ⟨#[]⟩, .string ⟨#[]⟩, .slice none 0 0, .int .i64 0, .slice none 0 0, .slice none 0 0, .slice none 0 0, .slice none 0 0, .slice none 0 0, .bool false, .slice none 0 0]]

theorem witness_row (os : Os) {H : Type} (enc : TypeId × Value → H) :
    (OpenSpec.ofChange Rows.frameRightsSpec).preRow enc P0 Tryz.f3 [] false laidL ((laidWorld os).forCall (fun _ _ => 0) ⟨#[], wargs, []⟩).memory wargs := by
  have hw : (DataW.whole enc P0 ((laidWorld os).forCall (fun _ _ => 0) ⟨#[], wargs, []⟩).memory Tryz.f3.params.toList Rows.frameRightsSpec.vars false wargs.toList 12).isSome = true := by kernel_rfl
  obtain ⟨x, hx⟩ := Option.isSome_iff_exists.1 hw
  exact OpenSpec.preRow_of_cond 12 hx rfl (fun k hk => by cases hk) (by kernel_rfl) (laid_met os _)

theorem lifted (os : Os) (started : os.Started) (H : Type) (enc : TypeId × Value → H) (F : Stop.Interp) :
    ReturnsInHanded {} Tryz.checked os 3 .any ((OpenSpec.ofChange Rows.frameRightsSpec).preRow enc P0 Tryz.f3 Rows.frameRightsRow.domain false Rows.frameRightsRow.laid) (((OpenSpec.ofChange Rows.frameRightsSpec).at F).post enc P0 Tryz.f3 false true false false) :=
  lift started Tryz.func3 (by kernel_rfl) rfl (fun ds hl => by
    match ds, hl with
    | [a], _ => rfl) rfl (by kernel_rfl) law wargs (by kernel_rfl) (by kernel_rfl) (by kernel_rfl) (witness_row os enc)

theorem said : Rows.FrameRightsSaid :=
  OpenClaim.holds_of_cond 3 Tryz.f3 rfl rfl rfl rfl rfl rfl rfl ⟨rfl, rfl, rfl, rfl, rfl⟩ rfl rfl rfl rfl rfl (by kernel_rfl) Tryz.func3 closed
    (of_decide_eq_true (by kernel_rfl)) (by unfold Func.isWrapper; first | (rw [if_pos (by decide +kernel)]; kernel_rfl) | (rw [if_neg (by decide +kernel)]; exact ⟨rfl, rfl⟩))
    (fun os started H enc _ F => by rw [OpenClaim.pre_eq_preRow]; exact lifted os started H enc F)

theorem plain (f : FuncId) (fn : Func) (hf : Tryz.pinned.checked.prog.funcNamed Rows.frameRightsRow.func = some f) (hfn : Tryz.pinned.checked.prog.funcs[f]? = some fn) :
    true = Tryz.pinned.checked.prog.looks [] ∧ ∀ (j : Nat) t, fn.params[j]? = some t → Tryz.pinned.checked.prog.wantsStandIn t = false := by
  obtain rfl : f = 3 := Option.some.inj ((show P0.funcNamed Rows.frameRightsRow.func = some 3 by kernel_rfl).symm.trans hf) |>.symm
  obtain rfl : fn = Tryz.f3 := (Option.some.inj (Tryz.func3.symm.trans hfn)).symm
  refine ⟨by kernel_rfl, fun j t ht => ?_⟩
  have h : (Tryz.f3.params.toList.all fun t => !P0.wantsStandIn t) = true := by kernel_rfl
  have := List.all_eq_true.1 h t (List.mem_of_getElem? (show Tryz.f3.params.toList[j]? = some t by simpa using ht))
  have h2 : P0.wantsStandIn t = false := by simpa using this
  exact h2

/-- FrameRights holds. -/
theorem card : Rows.FrameRightsCardSaid :=
  Claim7.holds_tied_plain_at .later [] _ _ _ _ said (fun _ h => by cases h) (by kernel_rfl) (fun _ h => by cases h) frameRights_row_tie rfl ⟨rfl, rfl⟩ (by kernel_rfl) rfl plain (by kernel_rfl)

end Go.Proofs.YtcenjpdfhelkoaaGreatDoor.FrameRights
