/- MeshNews: whatever comes in, the law's function returns true, and what was handed in reads as it did; no condition. -/
import Derived.Test.YtofoignbmkflnaaGreatDoorEv8
set_option linter.all false
set_option linter.deprecated false
set_option linter.unusedVariables false
set_option linter.unusedSimpArgs false
set_option linter.unnecessarySimpa false
set_option linter.unusedVariables false
namespace Go.Proofs.YtofoignbmkflnaaGreatDoor.MeshNews
open Go Go.Evl Go.Evl.Zone Go.Proofs Go.RowKit Go.ChangeShapes Go.WideShapes Go.ChangeAt Go.Proofs.YtofoignbmkflnaaGreatDoor
set_option maxRecDepth 100000

theorem law : LawOK 3 Tryz.f3.params.toList := by
  intro aa h
  obtain ⟨a, bs, rfl, h1, rfl⟩ : FitAll P0 12 [3] aa := h
  unfold FitV at h1
  rw [Tryz.underlying3] at h1
  have h1 : Fit P0 12 3 [a] := h1
  unfold Fit at h1
  rw [Tryz.underlying3] at h1
  obtain ⟨n, e, _, _⟩ := h1
  obtain rfl : a = iv' n := by simpa using e
  exact meshNews_ans mC

noncomputable abbrev wargs : Array Value := #[.int .i64 4]

theorem witness_row (os : Os) {H : Type} (enc : TypeId × Value → H) :
    (OpenSpec.ofChange Rows.meshNewsSpec).preRow enc P0 Tryz.f3 [] false laidL ((laidWorld os).forCall (fun _ _ => 0) ⟨#[], wargs, []⟩).memory wargs := by
  have hw : (DataW.whole enc P0 ((laidWorld os).forCall (fun _ _ => 0) ⟨#[], wargs, []⟩).memory Tryz.f3.params.toList Rows.meshNewsSpec.vars false wargs.toList 12).isSome = true := by kernel_rfl
  obtain ⟨x, hx⟩ := Option.isSome_iff_exists.1 hw
  exact OpenSpec.preRow_of_cond 12 hx rfl (fun k hk => by cases hk) (by kernel_rfl) (laid_met os _)

theorem lifted (os : Os) (started : os.Started) (H : Type) (enc : TypeId × Value → H) (F : Stop.Interp) :
    ReturnsInHanded {} Tryz.checked os 3 .any ((OpenSpec.ofChange Rows.meshNewsSpec).preRow enc P0 Tryz.f3 Rows.meshNewsRow.domain false Rows.meshNewsRow.laid) (((OpenSpec.ofChange Rows.meshNewsSpec).at F).post enc P0 Tryz.f3 false true false false) :=
  lift started Tryz.func3 (by kernel_rfl) rfl (fun ds hl => by
    match ds, hl with
    | [a], _ => rfl) rfl (by kernel_rfl) law wargs (by kernel_rfl) (by kernel_rfl) (by kernel_rfl) (witness_row os enc)

theorem said : Rows.MeshNewsSaid :=
  OpenClaim.holds_of_cond 3 Tryz.f3 rfl rfl rfl rfl rfl rfl rfl ⟨rfl, rfl, rfl, rfl, rfl⟩ rfl rfl rfl rfl rfl (by kernel_rfl) Tryz.func3 closed
    (of_decide_eq_true (by kernel_rfl)) (by unfold Func.isWrapper; first | (rw [if_pos (by decide +kernel)]; kernel_rfl) | (rw [if_neg (by decide +kernel)]; exact ⟨rfl, rfl⟩))
    (fun os started H enc _ F => by rw [OpenClaim.pre_eq_preRow]; exact lifted os started H enc F)

theorem plain (f : FuncId) (fn : Func) (hf : Tryz.pinned.checked.prog.funcNamed Rows.meshNewsRow.func = some f) (hfn : Tryz.pinned.checked.prog.funcs[f]? = some fn) :
    true = Tryz.pinned.checked.prog.looks [] ∧ ∀ (j : Nat) t, fn.params[j]? = some t → Tryz.pinned.checked.prog.wantsStandIn t = false := by
  obtain rfl : f = 3 := Option.some.inj ((show P0.funcNamed Rows.meshNewsRow.func = some 3 by kernel_rfl).symm.trans hf) |>.symm
  obtain rfl : fn = Tryz.f3 := (Option.some.inj (Tryz.func3.symm.trans hfn)).symm
  refine ⟨by kernel_rfl, fun j t ht => ?_⟩
  have h : (Tryz.f3.params.toList.all fun t => !P0.wantsStandIn t) = true := by kernel_rfl
  have := List.all_eq_true.1 h t (List.mem_of_getElem? (show Tryz.f3.params.toList[j]? = some t by simpa using ht))
  have h2 : P0.wantsStandIn t = false := by simpa using this
  exact h2

/-- MeshNews holds. -/
theorem card : Rows.MeshNewsCardSaid :=
  Claim7.holds_tied_plain_at .later [] _ _ _ _ said (fun _ h => by cases h) (by kernel_rfl) (fun _ h => by cases h) meshNews_row_tie rfl ⟨rfl, rfl⟩ (by kernel_rfl) rfl plain (by kernel_rfl)

end Go.Proofs.YtofoignbmkflnaaGreatDoor.MeshNews
