/- ZoneRights: whatever the steps, the law's function returns true, and what was handed in reads as it did; no condition. -/
import Derived.Test.YtabelkgkonmihaaDoorEv4
set_option linter.all false
set_option linter.deprecated false
set_option linter.unusedVariables false
set_option linter.unusedSimpArgs false
set_option linter.unnecessarySimpa false
set_option linter.unusedVariables false
namespace Go.Proofs.YtabelkgkonmihaaDoor.ZoneRights
open Go Go.Evl Go.Evl.Zone Go.Proofs Go.RowKit Go.ChangeShapes Go.WideShapes Go.ChangeAt Go.Proofs.YtabelkgkonmihaaDoor
set_option maxRecDepth 100000

theorem law : LawOK 8 Tryd.f8.params.toList := by
  intro aa h
  obtain ⟨a, bs, rfl, h1, rfl⟩ : FitAll P0 6 [22] aa := h
  obtain ⟨l, rfl, hl, _⟩ := fit_steps h1
  exact zoneRights_ans typed3 Tryd.underlying4 told_ans (Nat.le_trans hl (by decide))

noncomputable abbrev wargs : Array Value := #[.slice none 0 0]

theorem witness_row (os : Os) {H : Type} (enc : TypeId × Value → H) :
    (OpenSpec.ofChange Rows.zoneRightsSpec).preRow enc P0 Tryd.f8 [] false laidL ((laidWorld os).forCall (fun _ _ => 0) ⟨#[], wargs, []⟩).memory wargs := by
  have hw : (DataW.whole enc P0 ((laidWorld os).forCall (fun _ _ => 0) ⟨#[], wargs, []⟩).memory Tryd.f8.params.toList Rows.zoneRightsSpec.vars false wargs.toList 8).map (fun x => (x.1, x.2.1)) =
      some ([.nil], []) := by kernel_rfl
  obtain ⟨⟨x1, x2, x3⟩, hx, hx1⟩ := Option.map_eq_some_iff.1 hw
  simp only [Prod.mk.injEq] at hx1
  obtain ⟨rfl, rfl⟩ := hx1
  exact OpenSpec.preRow_of_cond 8 hx (by kernel_rfl) (fun k hk => by cases hk) (by kernel_rfl) (laid_met os _)

theorem lifted (os : Os) (started : os.Started) (H : Type) (enc : TypeId × Value → H) (F : Stop.Interp) :
    ReturnsInHanded {} Tryd.checked os 8 .any ((OpenSpec.ofChange Rows.zoneRightsSpec).preRow enc P0 Tryd.f8 Rows.zoneRightsRow.domain false Rows.zoneRightsRow.laid) (((OpenSpec.ofChange Rows.zoneRightsSpec).at F).post enc P0 Tryd.f8 false true false false) :=
  lift started Tryd.func8 (by kernel_rfl) rfl (fun ds hl => by
    match ds, hl with
    | [a], _ => rfl) rfl (by kernel_rfl) law wargs (by kernel_rfl) (by kernel_rfl) (by kernel_rfl) (witness_row os enc)

theorem said : Rows.ZoneRightsSaid :=
  OpenClaim.holds_of_cond 8 Tryd.f8 rfl rfl rfl rfl rfl rfl rfl ⟨rfl, rfl, rfl, rfl, rfl⟩ rfl rfl rfl rfl rfl (by kernel_rfl) Tryd.func8 (by kernel_rfl)
    (of_decide_eq_true (by kernel_rfl)) (by unfold Func.isWrapper; first | (rw [if_pos (by decide +kernel)]; kernel_rfl) | (rw [if_neg (by decide +kernel)]; exact ⟨rfl, rfl⟩))
    (fun os started H enc _ F => by rw [OpenClaim.pre_eq_preRow]; exact lifted os started H enc F)

theorem plain (f : FuncId) (fn : Func) (hf : Tryd.pinned.checked.prog.funcNamed Rows.zoneRightsRow.func = some f) (hfn : Tryd.pinned.checked.prog.funcs[f]? = some fn) :
    true = Tryd.pinned.checked.prog.looks [] ∧ ∀ (j : Nat) t, fn.params[j]? = some t → Tryd.pinned.checked.prog.wantsStandIn t = false := by
  obtain rfl : f = 8 := Option.some.inj ((show P0.funcNamed Rows.zoneRightsRow.func = some 8 by kernel_rfl).symm.trans hf) |>.symm
  obtain rfl : fn = Tryd.f8 := (Option.some.inj (Tryd.func8.symm.trans hfn)).symm
  refine ⟨by kernel_rfl, fun j t ht => ?_⟩
  have h : (Tryd.f8.params.toList.all fun t => !P0.wantsStandIn t) = true := by kernel_rfl
  have := List.all_eq_true.1 h t (List.mem_of_getElem? (show Tryd.f8.params.toList[j]? = some t by simpa using ht))
  have h2 : P0.wantsStandIn t = false := by simpa using this
  exact h2

/-- ZoneRights holds. -/
theorem card : Rows.ZoneRightsCardSaid :=
  Claim7.holds_tied_plain_at .later [] _ _ _ _ said (fun _ h => by cases h) (by kernel_rfl) (fun _ h => by cases h) zoneRights_row_tie rfl ⟨rfl, rfl⟩ (by kernel_rfl) rfl plain (by kernel_rfl)

end Go.Proofs.YtabelkgkonmihaaDoor.ZoneRights
