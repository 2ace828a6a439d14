/- ZoneTexts: whatever the text, the law's function returns true, and what was handed in reads as it did; no condition. -/
import Derived.Test.YtabelkgkonmihaaDoorEv5
set_option linter.all false
set_option linter.deprecated false
set_option linter.unusedVariables false
set_option linter.unusedSimpArgs false
set_option linter.unnecessarySimpa false
set_option linter.unusedVariables false
namespace Go.Proofs.YtabelkgkonmihaaDoor.ZoneTexts
open Go Go.Evl Go.Evl.Zone Go.Proofs Go.RowKit Go.ChangeShapes Go.WideShapes Go.ChangeAt Go.Proofs.YtabelkgkonmihaaDoor
set_option maxRecDepth 100000

theorem law : LawOK 5 Tryd.f5.params.toList := by
  intro aa h
  obtain ⟨a, bs, rfl, h1, rfl⟩ : FitAll P0 6 [9] aa := h
  obtain ⟨s, rfl, _⟩ := fit_string h1
  have e : PV.val (.string s) = sv s.data.toList := by cases s; simp
  rw [e]
  exact zoneTexts_ans typed3 Tryd.underlying4 told_ans

noncomputable abbrev wargs : Array Value := #[.string ⟨#[]⟩]

theorem witness_row (os : Os) {H : Type} (enc : TypeId × Value → H) :
    (OpenSpec.ofChange Rows.zoneTextsSpec).preRow enc P0 Tryd.f5 [] false laidL ((laidWorld os).forCall (fun _ _ => 0) ⟨#[], wargs, []⟩).memory wargs := by
  have hw : (DataW.whole enc P0 ((laidWorld os).forCall (fun _ _ => 0) ⟨#[], wargs, []⟩).memory Tryd.f5.params.toList Rows.zoneTextsSpec.vars false wargs.toList 8).map (fun x => (x.1, x.2.1)) =
      some ([.lit (.string [])], []) := by kernel_rfl
  obtain ⟨⟨x1, x2, x3⟩, hx, hx1⟩ := Option.map_eq_some_iff.1 hw
  simp only [Prod.mk.injEq] at hx1
  obtain ⟨rfl, rfl⟩ := hx1
  exact OpenSpec.preRow_of_cond 8 hx (by kernel_rfl) (fun k hk => by cases hk) (by kernel_rfl) (laid_met os _)

theorem lifted (os : Os) (started : os.Started) (H : Type) (enc : TypeId × Value → H) (F : Stop.Interp) :
    ReturnsInHanded {} Tryd.checked os 5 .any ((OpenSpec.ofChange Rows.zoneTextsSpec).preRow enc P0 Tryd.f5 Rows.zoneTextsRow.domain false Rows.zoneTextsRow.laid) (((OpenSpec.ofChange Rows.zoneTextsSpec).at F).post enc P0 Tryd.f5 false true false false) :=
  lift started Tryd.func5 (by kernel_rfl) rfl (fun ds hl => by
    match ds, hl with
    | [a], _ => rfl) rfl (by kernel_rfl) law wargs (by kernel_rfl) (by kernel_rfl) (by kernel_rfl) (witness_row os enc)

theorem said : Rows.ZoneTextsSaid :=
  OpenClaim.holds_of_cond 5 Tryd.f5 rfl rfl rfl rfl rfl rfl rfl ⟨rfl, rfl, rfl, rfl, rfl⟩ rfl rfl rfl rfl rfl (by kernel_rfl) Tryd.func5 (by kernel_rfl)
    (of_decide_eq_true (by kernel_rfl)) (by unfold Func.isWrapper; first | (rw [if_pos (by decide +kernel)]; kernel_rfl) | (rw [if_neg (by decide +kernel)]; exact ⟨rfl, rfl⟩))
    (fun os started H enc _ F => by rw [OpenClaim.pre_eq_preRow]; exact lifted os started H enc F)

theorem plain (f : FuncId) (fn : Func) (hf : Tryd.pinned.checked.prog.funcNamed Rows.zoneTextsRow.func = some f) (hfn : Tryd.pinned.checked.prog.funcs[f]? = some fn) :
    true = Tryd.pinned.checked.prog.looks [] ∧ ∀ (j : Nat) t, fn.params[j]? = some t → Tryd.pinned.checked.prog.wantsStandIn t = false := by
  obtain rfl : f = 5 := Option.some.inj ((show P0.funcNamed Rows.zoneTextsRow.func = some 5 by kernel_rfl).symm.trans hf) |>.symm
  obtain rfl : fn = Tryd.f5 := (Option.some.inj (Tryd.func5.symm.trans hfn)).symm
  refine ⟨by kernel_rfl, fun j t ht => ?_⟩
  have h : (Tryd.f5.params.toList.all fun t => !P0.wantsStandIn t) = true := by kernel_rfl
  have := List.all_eq_true.1 h t (List.mem_of_getElem? (show Tryd.f5.params.toList[j]? = some t by simpa using ht))
  have h2 : P0.wantsStandIn t = false := by simpa using this
  exact h2

/-- ZoneTexts holds. -/
theorem card : Rows.ZoneTextsCardSaid :=
  Claim7.holds_tied_plain_at .later [] _ _ _ _ said (fun _ h => by cases h) (by kernel_rfl) (fun _ h => by cases h) zoneTexts_row_tie rfl ⟨rfl, rfl⟩ (by kernel_rfl) rfl plain (by kernel_rfl)

end Go.Proofs.YtabelkgkonmihaaDoor.ZoneTexts
