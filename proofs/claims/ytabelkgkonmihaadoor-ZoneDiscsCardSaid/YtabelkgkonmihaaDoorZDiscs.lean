/- ZoneDiscs: whatever the two places and the size, the law's function returns true, and what was handed in reads as it did; no condition. -/
import Derived.Test.YtabelkgkonmihaaDoorEv4
set_option linter.all false
set_option linter.deprecated false
set_option linter.unusedVariables false
set_option linter.unusedSimpArgs false
set_option linter.unnecessarySimpa false
set_option linter.unusedVariables false
namespace Go.Proofs.YtabelkgkonmihaaDoor.ZoneDiscs
open Go Go.Evl Go.Evl.Zone Go.Proofs Go.RowKit Go.ChangeShapes Go.WideShapes Go.ChangeAt Go.Proofs.YtabelkgkonmihaaDoor
set_option maxRecDepth 100000

theorem typed : Typed P0 := ⟨Tryd.underlying3, Tryd.underlying5, Tryd.underlying53, Tryd.underlying41⟩

theorem fit_int {p : PV} {n : Nat} (h : FitV P0 (n + 1) 3 p) : ∃ m, p = .val (.int .i64 m) ∧ -9223372036854775808 ≤ m ∧ m ≤ 9223372036854775807 := by
  unfold FitV at h
  rw [Tryd.underlying3] at h
  unfold Fit at h
  rw [Tryd.underlying3] at h
  obtain ⟨m, h1, h2, h3⟩ := h
  simp at h1
  exact ⟨m, h1, h2, h3⟩

theorem fitL_int {n : Nat} {ts : List TypeId} {ps : List PV} (h : FitL (Fit P0 (n + 1)) (3 :: ts) ps) : ∃ m qs, ps = .val (.int .i64 m) :: qs ∧ FitL (Fit P0 (n + 1)) ts qs ∧ -9223372036854775808 ≤ m ∧ m ≤ 9223372036854775807 := by
  obtain ⟨a, b, rfl, h1, h2⟩ := h
  unfold Fit at h1
  rw [Tryd.underlying3] at h1
  obtain ⟨m, rfl, h3, h4⟩ := h1
  exact ⟨m, b, rfl, h2, h3, h4⟩

theorem fit_place {p : PV} {n : Nat} (h : FitV P0 (n + 2) 24 p) : ∃ x y, p = placeV x y ∧ -9223372036854775808 ≤ x ∧ x ≤ 9223372036854775807 ∧ -9223372036854775808 ≤ y ∧ y ≤ 9223372036854775807 := by
  unfold FitV at h
  rw [Tryd.underlying24] at h
  obtain ⟨ps, rfl, h⟩ := h
  unfold Fit at h
  rw [Tryd.underlying24] at h
  obtain ⟨x, qs, rfl, h, x1, x2⟩ := fitL_int (ts := [3]) h
  obtain ⟨y, qs, rfl, h, y1, y2⟩ := fitL_int (ts := []) h
  cases h
  exact ⟨x, y, rfl, x1, x2, y1, y2⟩

theorem law : LawOK 7 Tryd.f7.params.toList := by
  intro aa h
  obtain ⟨a, bs, rfl, h1, b, cs, rfl, h2, c, ds, rfl, h3, rfl⟩ : FitAll P0 6 [24, 24, 3] aa := h
  obtain ⟨ax, ay, rfl, _⟩ := fit_place h1
  obtain ⟨px, py, rfl, _⟩ := fit_place h2
  obtain ⟨n, rfl, _⟩ := fit_int h3
  exact zoneDiscs_ans typed Tryd.underlying4 told_ans

noncomputable abbrev wargs : Array Value := #[.agg #[.int .i64 0, .int .i64 0], .agg #[.int .i64 0, .int .i64 0], .int .i64 0]

theorem witness_row (os : Os) {H : Type} (enc : TypeId × Value → H) :
    (OpenSpec.ofChange Rows.zoneDiscsSpec).preRow enc P0 Tryd.f7 [] false laidL ((laidWorld os).forCall (fun _ _ => 0) ⟨#[], wargs, []⟩).memory wargs := by
  have hw : (DataW.whole enc P0 ((laidWorld os).forCall (fun _ _ => 0) ⟨#[], wargs, []⟩).memory Tryd.f7.params.toList Rows.zoneDiscsSpec.vars false wargs.toList 8).map (fun x => (x.1, x.2.1)) =
      some ([.agg [.lit (.int .i64 0), .lit (.int .i64 0)], .agg [.lit (.int .i64 0), .lit (.int .i64 0)], .lit (.int .i64 0)], []) := by kernel_rfl
  obtain ⟨⟨x1, x2, x3⟩, hx, hx1⟩ := Option.map_eq_some_iff.1 hw
  simp only [Prod.mk.injEq] at hx1
  obtain ⟨rfl, rfl⟩ := hx1
  exact OpenSpec.preRow_of_cond 8 hx (by kernel_rfl) (fun k hk => by cases hk) (by kernel_rfl) (laid_met os _)

theorem lifted (os : Os) (started : os.Started) (H : Type) (enc : TypeId × Value → H) (F : Stop.Interp) :
    ReturnsInHanded {} Tryd.checked os 7 .any ((OpenSpec.ofChange Rows.zoneDiscsSpec).preRow enc P0 Tryd.f7 Rows.zoneDiscsRow.domain false Rows.zoneDiscsRow.laid) (((OpenSpec.ofChange Rows.zoneDiscsSpec).at F).post enc P0 Tryd.f7 false true false false) :=
  lift started Tryd.func7 (by kernel_rfl) rfl (fun ds hl => by
    match ds, hl with
    | [a, b, c], _ => rfl) rfl (by kernel_rfl) law wargs (by kernel_rfl) (by kernel_rfl) (by kernel_rfl) (witness_row os enc)

theorem said : Rows.ZoneDiscsSaid :=
  OpenClaim.holds_of_cond 7 Tryd.f7 rfl rfl rfl rfl rfl rfl rfl ⟨rfl, rfl, rfl, rfl, rfl⟩ rfl rfl rfl rfl rfl (by kernel_rfl) Tryd.func7 (by kernel_rfl)
    (of_decide_eq_true (by kernel_rfl)) (by unfold Func.isWrapper; first | (rw [if_pos (by decide +kernel)]; kernel_rfl) | (rw [if_neg (by decide +kernel)]; exact ⟨rfl, rfl⟩))
    (fun os started H enc _ F => by rw [OpenClaim.pre_eq_preRow]; exact lifted os started H enc F)

theorem plain (f : FuncId) (fn : Func) (hf : Tryd.pinned.checked.prog.funcNamed Rows.zoneDiscsRow.func = some f) (hfn : Tryd.pinned.checked.prog.funcs[f]? = some fn) :
    true = Tryd.pinned.checked.prog.looks [] ∧ ∀ (j : Nat) t, fn.params[j]? = some t → Tryd.pinned.checked.prog.wantsStandIn t = false := by
  obtain rfl : f = 7 := Option.some.inj ((show P0.funcNamed Rows.zoneDiscsRow.func = some 7 by kernel_rfl).symm.trans hf) |>.symm
  obtain rfl : fn = Tryd.f7 := (Option.some.inj (Tryd.func7.symm.trans hfn)).symm
  refine ⟨by kernel_rfl, fun j t ht => ?_⟩
  have h : (Tryd.f7.params.toList.all fun t => !P0.wantsStandIn t) = true := by kernel_rfl
  have := List.all_eq_true.1 h t (List.mem_of_getElem? (show Tryd.f7.params.toList[j]? = some t by simpa using ht))
  have h2 : P0.wantsStandIn t = false := by simpa using this
  exact h2

/-- ZoneDiscs holds. -/
theorem card : Rows.ZoneDiscsCardSaid :=
  Claim7.holds_tied_plain_at .later [] _ _ _ _ said (fun _ h => by cases h) (by kernel_rfl) (fun _ h => by cases h) zoneDiscs_row_tie rfl ⟨rfl, rfl⟩ (by kernel_rfl) rfl plain (by kernel_rfl)

end Go.Proofs.YtabelkgkonmihaaDoor.ZoneDiscs
