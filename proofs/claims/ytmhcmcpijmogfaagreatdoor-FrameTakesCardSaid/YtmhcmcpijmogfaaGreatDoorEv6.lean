/- The evaluator's texts CRead7 to CTake11, joined. -/
import Derived.Test.YtmhcmcpijmogfaaGreatDoorEv5
set_option linter.all false
set_option linter.deprecated false
set_option linter.unusedVariables false
set_option linter.unusedSimpArgs false
set_option linter.unnecessarySimpa false
namespace Go.Evl.Zone
open Go Go.Evl
variable {P : Program}
structure C2 (H : Heap) (r : Nat) (v : PV) (B : Bytes) (q : Src) (a : Nat) (ca : List PV) (b : Nat) (cb : List PV) (h : Heap) : Prop where
  S : RdS h r v B q
  y : Bey H r h
  a0 : H.n ≤ a
  an : a < h.n
  ab : a ≠ b
  b0 : H.n ≤ b
  bn : b < h.n
  A : h.at_ a = .box ca
  C : h.at_ b = .box cb
  hr : r < H.n
  hB : ∃ cs, H.at_ r = .box cs
section
variable {H h h' : Heap} {r : Nat} {v : PV} {B : Bytes} {q q' : Src} {a : Nat} {ca ca' : List PV} {b : Nat} {cb cb' : List PV} {m : Nat}
theorem C2.grow (c : C2 H r v B q a ca b cb h) : C2 H r v B q a ca b cb (h.grow m) := by
  have h1 := c.an
  have h2 := c.bn
  refine ⟨c.S.grow, c.y.grow, c.a0, by simp; omega, c.ab, c.b0, by simp; omega, ?_, ?_, c.hr, c.hB⟩
  · simp [h1, c.A]
  · simp [h2, c.C]
theorem Bey.put' (y : Bey H r h) {i : Nat} {b : Blk} (hi : H.n ≤ i) : Bey H r (h.put i b) := ⟨by simpa using y.n, fun k hk hne => by
  simp only [at_put]
  rw [if_neg (by omega), y.at_ k hk hne]⟩
theorem RdS.put' (s : RdS h r v B q) (hB : ∃ cs, H.at_ r = .box cs) (hv : Bf H v B) (y : Bey H r h) (hr : r < H.n) {i : Nat} {b : Blk} (hi : H.n ≤ i) : RdS (h.put i b) r v B q := by
  obtain ⟨a', x1, x2, x3⟩ := s.at_
  have : r ≠ i := by omega
  exact ⟨by simpa using s.hr, hv.bey hB (y.put' hi), a', x1, x2, by simp [this, x3]⟩
theorem C2.putC (hv : Bf H v B) (c : C2 H r v B q a ca b cb h) : C2 H r v B q a ca b cb' (h.put b (.box cb')) := by
  refine ⟨c.S.put' c.hB hv c.y c.hr c.b0, c.y.put' c.b0, c.a0, by simpa using c.an, c.ab, c.b0, by simpa using c.bn, ?_, by simp, c.hr, c.hB⟩
  simp [c.ab, c.A]
theorem C2.oth (c : C2 H r v B q a ca b cb h) (o : Oth h r h') (s : RdS h' r v B q') : C2 H r v B q' a ca b cb h' := by
  have h1 := c.a0
  have h2 := c.b0
  have h3 := c.hr
  exact ⟨s, c.y.oth o, c.a0, by rw [o.n]; exact c.an, c.ab, c.b0, by rw [o.n]; exact c.bn, by rw [o.at_ a c.an (by omega), c.A], by rw [o.at_ b c.bn (by omega), c.C], c.hr, c.hB⟩
theorem rnum_C2 (T : Typed P) {m : Nat} {K : PV → Heap → List Nat → Prop} (c : C2 H r v B q a ca b cb h) (hm : m < 9223372036854775808)
    (hK : ∀ H' wl, C2 H r v B (rNum m q).2 a ca b cb H' → (∀ i ∈ wl, i = r) → K (iv (rNum m q).1) H' wl) : IC (env P) 77 [.ptr r 0, iv m] h K :=
  rnum_IC T c.S hm fun H' wl s o w => hK H' wl (c.oth o s) w
theorem rtext_C2 (T : Typed P) {m : Nat} {K : PV → Heap → List Nat → Prop} (c : C2 H r v B q a ca b cb h) (hm : m < 9223372036854775808)
    (hK : ∀ H' wl, C2 H r v B (rText m q).2 a ca b cb H' → (∀ i ∈ wl, i = r) → K (sv (rText m q).1) H' wl) : IC (env P) 78 [.ptr r 0, iv m] h K :=
  rtext_IC T c.S hm fun H' wl s o w => hK H' wl (c.oth o s) w
end
theorem Wl.cons {H : Heap} {r i : Nat} {l : List Nat} (h : H.n ≤ i) (hl : Wl H r l) : Wl H r (i :: l) := fun k hk => (List.mem_cons.1 hk).elim (fun q => .inr (by omega)) (hl k)
theorem rNum_le {m : Nat} {q : Src} : (rNum m q).1 ≤ m := by
  unfold rNum
  split
  · simp
  · split
    · split
      · assumption
      · simp
    · simp
def item0 : Item := ⟨0, [], 0, 0, false, 0, 0, [], false⟩
abbrev itV (o : Option Item) : PV := match o with | some a => .tup [.agg (itR a), bv true] | none => .tup [.agg (itR item0), bv false]
set_option maxHeartbeats 1600000 in
theorem ritem_IC (T : TI P) {H : Heap} {r : Nat} {v : PV} {B : Bytes} {q : Src} {K : PV → Heap → List Nat → Prop} (h : RdS H r v B q)
    (hK : ∀ H' wl, RdS H' r v B (rItem q).2 → Oth H r H' → (∀ i ∈ wl, i = r) → K (itV (rItem q).1) H' wl) : IC (env P) 138 [.ptr r 0] H K := by
  have T0 : Typed P := T.toTyped3.toTyped2.toTyped
  obtain ⟨a, ha, hq, hB⟩ := h.at_
  have hr := h.hr
  have hv := h.b
  refine IC_rdx (cf := c138) rfl rfl h ?_
  have z : List PV := [iv 0, sv [], iv 0, iv 0, bv false, iv 0, iv 0, sv [], bv false]
  have c0 : C2 H r v B q H.n (itR item0) (H.n + 1) (itR item0) ((((H.grow 1).put H.n (.box (itR item0))).grow 1).put (H.n + 1) (.box (itR item0))) := by
    have e1 : ¬ H.n + 1 = H.n := by omega
    have b1 : Bey H r (((H.grow 1).put H.n (.box (itR item0))).grow 1) := ((Bey.refl.grow).put' (Nat.le_refl _)).grow
    have s1 : RdS (((H.grow 1).put H.n (.box (itR item0))).grow 1) r v B q := (RdS.put' h.grow ⟨_, hB⟩ hv Bey.refl.grow hr (Nat.le_refl _)).grow
    refine ⟨s1.put' ⟨_, hB⟩ hv b1 hr (by omega), b1.put' (by omega), by omega, by simp, by omega, by omega, by simp, by simp, by simp, hr, ⟨_, hB⟩⟩
  simp [c138]
  refine VA_inl (g := 77) (caps := []) rfl rfl ?_
  try simp
  refine rnum_C2 (m := 31) T0 (C2.grow c0) (by omega) fun H1 wl1 c1 w1 => ?_
  have kA1 := c1.A
  have kC1 := c1.C
  have ka1 := c1.an
  have kb1 := c1.bn
  simp [kC1, kb1]
  refine VA_inl (g := 78) (caps := []) rfl rfl ?_
  try simp
  refine rtext_C2 (m := 6) T0 (C2.grow (C2.putC hv c1)) (by omega) fun H2 wl2 c2 w2 => ?_
  have kA2 := c2.A
  have kC2 := c2.C
  have ka2 := c2.an
  have kb2 := c2.bn
  simp [kC2, kb2]
  refine VA_inl (g := 77) (caps := []) rfl rfl ?_
  try simp
  refine rnum_C2 (m := 1048576) T0 (C2.grow (C2.putC hv c2)) (by omega) fun H3 wl3 c3 w3 => ?_
  have kA3 := c3.A
  have kC3 := c3.C
  have ka3 := c3.an
  have kb3 := c3.bn
  simp [kC3, kb3]
  refine VA_inl (g := 77) (caps := []) rfl rfl ?_
  try simp
  refine rnum_C2 (m := 1048576) T0 (C2.grow (C2.putC hv c3)) (by omega) fun H4 wl4 c4 w4 => ?_
  have kA4 := c4.A
  have kC4 := c4.C
  have ka4 := c4.an
  have kb4 := c4.bn
  simp [kC4, kb4]
  refine VA_inl (g := 77) (caps := []) rfl rfl ?_
  try simp
  refine rnum_C2 (m := 2) T0 (C2.grow (C2.putC hv c4)) (by omega) fun H5 wl5 c5 w5 => ?_
  have kA5 := c5.A
  have kC5 := c5.C
  have ka5 := c5.an
  have kb5 := c5.bn
  obtain ⟨q4, hq4⟩ : ∃ q4, q4 = (rNum 1048576 (rNum 1048576 (rText 6 (rNum 31 q).2).2).2).2 := ⟨_, rfl⟩
  obtain ⟨d, hd⟩ : ∃ d, d = (rNum 2 q4).1 := ⟨_, rfl⟩
  obtain ⟨q5, hq5⟩ : ∃ q5, q5 = (rNum 2 q4).2 := ⟨_, rfl⟩
  have hraw : rItemRaw q = (⟨(rNum 31 q).1, (rText 6 (rNum 31 q).2).1, (rNum 1048576 (rText 6 (rNum 31 q).2).2).1, (rNum 1048576 (rNum 1048576 (rText 6 (rNum 31 q).2).2).2).1, d == 0, (rSpot d q5).1.1.1, (rSpot d q5).1.1.2, (rSpot d q5).1.2, d == 2⟩, (rSpot d q5).2) := by
    rw [hd, hq5, hq4]
    rfl
  rw [← hq4, ← hq5] at c5
  simp only [← hq4, ← hd]
  have hd2 : d ≤ 2 := by rw [hd]; exact rNum_le
  have hrr : ¬ r = H.n + 1 := by omega
  have hrh : ¬ r = H.n := by omega
  have hn1 : ¬ H.n + 1 = H.n := by omega
  have hn2 : ¬ H.n = H.n + 1 := by omega
  have w2k : ∀ n : Nat, n ≤ 2000 → IntKind.i64.wrap ((n : Int) - 1000) = (n : Int) - 1000 := fun n hn => wrap64_id (by omega)
  rcases (show d = 0 ∨ d = 1 ∨ d = 2 by omega) with rfl | rfl | rfl
  · simp [kC5, kb5]
    obtain ⟨a9, y1, y2, y3⟩ := c5.S.at_
    have y4 := c5.S.hr
    have ka9 := c5.an
    have kb9 := c5.bn
    have kA9 := c5.A
    have kC9 := c5.C
    have hsp : rSpot 0 q5 = (((0, 0), []), q5) := rfl
    rw [hsp] at hraw
    simp only at hraw
    by_cases hb : q5.bad = 0
    · have hi := r7Right_ans T (q := (rItemRaw q).1)
      rw [hraw] at hi
      simp at hi
      by_cases hR : itemR (rItemRaw q).1 = true
      · have ei : rItem q = (some (rItemRaw q).1, q5) := by
          unfold rItem
          rw [hraw] at hR ⊢
          rw [if_neg (by simpa using hb), if_pos hR]
        rw [ei] at hK
        rw [hraw] at hR hK
        simp at hR
        simp [kC5, kb5, y3, y4, hrr, hb, kC9, kb9, kA9, ka9, hn1, hn2, hrh, item0, hi, hR]
        exact Fin'.mk (itV (some _)) q5 a9 ⟨_, by simp [resV, resP, hn1, hn2, ka9, kA9, kC9, kb9, item0]; try rfl, by simp⟩ (by repeat' (first | exact Wl.nil | exact Wl.one w1 | exact Wl.one w2 | exact Wl.one w3 | exact Wl.one w4 | exact Wl.one w5 | refine Wl.cons (by omega) ?_ | refine Wl.app ?_ ?_)) (by repeat (first | exact c5.y | refine Bey.grow ?_ | refine Bey.put' ?_ (by omega))) y1 y2 (by simp [y3, y4, hrr, hrh]) hK
      · have ei : rItem q = (none, q5) := by
          unfold rItem
          rw [hraw] at hR ⊢
          rw [if_neg (by simpa using hb), if_neg hR]
        rw [ei] at hK
        rw [hraw] at hR
        simp at hR
        simp [kC5, kb5, y3, y4, hrr, hb, kC9, kb9, kA9, ka9, hn1, hn2, hrh, item0, hi, hR]
        exact Fin'.mk (itV none) q5 a9 ⟨_, by simp [resV, resP, hn1, hn2, ka9, kA9, kC9, kb9, item0]; try rfl, by simp⟩ (by repeat' (first | exact Wl.nil | exact Wl.one w1 | exact Wl.one w2 | exact Wl.one w3 | exact Wl.one w4 | exact Wl.one w5 | refine Wl.cons (by omega) ?_ | refine Wl.app ?_ ?_)) (by repeat (first | exact c5.y | refine Bey.grow ?_ | refine Bey.put' ?_ (by omega))) y1 y2 (by simp [y3, y4, hrr, hrh]) hK
    · have ei : rItem q = (none, q5) := by
        unfold rItem
        rw [hraw, if_pos (by simpa using hb)]
      rw [ei] at hK
      simp [kC5, kb5, y3, y4, hrr, hb, kC9, kb9, kA9, ka9, hn1, hn2, hrh, item0]
      exact Fin'.mk (itV none) q5 a9 ⟨_, by simp [resV, resP, hn1, hn2, ka9, kA9, kC9, kb9, item0]; try rfl, by simp⟩ (by repeat' (first | exact Wl.nil | exact Wl.one w1 | exact Wl.one w2 | exact Wl.one w3 | exact Wl.one w4 | exact Wl.one w5 | refine Wl.cons (by omega) ?_ | refine Wl.app ?_ ?_)) (by repeat (first | exact c5.y | refine Bey.grow ?_ | refine Bey.put' ?_ (by omega))) y1 y2 (by simp [y3, y4, hrr, hrh]) hK
  · simp [kC5, kb5]
    refine VA_inl (g := 77) (caps := []) rfl rfl ?_
    try simp
    refine rnum_C2 (m := 2000) T0 (C2.grow (C2.putC hv (C2.grow (C2.putC hv (C2.grow c5))))) (by omega) fun H6 wl6 c6 w6 => ?_
    have kA6 := c6.A
    have kC6 := c6.C
    have ka6 := c6.an
    have kb6 := c6.bn
    have x6 := w2k (rNum 2000 q5).1 rNum_le
    simp [kC6, kb6, x6]
    refine VA_inl (g := 77) (caps := []) rfl rfl ?_
    try simp
    refine rnum_C2 (m := 2000) T0 (C2.grow (C2.putC hv c6)) (by omega) fun H7 wl7 c7 w7 => ?_
    have kA7 := c7.A
    have kC7 := c7.C
    have ka7 := c7.an
    have kb7 := c7.bn
    obtain ⟨q6, hq6⟩ : ∃ q6, q6 = (rNum 2000 q5).2 := ⟨_, rfl⟩
    have x7 := w2k (rNum 2000 q6).1 rNum_le
    obtain ⟨q7, hq7⟩ : ∃ q7, q7 = (rNum 2000 q6).2 := ⟨_, rfl⟩
    rw [← hq6, ← hq7] at c7
    simp only [← hq6]
    simp [kC7, kb7, x7]
    obtain ⟨a9, y1, y2, y3⟩ := c7.S.at_
    have y4 := c7.S.hr
    have ka9 := c7.an
    have kb9 := c7.bn
    have kA9 := c7.A
    have kC9 := c7.C
    have hsp : rSpot 1 q5 = (((((rNum 2000 q5).1 : Int) - 1000, ((rNum 2000 q6).1 : Int) - 1000), []), q7) := by rw [hq7, hq6]; rfl
    rw [hsp] at hraw
    simp only at hraw
    by_cases hb : q7.bad = 0
    · have hi := r7Right_ans T (q := (rItemRaw q).1)
      rw [hraw] at hi
      simp at hi
      by_cases hR : itemR (rItemRaw q).1 = true
      · have ei : rItem q = (some (rItemRaw q).1, q7) := by
          unfold rItem
          rw [hraw] at hR ⊢
          rw [if_neg (by simpa using hb), if_pos hR]
        rw [ei] at hK
        rw [hraw] at hR hK
        simp at hR
        simp [kC7, kb7, x7, y3, y4, hrr, hb, kC9, kb9, kA9, ka9, hn1, hn2, hrh, item0, hi, hR]
        exact Fin'.mk (itV (some _)) q7 a9 ⟨_, by simp [resV, resP, hn1, hn2, ka9, kA9, kC9, kb9, item0]; try rfl, by simp⟩ (by repeat' (first | exact Wl.nil | exact Wl.one w1 | exact Wl.one w2 | exact Wl.one w3 | exact Wl.one w4 | exact Wl.one w5 | exact Wl.one w6 | exact Wl.one w7 | refine Wl.cons (by omega) ?_ | refine Wl.app ?_ ?_)) (by repeat (first | exact c7.y | refine Bey.grow ?_ | refine Bey.put' ?_ (by omega))) y1 y2 (by simp [y3, y4, hrr, hrh]) hK
      · have ei : rItem q = (none, q7) := by
          unfold rItem
          rw [hraw] at hR ⊢
          rw [if_neg (by simpa using hb), if_neg hR]
        rw [ei] at hK
        rw [hraw] at hR
        simp at hR
        simp [kC7, kb7, x7, y3, y4, hrr, hb, kC9, kb9, kA9, ka9, hn1, hn2, hrh, item0, hi, hR]
        exact Fin'.mk (itV none) q7 a9 ⟨_, by simp [resV, resP, hn1, hn2, ka9, kA9, kC9, kb9, item0]; try rfl, by simp⟩ (by repeat' (first | exact Wl.nil | exact Wl.one w1 | exact Wl.one w2 | exact Wl.one w3 | exact Wl.one w4 | exact Wl.one w5 | exact Wl.one w6 | exact Wl.one w7 | refine Wl.cons (by omega) ?_ | refine Wl.app ?_ ?_)) (by repeat (first | exact c7.y | refine Bey.grow ?_ | refine Bey.put' ?_ (by omega))) y1 y2 (by simp [y3, y4, hrr, hrh]) hK
    · have ei : rItem q = (none, q7) := by
        unfold rItem
        rw [hraw, if_pos (by simpa using hb)]
      rw [ei] at hK
      simp [kC7, kb7, x7, y3, y4, hrr, hb, kC9, kb9, kA9, ka9, hn1, hn2, hrh, item0]
      exact Fin'.mk (itV none) q7 a9 ⟨_, by simp [resV, resP, hn1, hn2, ka9, kA9, kC9, kb9, item0]; try rfl, by simp⟩ (by repeat' (first | exact Wl.nil | exact Wl.one w1 | exact Wl.one w2 | exact Wl.one w3 | exact Wl.one w4 | exact Wl.one w5 | exact Wl.one w6 | exact Wl.one w7 | refine Wl.cons (by omega) ?_ | refine Wl.app ?_ ?_)) (by repeat (first | exact c7.y | refine Bey.grow ?_ | refine Bey.put' ?_ (by omega))) y1 y2 (by simp [y3, y4, hrr, hrh]) hK
  · simp [kC5, kb5]
    refine VA_inl (g := 77) (caps := []) rfl rfl ?_
    try simp
    refine rnum_C2 (m := 2000) T0 (C2.grow (C2.putC hv (C2.grow (C2.putC hv (C2.grow c5))))) (by omega) fun H6 wl6 c6 w6 => ?_
    have kA6 := c6.A
    have kC6 := c6.C
    have ka6 := c6.an
    have kb6 := c6.bn
    have x6 := w2k (rNum 2000 q5).1 rNum_le
    simp [kC6, kb6, x6]
    refine VA_inl (g := 77) (caps := []) rfl rfl ?_
    try simp
    refine rnum_C2 (m := 2000) T0 (C2.grow (C2.putC hv c6)) (by omega) fun H7 wl7 c7 w7 => ?_
    have kA7 := c7.A
    have kC7 := c7.C
    have ka7 := c7.an
    have kb7 := c7.bn
    obtain ⟨q6, hq6⟩ : ∃ q6, q6 = (rNum 2000 q5).2 := ⟨_, rfl⟩
    have x7 := w2k (rNum 2000 q6).1 rNum_le
    obtain ⟨q7, hq7⟩ : ∃ q7, q7 = (rNum 2000 q6).2 := ⟨_, rfl⟩
    rw [← hq6, ← hq7] at c7
    simp only [← hq6]
    simp [kC7, kb7, x7]
    refine VA_inl (g := 78) (caps := []) rfl rfl ?_
    try simp
    refine rtext_C2 (m := 16) T0 (C2.grow (C2.putC hv c7)) (by omega) fun H8 wl8 c8 w8 => ?_
    have kA8 := c8.A
    have kC8 := c8.C
    have ka8 := c8.an
    have kb8 := c8.bn
    obtain ⟨q8, hq8⟩ : ∃ q8, q8 = (rText 16 q7).2 := ⟨_, rfl⟩
    rw [← hq8] at c8
    simp [kC8, kb8]
    obtain ⟨a9, y1, y2, y3⟩ := c8.S.at_
    have y4 := c8.S.hr
    have ka9 := c8.an
    have kb9 := c8.bn
    have kA9 := c8.A
    have kC9 := c8.C
    have hsp : rSpot 2 q5 = (((((rNum 2000 q5).1 : Int) - 1000, ((rNum 2000 q6).1 : Int) - 1000), (rText 16 q7).1), q8) := by rw [hq8, hq7, hq6]; rfl
    rw [hsp] at hraw
    simp only at hraw
    by_cases hb : q8.bad = 0
    · have hi := r7Right_ans T (q := (rItemRaw q).1)
      rw [hraw] at hi
      simp at hi
      by_cases hR : itemR (rItemRaw q).1 = true
      · have ei : rItem q = (some (rItemRaw q).1, q8) := by
          unfold rItem
          rw [hraw] at hR ⊢
          rw [if_neg (by simpa using hb), if_pos hR]
        rw [ei] at hK
        rw [hraw] at hR hK
        simp at hR
        simp [kC8, kb8, y3, y4, hrr, hb, kC9, kb9, kA9, ka9, hn1, hn2, hrh, item0, hi, hR]
        exact Fin'.mk (itV (some _)) q8 a9 ⟨_, by simp [resV, resP, hn1, hn2, ka9, kA9, kC9, kb9, item0]; try rfl, by simp⟩ (by repeat' (first | exact Wl.nil | exact Wl.one w1 | exact Wl.one w2 | exact Wl.one w3 | exact Wl.one w4 | exact Wl.one w5 | exact Wl.one w6 | exact Wl.one w7 | exact Wl.one w8 | refine Wl.cons (by omega) ?_ | refine Wl.app ?_ ?_)) (by repeat (first | exact c8.y | refine Bey.grow ?_ | refine Bey.put' ?_ (by omega))) y1 y2 (by simp [y3, y4, hrr, hrh]) hK
      · have ei : rItem q = (none, q8) := by
          unfold rItem
          rw [hraw] at hR ⊢
          rw [if_neg (by simpa using hb), if_neg hR]
        rw [ei] at hK
        rw [hraw] at hR
        simp at hR
        simp [kC8, kb8, y3, y4, hrr, hb, kC9, kb9, kA9, ka9, hn1, hn2, hrh, item0, hi, hR]
        exact Fin'.mk (itV none) q8 a9 ⟨_, by simp [resV, resP, hn1, hn2, ka9, kA9, kC9, kb9, item0]; try rfl, by simp⟩ (by repeat' (first | exact Wl.nil | exact Wl.one w1 | exact Wl.one w2 | exact Wl.one w3 | exact Wl.one w4 | exact Wl.one w5 | exact Wl.one w6 | exact Wl.one w7 | exact Wl.one w8 | refine Wl.cons (by omega) ?_ | refine Wl.app ?_ ?_)) (by repeat (first | exact c8.y | refine Bey.grow ?_ | refine Bey.put' ?_ (by omega))) y1 y2 (by simp [y3, y4, hrr, hrh]) hK
    · have ei : rItem q = (none, q8) := by
        unfold rItem
        rw [hraw, if_pos (by simpa using hb)]
      rw [ei] at hK
      simp [kC8, kb8, y3, y4, hrr, hb, kC9, kb9, kA9, ka9, hn1, hn2, hrh, item0]
      exact Fin'.mk (itV none) q8 a9 ⟨_, by simp [resV, resP, hn1, hn2, ka9, kA9, kC9, kb9, item0]; try rfl, by simp⟩ (by repeat' (first | exact Wl.nil | exact Wl.one w1 | exact Wl.one w2 | exact Wl.one w3 | exact Wl.one w4 | exact Wl.one w5 | exact Wl.one w6 | exact Wl.one w7 | exact Wl.one w8 | refine Wl.cons (by omega) ?_ | refine Wl.app ?_ ?_)) (by repeat (first | exact c8.y | refine Bey.grow ?_ | refine Bey.put' ?_ (by omega))) y1 y2 (by simp [y3, y4, hrr, hrh]) hK
end Go.Evl.Zone

namespace Go.Evl.Zone
open Go Go.Evl
variable {P : Program}
theorem wpart_IC (T : TT P) {H : Heap} {r : Nat} {v : PV} {B : Bytes} {q : Src} {K : PV → Heap → List Nat → Prop} (h : RdS H r v B q)
    (hK : ∀ H' wl, RdS H' r v B (rNum 2000 q).2 → Oth H r H' → (∀ i ∈ wl, i = r) → K (.val (.float .f64 (fw ((rNum 2000 q).1 - 1000)))) H' wl) : IC (env P) 156 [.ptr r 0] H K := by
  obtain ⟨a, ha, hq, hB⟩ := h.at_
  have hr := h.hr
  refine IC_rdx (cf := c156) rfl rfl h ?_
  simp [c156]
  refine VA_inl (g := 42) (caps := []) rfl rfl ?_
  try simp
  refine wnum_IC (m := 2000) T (h.grow (m := 0)) (by omega) fun H1 wl1 s1 o1 w1 => ?_
  have hn : (rNum 2000 q).1 ≤ 2000 := rNum_le
  have w2 : IntKind.i64.wrap (((rNum 2000 q).1 : Int) - 1000) = ((rNum 2000 q).1 : Int) - 1000 := wrap64_id (by omega)
  have cf : ∀ n : Int, scal P (Go.convert 3 165 (.int .i64 n)) = some (.val (.float .f64 (fw n))) := fun n => cv_if (by rw [T.ty.t3]; rfl) T.ty.t41
  try simp [w2, cf]
  obtain ⟨a1, x1, x2, x3⟩ := s1.at_
  have y4 := s1.hr
  exact Fin'.mk _ (rNum 2000 q).2 a1 ⟨_, by simp; rfl, by simp⟩ (Wl.one w1) (by repeat (first | exact (Bey.refl.grow (m := 0)).oth o1 | refine Bey.grow ?_)) x1 x2 (by simp [x3, y4]) hK
section
variable {H h h' : Heap} {r : Nat} {v : PV} {B : Bytes} {q q' : Src} {a : Nat} {ca ca' : List PV} {b : Nat} {cb cb' : List PV} {m : Nat}
theorem wnum_C2 (T : TT P) {m : Nat} {K : PV → Heap → List Nat → Prop} (c : C2 H r v B q a ca b cb h) (hm : m < 9223372036854775808)
    (hK : ∀ H' wl, C2 H r v B (rNum m q).2 a ca b cb H' → (∀ i ∈ wl, i = r) → K (iv (rNum m q).1) H' wl) : IC (env P) 42 [.ptr r 0, iv m] h K :=
  wnum_IC T c.S hm fun H' wl s o w => hK H' wl (c.oth o s) w
theorem wtext_C2 (T : TT P) {m : Nat} {K : PV → Heap → List Nat → Prop} (c : C2 H r v B q a ca b cb h) (hm : m < 9223372036854775808)
    (hK : ∀ H' wl, C2 H r v B (rText m q).2 a ca b cb H' → (∀ i ∈ wl, i = r) → K (sv (rText m q).1) H' wl) : IC (env P) 99 [.ptr r 0, iv m] h K :=
  wtext_IC T c.S hm fun H' wl s o w => hK H' wl (c.oth o s) w
theorem wpart_C2 (T : TT P) {K : PV → Heap → List Nat → Prop} (c : C2 H r v B q a ca b cb h)
    (hK : ∀ H' wl, C2 H r v B (rNum 2000 q).2 a ca b cb H' → (∀ i ∈ wl, i = r) → K (.val (.float .f64 (fw ((rNum 2000 q).1 - 1000)))) H' wl) : IC (env P) 156 [.ptr r 0] h K :=
  wpart_IC T c.S fun H' wl s o w => hK H' wl (c.oth o s) w
theorem C2.mk' (hB : ∃ cs, H.at_ r = .box cs) (hv : Bf H v B) (hr : r < H.n) (s : RdS h r v B q) (y : Bey H r h) (a0 : H.n ≤ a) (an : a < h.n) (ab : a ≠ b) (b0 : H.n ≤ b) (bn : b < h.n) (A : h.at_ a = .box ca) : C2 H r v B q a ca b cb (h.put b (.box cb)) := by
  refine ⟨s.put' hB hv y hr b0, y.put' b0, a0, by simpa using an, ab, b0, by simpa using bn, ?_, by simp, hr, hB⟩
  simp [ab, A]
end
theorem fw0 : fw 0 = 0 := by decide +kernel
noncomputable abbrev itW (o : Option Item) : PV := match o with | some a => .tup [.agg (itP a), bv true] | none => .tup [.agg (itP item0), bv false]
set_option maxHeartbeats 3200000 in
theorem pitem_IC (T : TT P) {H : Heap} {r : Nat} {v : PV} {B : Bytes} {q : Src} {K : PV → Heap → List Nat → Prop} (h : RdS H r v B q)
    (hK : ∀ H' wl, RdS H' r v B (rItem q).2 → Oth H r H' → (∀ i ∈ wl, i = r) → K (itW (rItem q).1) H' wl) : IC (env P) 110 [.ptr r 0] H K := by
  obtain ⟨a, ha, hq, hB⟩ := h.at_
  have hr := h.hr
  have hv := h.b
  refine IC_rdx (cf := c110) rfl rfl h ?_
  have hrr : ¬ r = H.n + 1 := by omega
  have hrh : ¬ r = H.n := by omega
  have hn1 : ¬ H.n + 1 = H.n := by omega
  have hn2 : ¬ H.n = H.n + 1 := by omega
  have z0 : itP item0 = [iv 0, sv [], iv 0, iv 0, bv false, .val (.complex .f64 0 0), sv [], bv false] := by
    simp only [itP, item0, cw, fw0]
  simp [c110]
  refine VA_inl (g := 42) (caps := []) rfl rfl ?_
  try simp
  have b0 : Bey H r (((H.grow 1).put H.n (.box [iv 0, sv [], iv 0, iv 0, bv false, .val (.complex .f64 0 0), sv [], bv false])).grow 1) := ((Bey.refl.grow).put' (Nat.le_refl _)).grow
  refine wnum_IC (m := 31) T (q := q) (v := v) (B := B) (RdS.put' h.grow ⟨_, hB⟩ hv Bey.refl.grow hr (Nat.le_refl _)).grow (by omega) fun H1 wl1 s1 o1 w1 => ?_
  have n1 : H1.n = H.n + 1 + 1 := by rw [o1.n]; simp
  have A1 : H1.at_ H.n = .box [iv 0, sv [], iv 0, iv 0, bv false, .val (.complex .f64 0 0), sv [], bv false] := by
    rw [o1.at_ H.n (by simp) (by omega)]
    simp
  have d1 : H1.at_ (H.n + 1) = .dead := by
    rw [o1.at_ (H.n + 1) (by simp) (by omega)]
    simp
  have c1 : ∀ cb, C2 H r v B (rNum 31 q).2 H.n [iv 0, sv [], iv 0, iv 0, bv false, .val (.complex .f64 0 0), sv [], bv false] (H.n + 1) cb (H1.put (H.n + 1) (.box cb)) := fun cb => C2.mk' ⟨_, hB⟩ hv hr s1 (b0.oth o1) (Nat.le_refl _) (by omega) (by omega) (by omega) (by omega) A1
  have l1 : H.n + 1 < H1.n := by omega
  simp [A1, d1, n1, l1]
  refine VA_inl (g := 99) (caps := []) rfl rfl ?_
  try simp
  refine wtext_C2 (m := 6) T (C2.grow (C2.putC hv (c1 _))) (by omega) fun H2 wl2 c2 w2 => ?_
  have kA2 := c2.A
  have kC2 := c2.C
  have ka2 := c2.an
  have kb2 := c2.bn
  simp [kC2, kb2]
  refine VA_inl (g := 42) (caps := []) rfl rfl ?_
  try simp
  refine wnum_C2 (m := 1048576) T (C2.grow (C2.putC hv c2)) (by omega) fun H3 wl3 c3 w3 => ?_
  have kA3 := c3.A
  have kC3 := c3.C
  have ka3 := c3.an
  have kb3 := c3.bn
  try simp [kC3, kb3]
  refine VA_inl (g := 42) (caps := []) rfl rfl ?_
  try simp
  refine wnum_C2 (m := 1048576) T c3 (by omega) fun H4 wl4 c4 w4 => ?_
  have kA4 := c4.A
  have kC4 := c4.C
  have ka4 := c4.an
  have kb4 := c4.bn
  simp [kC4, kb4]
  refine VA_inl (g := 42) (caps := []) rfl rfl ?_
  try simp
  refine wnum_C2 (m := 2) T (C2.grow (C2.putC hv (C2.putC hv c4))) (by omega) fun H5 wl5 c5 w5 => ?_
  have kA5 := c5.A
  have kC5 := c5.C
  have ka5 := c5.an
  have kb5 := c5.bn
  obtain ⟨q4, hq4⟩ : ∃ q4, q4 = (rNum 1048576 (rNum 1048576 (rText 6 (rNum 31 q).2).2).2).2 := ⟨_, rfl⟩
  obtain ⟨d, hd⟩ : ∃ d, d = (rNum 2 q4).1 := ⟨_, rfl⟩
  obtain ⟨q5, hq5⟩ : ∃ q5, q5 = (rNum 2 q4).2 := ⟨_, rfl⟩
  have hraw : rItemRaw q = (⟨(rNum 31 q).1, (rText 6 (rNum 31 q).2).1, (rNum 1048576 (rText 6 (rNum 31 q).2).2).1, (rNum 1048576 (rNum 1048576 (rText 6 (rNum 31 q).2).2).2).1, d == 0, (rSpot d q5).1.1.1, (rSpot d q5).1.1.2, (rSpot d q5).1.2, d == 2⟩, (rSpot d q5).2) := by
    rw [hd, hq5, hq4]
    rfl
  rw [← hq4, ← hq5] at c5
  simp only [← hq4, ← hd]
  have hd2 : d ≤ 2 := by rw [hd]; exact rNum_le
  have fc : ∀ x y : Nat, evFun P .complex #[165, 165] 91 [.float .f64 x, .float .f64 y] = some (.val (.complex .f64 x y)) := fun _ _ => rfl
  rcases (show d = 0 ∨ d = 1 ∨ d = 2 by omega) with rfl | rfl | rfl
  · simp [kC5, kb5]
    obtain ⟨a9, y1, y2, y3⟩ := c5.S.at_
    have y4 := c5.S.hr
    have ka9 := c5.an
    have kb9 := c5.bn
    have kA9 := c5.A
    have kC9 := c5.C
    have hsp : rSpot 0 q5 = (((0, 0), []), q5) := rfl
    rw [hsp] at hraw
    simp only at hraw
    refine VA_inl (g := 43) (caps := []) rfl rfl ?_
    try simp
    refine werr_IC T (C2.S (C2.grow (C2.putC hv (C2.putC hv (C2.grow c5))))) ?_
    have hsm : (rItemRaw q).1.sm := by
      rw [hraw]
      exact ⟨⟨by show (-1099511627776 : Int) ≤ 0; omega, by show (0 : Int) ≤ 1099511627776; omega⟩, ⟨by show (-1099511627776 : Int) ≤ 0; omega, by show (0 : Int) ≤ 1099511627776; omega⟩⟩
    by_cases hb : q5.bad = 0
    · have hi := itemRight_ans (P := P) hsm
      rw [hraw] at hi
      simp [itP, cw, fw0] at hi
      by_cases hR : itemR (rItemRaw q).1 = true
      · have ei : rItem q = (some (rItemRaw q).1, q5) := by
          unfold rItem
          rw [hraw] at hR ⊢
          rw [if_neg (by simpa using hb), if_pos hR]
        rw [ei] at hK
        rw [hraw] at hR hK
        simp at hR
        simp [kC5, kb5, y3, y4, hrr, hb, kC9, kb9, kA9, ka9, hn1, hn2, hrh, hi, hR]
        exact Fin'.mk (itW (some _)) q5 a9 ⟨_, by simp only [itW]; simp [resV, resP, hn1, hn2, ka9, kA9, kC9, kb9, item0, itP, cw, fw0]; try rfl, by simp⟩ (by repeat' (first | exact Wl.nil | exact Wl.one w1 | exact Wl.one w2 | exact Wl.one w3 | exact Wl.one w4 | exact Wl.one w5 | refine Wl.cons (by omega) ?_ | refine Wl.app ?_ ?_)) (by repeat (first | exact c5.y | refine Bey.grow ?_ | refine Bey.put' ?_ (by omega))) y1 y2 (by simp [y3, y4, hrr, hrh]) hK
      · have ei : rItem q = (none, q5) := by
          unfold rItem
          rw [hraw] at hR ⊢
          rw [if_neg (by simpa using hb), if_neg hR]
        rw [ei] at hK
        rw [hraw] at hR
        simp at hR
        simp [kC5, kb5, y3, y4, hrr, hb, kC9, kb9, kA9, ka9, hn1, hn2, hrh, hi, hR]
        exact Fin'.mk (itW none) q5 a9 ⟨_, by simp only [itW]; simp [resV, resP, hn1, hn2, ka9, kA9, kC9, kb9, z0, item0, itP, cw, fw0]; try rfl, by simp⟩ (by repeat' (first | exact Wl.nil | exact Wl.one w1 | exact Wl.one w2 | exact Wl.one w3 | exact Wl.one w4 | exact Wl.one w5 | refine Wl.cons (by omega) ?_ | refine Wl.app ?_ ?_)) (by repeat (first | exact c5.y | refine Bey.grow ?_ | refine Bey.put' ?_ (by omega))) y1 y2 (by simp [y3, y4, hrr, hrh]) hK
    · have ei : rItem q = (none, q5) := by
        unfold rItem
        rw [hraw, if_pos (by simpa using hb)]
      rw [ei] at hK
      simp [kC5, kb5, y3, y4, hrr, hb, kC9, kb9, kA9, ka9, hn1, hn2, hrh]
      exact Fin'.mk (itW none) q5 a9 ⟨_, by simp only [itW]; simp [resV, resP, hn1, hn2, ka9, kA9, kC9, kb9, z0, item0, itP, cw, fw0]; try rfl, by simp⟩ (by repeat' (first | exact Wl.nil | exact Wl.one w1 | exact Wl.one w2 | exact Wl.one w3 | exact Wl.one w4 | exact Wl.one w5 | refine Wl.cons (by omega) ?_ | refine Wl.app ?_ ?_)) (by repeat (first | exact c5.y | refine Bey.grow ?_ | refine Bey.put' ?_ (by omega))) y1 y2 (by simp [y3, y4, hrr, hrh]) hK
  · simp [kC5, kb5]
    refine VA_inl (g := 156) (caps := []) rfl rfl ?_
    try simp
    refine wpart_C2 T (C2.grow (C2.putC hv (C2.putC hv (C2.grow c5)))) fun H6 wl6 c6 w6 => ?_
    have kA6 := c6.A
    have kC6 := c6.C
    have ka6 := c6.an
    have kb6 := c6.bn
    try simp [kC6, kb6]
    refine VA_inl (g := 156) (caps := []) rfl rfl ?_
    try simp
    refine wpart_C2 T (C2.grow c6) fun H7 wl7 c7 w7 => ?_
    have kA7 := c7.A
    have kC7 := c7.C
    have ka7 := c7.an
    have kb7 := c7.bn
    obtain ⟨q6, hq6⟩ : ∃ q6, q6 = (rNum 2000 q5).2 := ⟨_, rfl⟩
    obtain ⟨q7, hq7⟩ : ∃ q7, q7 = (rNum 2000 q6).2 := ⟨_, rfl⟩
    rw [← hq6, ← hq7] at c7
    simp only [← hq6]
    simp [kC7, kb7, fc]
    obtain ⟨a9, y1, y2, y3⟩ := c7.S.at_
    have y4 := c7.S.hr
    have ka9 := c7.an
    have kb9 := c7.bn
    have kA9 := c7.A
    have kC9 := c7.C
    have hsp : rSpot 1 q5 = (((((rNum 2000 q5).1 : Int) - 1000, ((rNum 2000 q6).1 : Int) - 1000), []), q7) := by rw [hq7, hq6]; rfl
    rw [hsp] at hraw
    simp only at hraw
    refine VA_inl (g := 43) (caps := []) rfl rfl ?_
    try simp
    refine werr_IC T (C2.S (C2.grow (C2.putC hv c7))) ?_
    have hsm : (rItemRaw q).1.sm := by
      rw [hraw]
      have g1 : (rNum 2000 q5).1 ≤ 2000 := rNum_le
      have g2 : (rNum 2000 q6).1 ≤ 2000 := rNum_le
      exact ⟨⟨by show -1099511627776 ≤ ((rNum 2000 q5).1 : Int) - 1000; omega, by show ((rNum 2000 q5).1 : Int) - 1000 ≤ 1099511627776; omega⟩, ⟨by show -1099511627776 ≤ ((rNum 2000 q6).1 : Int) - 1000; omega, by show ((rNum 2000 q6).1 : Int) - 1000 ≤ 1099511627776; omega⟩⟩
    by_cases hb : q7.bad = 0
    · have hi := itemRight_ans (P := P) hsm
      rw [hraw] at hi
      simp [itP, cw, fw0] at hi
      by_cases hR : itemR (rItemRaw q).1 = true
      · have ei : rItem q = (some (rItemRaw q).1, q7) := by
          unfold rItem
          rw [hraw] at hR ⊢
          rw [if_neg (by simpa using hb), if_pos hR]
        rw [ei] at hK
        rw [hraw] at hR hK
        simp at hR
        simp [kC7, kb7, y3, y4, hrr, hb, kC9, kb9, kA9, ka9, hn1, hn2, hrh, hi, hR]
        exact Fin'.mk (itW (some _)) q7 a9 ⟨_, by simp only [itW]; simp [resV, resP, hn1, hn2, ka9, kA9, kC9, kb9, item0, itP, cw, fw0]; try rfl, by simp⟩ (by repeat' (first | exact Wl.nil | exact Wl.one w1 | exact Wl.one w2 | exact Wl.one w3 | exact Wl.one w4 | exact Wl.one w5 | exact Wl.one w6 | exact Wl.one w7 | refine Wl.cons (by omega) ?_ | refine Wl.app ?_ ?_)) (by repeat (first | exact c7.y | refine Bey.grow ?_ | refine Bey.put' ?_ (by omega))) y1 y2 (by simp [y3, y4, hrr, hrh]) hK
      · have ei : rItem q = (none, q7) := by
          unfold rItem
          rw [hraw] at hR ⊢
          rw [if_neg (by simpa using hb), if_neg hR]
        rw [ei] at hK
        rw [hraw] at hR
        simp at hR
        simp [kC7, kb7, y3, y4, hrr, hb, kC9, kb9, kA9, ka9, hn1, hn2, hrh, hi, hR]
        exact Fin'.mk (itW none) q7 a9 ⟨_, by simp only [itW]; simp [resV, resP, hn1, hn2, ka9, kA9, kC9, kb9, z0, item0, itP, cw, fw0]; try rfl, by simp⟩ (by repeat' (first | exact Wl.nil | exact Wl.one w1 | exact Wl.one w2 | exact Wl.one w3 | exact Wl.one w4 | exact Wl.one w5 | exact Wl.one w6 | exact Wl.one w7 | refine Wl.cons (by omega) ?_ | refine Wl.app ?_ ?_)) (by repeat (first | exact c7.y | refine Bey.grow ?_ | refine Bey.put' ?_ (by omega))) y1 y2 (by simp [y3, y4, hrr, hrh]) hK
    · have ei : rItem q = (none, q7) := by
        unfold rItem
        rw [hraw, if_pos (by simpa using hb)]
      rw [ei] at hK
      simp [kC7, kb7, y3, y4, hrr, hb, kC9, kb9, kA9, ka9, hn1, hn2, hrh]
      exact Fin'.mk (itW none) q7 a9 ⟨_, by simp only [itW]; simp [resV, resP, hn1, hn2, ka9, kA9, kC9, kb9, z0, item0, itP, cw, fw0]; try rfl, by simp⟩ (by repeat' (first | exact Wl.nil | exact Wl.one w1 | exact Wl.one w2 | exact Wl.one w3 | exact Wl.one w4 | exact Wl.one w5 | exact Wl.one w6 | exact Wl.one w7 | refine Wl.cons (by omega) ?_ | refine Wl.app ?_ ?_)) (by repeat (first | exact c7.y | refine Bey.grow ?_ | refine Bey.put' ?_ (by omega))) y1 y2 (by simp [y3, y4, hrr, hrh]) hK
  · simp [kC5, kb5]
    refine VA_inl (g := 156) (caps := []) rfl rfl ?_
    try simp
    refine wpart_C2 T (C2.grow (C2.putC hv (C2.putC hv (C2.grow c5)))) fun H6 wl6 c6 w6 => ?_
    have kA6 := c6.A
    have kC6 := c6.C
    have ka6 := c6.an
    have kb6 := c6.bn
    try simp [kC6, kb6]
    refine VA_inl (g := 156) (caps := []) rfl rfl ?_
    try simp
    refine wpart_C2 T (C2.grow c6) fun H7 wl7 c7 w7 => ?_
    have kA7 := c7.A
    have kC7 := c7.C
    have ka7 := c7.an
    have kb7 := c7.bn
    obtain ⟨q6, hq6⟩ : ∃ q6, q6 = (rNum 2000 q5).2 := ⟨_, rfl⟩
    obtain ⟨q7, hq7⟩ : ∃ q7, q7 = (rNum 2000 q6).2 := ⟨_, rfl⟩
    rw [← hq6, ← hq7] at c7
    simp only [← hq6]
    simp [kC7, kb7, fc]
    refine VA_inl (g := 99) (caps := []) rfl rfl ?_
    try simp
    refine wtext_C2 (m := 16) T (C2.grow (C2.putC hv c7)) (by omega) fun H8 wl8 c8 w8 => ?_
    have kA8 := c8.A
    have kC8 := c8.C
    have ka8 := c8.an
    have kb8 := c8.bn
    obtain ⟨q8, hq8⟩ : ∃ q8, q8 = (rText 16 q7).2 := ⟨_, rfl⟩
    rw [← hq8] at c8
    simp [kC8, kb8]
    obtain ⟨a9, y1, y2, y3⟩ := c8.S.at_
    have y4 := c8.S.hr
    have ka9 := c8.an
    have kb9 := c8.bn
    have kA9 := c8.A
    have kC9 := c8.C
    have hsp : rSpot 2 q5 = (((((rNum 2000 q5).1 : Int) - 1000, ((rNum 2000 q6).1 : Int) - 1000), (rText 16 q7).1), q8) := by rw [hq8, hq7, hq6]; rfl
    rw [hsp] at hraw
    simp only at hraw
    refine VA_inl (g := 43) (caps := []) rfl rfl ?_
    try simp
    refine werr_IC T (C2.S (C2.grow (C2.putC hv c8))) ?_
    have hsm : (rItemRaw q).1.sm := by
      rw [hraw]
      have g1 : (rNum 2000 q5).1 ≤ 2000 := rNum_le
      have g2 : (rNum 2000 q6).1 ≤ 2000 := rNum_le
      exact ⟨⟨by show -1099511627776 ≤ ((rNum 2000 q5).1 : Int) - 1000; omega, by show ((rNum 2000 q5).1 : Int) - 1000 ≤ 1099511627776; omega⟩, ⟨by show -1099511627776 ≤ ((rNum 2000 q6).1 : Int) - 1000; omega, by show ((rNum 2000 q6).1 : Int) - 1000 ≤ 1099511627776; omega⟩⟩
    by_cases hb : q8.bad = 0
    · have hi := itemRight_ans (P := P) hsm
      rw [hraw] at hi
      simp [itP, cw, fw0] at hi
      by_cases hR : itemR (rItemRaw q).1 = true
      · have ei : rItem q = (some (rItemRaw q).1, q8) := by
          unfold rItem
          rw [hraw] at hR ⊢
          rw [if_neg (by simpa using hb), if_pos hR]
        rw [ei] at hK
        rw [hraw] at hR hK
        simp at hR
        simp [kC8, kb8, y3, y4, hrr, hb, kC9, kb9, kA9, ka9, hn1, hn2, hrh, hi, hR]
        exact Fin'.mk (itW (some _)) q8 a9 ⟨_, by simp only [itW]; simp [resV, resP, hn1, hn2, ka9, kA9, kC9, kb9, item0, itP, cw, fw0]; try rfl, by simp⟩ (by repeat' (first | exact Wl.nil | exact Wl.one w1 | exact Wl.one w2 | exact Wl.one w3 | exact Wl.one w4 | exact Wl.one w5 | exact Wl.one w6 | exact Wl.one w7 | exact Wl.one w8 | refine Wl.cons (by omega) ?_ | refine Wl.app ?_ ?_)) (by repeat (first | exact c8.y | refine Bey.grow ?_ | refine Bey.put' ?_ (by omega))) y1 y2 (by simp [y3, y4, hrr, hrh]) hK
      · have ei : rItem q = (none, q8) := by
          unfold rItem
          rw [hraw] at hR ⊢
          rw [if_neg (by simpa using hb), if_neg hR]
        rw [ei] at hK
        rw [hraw] at hR
        simp at hR
        simp [kC8, kb8, y3, y4, hrr, hb, kC9, kb9, kA9, ka9, hn1, hn2, hrh, hi, hR]
        exact Fin'.mk (itW none) q8 a9 ⟨_, by simp only [itW]; simp [resV, resP, hn1, hn2, ka9, kA9, kC9, kb9, z0, item0, itP, cw, fw0]; try rfl, by simp⟩ (by repeat' (first | exact Wl.nil | exact Wl.one w1 | exact Wl.one w2 | exact Wl.one w3 | exact Wl.one w4 | exact Wl.one w5 | exact Wl.one w6 | exact Wl.one w7 | exact Wl.one w8 | refine Wl.cons (by omega) ?_ | refine Wl.app ?_ ?_)) (by repeat (first | exact c8.y | refine Bey.grow ?_ | refine Bey.put' ?_ (by omega))) y1 y2 (by simp [y3, y4, hrr, hrh]) hK
    · have ei : rItem q = (none, q8) := by
        unfold rItem
        rw [hraw, if_pos (by simpa using hb)]
      rw [ei] at hK
      simp [kC8, kb8, y3, y4, hrr, hb, kC9, kb9, kA9, ka9, hn1, hn2, hrh]
      exact Fin'.mk (itW none) q8 a9 ⟨_, by simp only [itW]; simp [resV, resP, hn1, hn2, ka9, kA9, kC9, kb9, z0, item0, itP, cw, fw0]; try rfl, by simp⟩ (by repeat' (first | exact Wl.nil | exact Wl.one w1 | exact Wl.one w2 | exact Wl.one w3 | exact Wl.one w4 | exact Wl.one w5 | exact Wl.one w6 | exact Wl.one w7 | exact Wl.one w8 | refine Wl.cons (by omega) ?_ | refine Wl.app ?_ ?_)) (by repeat (first | exact c8.y | refine Bey.grow ?_ | refine Bey.put' ?_ (by omega))) y1 y2 (by simp [y3, y4, hrr, hrh]) hK
end Go.Evl.Zone

namespace Go.Evl.Zone
open Go Go.Evl
variable {P : Program}
theorem rext_loop (T : Typed P) {H : Heap} {r e n M : Nat} {v : PV} {B : Bytes} {s : Bytes} {u : Int} (hn : n ≤ 4096) (hv : Bf H v B) (hH : ∃ cs, H.at_ r = .box cs) (hre : r ≠ e) (he0 : H.n ≤ e) (hM : e < M) {S : Heap} {ks : List Fr'} {K : Ex → St → Prop} : ∀ (j i : Nat) (L : List Int) (q : Src) (st : St) (x : PV), i + j = n → st.σ 0 = .ptr r 0 → st.σ 6 = .ptr e 0 → st.h.at_ e = .box [sv s, iv u, x] → LN M st.h 1 x (En L) → st.σ 7 = iv n → st.σ 8 = iv i → RdS st.h r v B q → r < H.n → M ≤ st.h.n → L.length ≤ i → Bey H r st.h → (∀ k, k < M → k ≠ r → k ≠ e → st.h.at_ k = S.at_ k) → Wl H r st.wl →
    (∀ st' x', st'.h.at_ e = .box [sv s, iv u, x'] → LN M st'.h 1 x' (En (L ++ (rLoop (rI 1048576) j q).1)) → RdS st'.h r v B (rLoop (rI 1048576) j q).2 → M ≤ st'.h.n → Bey H r st'.h → (∀ k, k < M → k ≠ r → k ≠ e → st'.h.at_ k = S.at_ k) → Wl H r st'.wl → st'.σ 0 = .ptr r 0 → st'.σ 6 = .ptr e 0 → st'.σ 3 = st.σ 3 → st'.σ 4 = st.σ 4 → st'.σ 5 = st.σ 5 → VN (env P) 136 st' ks K) → V (env P) 136 (.loop L136_0) st (.blk 2 :: ks) K := by
  intro j
  induction j with
  | zero =>
    intro i L q st x hi h0 h6 he hl h7 h8 hS hr hMn hL hB hO hw hend
    obtain rfl : i = n := by omega
    have hes : e < st.h.n := by omega
    rw [V_loop]
    simp [L136_0, h0, h6, h7, h8]
    refine hend _ x (by simp [he, hes]) ?_ hS.grow (by simpa using hMn) hB.grow ?_ hw (by simp [h0]) (by simp [h6]) (by simp) (by simp) (by simp)
    · simp only [rLoop, List.append_nil]; exact hl.grow
    · intro k h1 h2 h3
      simp only [at_grow]
      rw [if_pos (by omega), hO k h1 h2 h3]
  | succ j ih =>
    intro i L q st x hi h0 h6 he hl h7 h8 hS hr hMn hL hB hO hw hend
    have hlt : (i : Int) < n := by omega
    obtain ⟨a, ha, hq, hBx⟩ := hS.at_
    have hrs := hS.hr
    have hes : e < st.h.n := by omega
    rw [V_loop]
    by_cases hb : q.bad = 0
    · simp [L136_0, h0, h6, h7, h8, hlt, hBx, hrs, hb, he, hes]
      refine VA_inl (g := 77) (caps := []) rfl rfl ?_
      try simp [h0]
      refine rnum_IC (m := 1048576) T (hS.grow (m := 1)) (by decide) fun H2 wl2 s2 o2 w2 => ?_
      have b2 := (hS.grow (m := 1)).at_
      have b2 : ∃ cs, (st.h.grow 1).at_ r = .box cs := by
        obtain ⟨a, _, _, h⟩ := b2
        exact ⟨_, h⟩
      have hl2 : LN M H2 1 x (En L) := (hl.grow (m := 1)).oth b2 o2
      have n2 : H2.n = st.h.n + 1 := by rw [o2.n]; simp
      have d2 : H2.at_ st.h.n = .dead := by
        rw [o2.at_ st.h.n (by simp) (by omega)]
        simp
      simp [chunks, elems, allLen]
      refine VP_appN (N := M) (ys := En L) hl2 d2 (by omega) hMn (by simp [allLen]) (by simp; unfold most; omega) fun v' H3 wr rd a2 a3 a4 a5 a6 => ?_
      simp
      have e2 : H2.at_ e = .box [sv s, iv u, x] := by
        rw [o2.at_ e (by simp; omega) (Ne.symm hre)]
        simp [hes, he]
      have e3 := a4 _ _ e2
      have hwe : e ∉ wl2 := fun q => hre (w2 e q).symm
      have hwe2 : ∀ i ∈ wl2, ¬ i = e := fun i q z => hre ((w2 i q).symm.trans z)
      have w5 : IntKind.i64.wrap ((i : Int) + 1) = ((i + 1 : Nat) : Int) := by rw [wrap64_id (by omega)]; omega
      have hv' : (∃ ys, v' = .im ys true) ∨ ∃ r k g o n, v' = .sl r k g o n := by
        rcases a2.l with ⟨h, _⟩ | ⟨_, _, h, _⟩
        · exact .inl ⟨_, h⟩
        · exact .inr ⟨_, _, _, _, _, h⟩
      rcases hv' with ⟨ys, rfl⟩ | ⟨r', k', g', o', n', rfl⟩
      all_goals
        simp [h6, e3, h8, w5, hwe, hwe2]
        refine ⟨⟨by omega, hwe2⟩, ?_⟩
        have B2 : Bey H r H2 := (hB.grow (m := 1)).oth o2
        have B3 : Bey H r H3 := ⟨by rw [a3]; exact B2.n, fun k hk hne => by rw [a5 k (by omega), B2.at_ k hk hne]⟩
        have hS3 : RdS H3 r v B (rNum 1048576 q).2 := by
          obtain ⟨a', x1, x2, x3⟩ := s2.at_
          exact ⟨by rw [a3]; exact s2.hr, hv.bey hH B3, a', x1, x2, a4 _ _ x3⟩
        have eL : rLoop (rI 1048576) (j + 1) q = (((rNum 1048576 q).1 : Int) :: (rLoop (rI 1048576) j (rNum 1048576 q).2).1, (rLoop (rI 1048576) j (rNum 1048576 q).2).2) := by
          simp only [rLoop]
          rw [if_neg (by simp [hb])]
          rfl
        rw [eL] at hend
        have hB4 : ∀ b, Bey H r (H3.put e b) := fun b => ⟨by simpa using B3.n, fun k hk hne => by
          simp only [at_put]
          rw [if_neg (by omega), B3.at_ k hk hne]⟩
        have hS4 : ∀ b, RdS (H3.put e b) r v B (rNum 1048576 q).2 := fun b => by
          obtain ⟨a', x1, x2, x3⟩ := hS3.at_
          exact ⟨by simpa using hS3.hr, hv.bey hH (hB4 b), a', x1, x2, by simp [hre, x3]⟩
        have hO4 : ∀ b k, k < M → k ≠ r → k ≠ e → (H3.put e b).at_ k = S.at_ k := fun b k h1 h2 h3 => by
          simp only [at_put]
          rw [if_neg h3, a5 k h1, o2.at_ k (by simp; omega) h2]
          simp only [at_grow]
          rw [if_pos (by omega), hO k h1 h2 h3]
        refine ih (i + 1) (L ++ [((rNum 1048576 q).1 : Int)]) (rNum 1048576 q).2 _ _ (by omega) (by simp [h0]) (by simp [h6]) (by simp [a3, n2]; rw [if_pos (by omega)]) ?_ (by simp [h7]) (by simp) ?_ hr (by simp [a3, n2]; omega) (by simp; omega) ?_ ?_ ?_ ?_
        · rw [En_append, En_one]
          have := fun b => LN.putN (s := e) (b := b) a2 (.inr ⟨_, e3⟩)
          repeat (first | exact this _ | refine LN.grow ?_)
        · repeat (first | exact hS4 _ | refine RdS.grow ?_)
        · repeat (first | exact hB4 _ | refine Bey.grow ?_)
        · intro k h1 h2 h3
          simp only [at_grow]
          rw [if_pos (by simp [a3, n2]; omega)]
          exact hO4 _ k h1 h2 h3
        · have hwr : Wl H r (wr ++ (wl2 ++ st.wl)) := (Wl.new fun k hk => by have := a6 k hk; omega).app ((Wl.one w2).app hw)
          intro k hk
          rcases List.mem_cons.1 hk with rfl | hk
          · exact .inr he0
          · exact hwr k hk
        · intro st' x' c1 c2 c3 c4 c5 c6 c7 c8 c9 d1 d2 d3
          exact hend st' x' c1 (by simpa using c2) c3 c4 c5 c6 c7 c8 c9 (by simpa using d1) (by simpa using d2) (by simpa using d3)
    · simp [L136_0, h0, h6, h7, h8, hlt, hBx, hrs, hb, he, hes]
      have eL : rLoop (rI 1048576) (j + 1) q = ([], q) := by simp [rLoop, hb]
      rw [eL] at hend
      refine hend _ x (by simp [he, hes]) ?_ hS.grow (by simpa using hMn) hB.grow ?_ hw (by simp [h0]) (by simp [h6]) (by simp) (by simp) (by simp)
      · simp only [List.append_nil]; exact hl.grow
      · intro k h1 h2 h3
        simp only [at_grow]
        rw [if_pos (by omega), hO k h1 h2 h3]
end Go.Evl.Zone

namespace Go.Evl.Zone
open Go Go.Evl
variable {P : Program}
theorem LN.expC {N k : Nat} {H : Heap} {v : PV} {ys : List (List PV)} (h : LN N H k v ys) (hp : plainss ys = some ys) : ∃ is, Evl.expC H v = some (.im ys false, is) ∧ ∀ i ∈ is, N ≤ i := by
  obtain ⟨is, e, h2⟩ := h.exp hp
  refine ⟨is, ?_, h2⟩
  rw [← expV_of, e]
  · intro cs q
    rcases h.l with ⟨h, _⟩ | ⟨_, _, h, _⟩ <;> rw [h] at q <;> cases q
  · intro cs q
    rcases h.l with ⟨h, _⟩ | ⟨_, _, h, _⟩ <;> rw [h] at q <;> cases q
theorem rknow_loop (T : Typed P) {H : Heap} {r n : Nat} {v : PV} {B : Bytes} (hn : n ≤ 64) (hv : Bf H v B) (hH : ∃ cs, H.at_ r = .box cs) {ks : List Fr'} {K : Ex → St → Prop} : ∀ (j i : Nat) (L : List KRow) (q : Src) (st : St) (x : PV), i + j = n → st.σ 0 = .ptr r 0 → st.σ 3 = x → LN H.n st.h 3 x (En L) → st.σ 4 = iv n → st.σ 5 = iv i → RdS st.h r v B q → Bey H r st.h → r < H.n → Wl H r st.wl → L.length ≤ i →
    (∀ st' x', st'.σ 3 = x' → LN H.n st'.h 3 x' (En (L ++ (rLoop rKRow j q).1)) → RdS st'.h r v B (rLoop rKRow j q).2 → Bey H r st'.h → Wl H r st'.wl → VN (env P) 136 st' ks K) → V (env P) 136 (.loop L136_1) st (.blk 0 :: ks) K := by
  intro j
  induction j with
  | zero =>
    intro i L q st x hi h0 h3 hl h4 h5 hS hB hr hw hL hend
    obtain rfl : i = n := by omega
    rw [V_loop]
    simp [L136_1, h0, h4, h5]
    refine hend _ x (by simp [h3]) ?_ ?_ ?_ ?_
    · simp only [rLoop, List.append_nil]; exact hl.grow
    · exact hS.grow
    · exact hB.grow
    · exact hw
  | succ j ih =>
    intro i L q st x hi h0 h3 hl h4 h5 hS hB hr hw hL hend
    have hlt : (i : Int) < n := by omega
    obtain ⟨a, ha, hq, hBx⟩ := hS.at_
    have hrs := hS.hr
    rw [V_loop]
    by_cases hb : q.bad = 0
    · simp [L136_1, h0, h4, h5, hlt, hBx, hrs, hb]
      refine VA_inl (g := 78) (caps := []) rfl rfl ?_
      try simp [h0]
      refine rtext_IC (m := 6) T (hS.grow (m := 0 + 1)) (by decide) fun H1 wl1 s1 o1 w1 => ?_
      simp [h0, h3]
      have b1 : ∃ cs, (st.h.grow (0 + 1)).at_ r = .box cs := by
        obtain ⟨a, _, _, h⟩ := (hS.grow (m := 0 + 1)).at_
        exact ⟨_, h⟩
      have hl1 : LN H.n H1 3 x (En L) := (hl.grow (m := 0 + 1)).oth b1 o1
      have B1 : Bey H r H1 := (hB.grow (m := 0 + 1)).oth o1
      have n1 : H1.n = st.h.n + 1 := by rw [o1.n]; simp
      have hre : r ≠ st.h.n := by omega
      have d1 : H1.at_ st.h.n = .dead := by
        rw [o1.at_ st.h.n (by simp) (Ne.symm hre)]
        simp
      have BP : ∀ {h : Heap} (b : Blk), Bey H r h → Bey H r (h.put st.h.n b) := fun {h} b hh => ⟨by simpa using hh.n, fun k hk hne => by
        have := hB.n
        simp only [at_put]
        rw [if_neg (by omega), hh.at_ k hk hne]⟩
      have SP : ∀ {h : Heap} {q' : Src} (b : Blk), Bey H r h → RdS h r v B q' → RdS (h.put st.h.n b) r v B q' := fun {h q'} b hh hs => by
        obtain ⟨a', x1, x2, x3⟩ := hs.at_
        exact ⟨by simpa using hs.hr, hv.bey hH (BP b hh), a', x1, x2, by simp [hre, x3]⟩
      have LP : ∀ {h : Heap} {k : Nat} {y : PV} {ys : List (List PV)} (b : Blk), LN H.n h k y ys → (h.at_ st.h.n = .dead ∨ ∃ cs, h.at_ st.h.n = .box cs) → LN H.n (h.put st.h.n b) k y ys := fun b hh hd => hh.putN hd
      refine VA_inl (g := 77) (caps := []) rfl rfl ?_
      try simp
      refine rnum_IC (m := 1048576) T ((SP _ (BP _ B1) (SP _ B1 s1)).grow (m := 0)) (by decide) fun H2 wl2 s2 o2 w2 => ?_
      have b2 : ∃ cs, (((H1.put st.h.n (Blk.box [PV.val (Value.string { data := #[] }), PV.val (Value.int IntKind.i64 0), PV.im [] true])).put st.h.n (Blk.box [sv (rText 6 q).1, PV.val (Value.int IntKind.i64 0), PV.im [] true])).grow 0).at_ r = .box cs := by
        obtain ⟨a, _, _, h⟩ := ((SP (Blk.box [sv (rText 6 q).1, PV.val (Value.int IntKind.i64 0), PV.im [] true]) (BP _ B1) (SP (Blk.box [PV.val (Value.string { data := #[] }), PV.val (Value.int IntKind.i64 0), PV.im [] true]) B1 s1)).grow (m := 0)).at_
        exact ⟨_, h⟩
      have hl2 : LN H.n H2 3 x (En L) := LN.oth ((LP _ (LP _ hl1 (.inl d1)) (.inr (by simp))).grow (m := 0)) b2 o2
      have B2 : Bey H r H2 := ((BP _ (BP _ B1)).grow (m := 0)).oth o2
      have n2 : H2.n = st.h.n + 1 := by rw [o2.n]; simp [n1]
      have d2 : H2.at_ st.h.n = .box [sv (rText 6 q).1, PV.val (Value.int IntKind.i64 0), PV.im [] true] := by
        rw [o2.at_ st.h.n (by simp [n1]) (Ne.symm hre)]
        simp [n1]
      simp [d2, n2]
      obtain ⟨u, hu⟩ : ∃ u, u = (rNum 1048576 (rText 6 q).2).1 := ⟨_, rfl⟩
      obtain ⟨q2, hq2⟩ : ∃ q2, q2 = (rNum 1048576 (rText 6 q).2).2 := ⟨_, rfl⟩
      rw [← hq2] at s2
      refine VA_inl (g := 77) (caps := []) rfl rfl ?_
      simp [h0]
      refine rnum_IC (m := 4096) T ((SP _ B2 s2).grow (m := 0)) (by decide) fun H3 wl3 s3 o3 w3 => ?_
      have hn4 : (rNum 4096 q2).1 ≤ 4096 := by
        unfold rNum
        split
        · simp
        · split
          · split
            · assumption
            · simp
          · simp
      have B3 : Bey H r H3 := ((BP _ B2).grow (m := 0)).oth o3
      have n3 : H3.n = st.h.n + 1 := by rw [o3.n]; simp [n2]
      have d3 : H3.at_ st.h.n = .box [sv (rText 6 q).1, iv (rNum 1048576 (rText 6 q).2).1, .im [] true] := by
        rw [o3.at_ st.h.n (by simp [n2]) (Ne.symm hre)]
        simp [n2]
      try simp
      refine rext_loop (S := H3) (e := st.h.n) (M := st.h.n + 1) (s := (rText 6 q).1) (u := ((rNum 1048576 (rText 6 q).2).1 : Int)) T hn4 hv hH hre hB.n (by omega) (rNum 4096 q2).1 0 [] (rNum 4096 q2).2 _ (.im [] true) (by omega) (by simp [h0]) (by simp) ?_ LN.nil (by simp) (by simp) ?_ hr ?_ (by simp) ?_ ?_ ?_ fun st' x' c1 c2 c3 c4 c5 c6 c7 c8 c9 c10 c11 c12 => ?_
      · simp [n3, d3]
      · repeat (first | exact s3 | refine RdS.grow ?_)
      · simp [n3]
      · repeat (first | exact B3 | refine Bey.grow ?_)
      · intro k h1 h2 h3
        simp only [at_grow]
        rw [if_pos (by omega)]
      · have hn0 := hB.n
        intro k hk
        simp at hk
        rcases hk with hk | hk | hk | hk | hk | hk
        all_goals first
          | exact .inl (w3 k hk)
          | exact .inl (w2 k hk)
          | exact .inl (w1 k hk)
          | exact hw k hk
          | exact .inr (by omega)
      · have b3 : ∃ cs, ((H2.put st.h.n (.box [sv (rText 6 q).1, iv (rNum 1048576 (rText 6 q).2).1, .im [] true])).grow 0).at_ r = .box cs := by
          obtain ⟨a, _, _, h⟩ := ((SP (.box [sv (rText 6 q).1, iv (rNum 1048576 (rText 6 q).2).1, .im [] true]) B2 s2).grow (m := 0)).at_
          exact ⟨_, h⟩
        have hl3 : LN H.n H3 3 x (En L) := LN.oth ((LP _ hl2 (.inr ⟨_, d2⟩)).grow (m := 0)) b3 o3
        obtain ⟨is, f1, f2⟩ := (c2.grow (m := 1)).expC (plainss_En _)
        simp only [List.nil_append] at f1
        have hlf : ∀ m, LN H.n ((freeze (st'.h.grow m) is)) 3 x (En L) := fun m => by
          refine ⟨hl3.l.keep (by rw [freeze_n]; simp; omega) fun k hk hx => ?_, hl3.b⟩
          have hkM : k < st.h.n + 1 := by omega
          obtain ⟨xs, hx⟩ := hx
          have hkr : k ≠ r := by
            rintro rfl
            obtain ⟨a', _, _, hz⟩ := s3.at_
            rw [hz] at hx; cases hx
          have hke : k ≠ st.h.n := by
            rintro rfl
            rw [d3] at hx; cases hx
          rw [freeze_at, if_neg (fun q => by have := f2 k q; omega)]
          simp only [at_grow]
          rw [if_pos (by omega), c6 k hkM hkr hke]
        have hes : st.h.n < st'.h.n := by omega
        have hes1 : st.h.n < st'.h.n + 1 := by omega
        have k10 : st'.σ 3 = x := by rw [c10]; simp [h3]
        have ezs : ∀ (h : Heap) (s : ByteArray), Evl.expC h (.val (.string s)) = some (.val (.string s), []) := fun _ _ => rfl
        have ezi : ∀ (h : Heap) (k : IntKind) (n : Int), Evl.expC h (.val (.int k n)) = some (.val (.int k n), []) := fun _ _ _ => rfl
        obtain ⟨ext, hext⟩ : ∃ ext, ext = (rLoop (rI 1048576) (rNum 4096 q2).1 (rNum 4096 q2).2).1 := ⟨_, rfl⟩
        rw [← hext] at f1
        have hx' : (∃ ys, x' = .im ys true) ∨ ∃ r k g o n, x' = .sl r k g o n := by
          rcases c2.l with ⟨h, _⟩ | ⟨_, _, h, _⟩
          · exact .inl ⟨_, h⟩
          · exact .inr ⟨_, _, _, _, _, h⟩
        rcases hx' with ⟨ys, rfl⟩ | ⟨r', k', g', o', n', rfl⟩
        all_goals
          simp [-Evl.expC, ezs, ezi, f1, c9, c1, hes, hes1, k10, chunks, elems, allLen]
          have d4 : (freeze (st'.h.grow 1) is).at_ st'.h.n = .dead := by
            rw [freeze_at]
            simp
          have hn4' : st'.h.n < (freeze (st'.h.grow 1) is).n := by rw [freeze_n]; simp
          refine VP_appN (N := H.n) (ys := En L) (hlf 1) d4 hn4' (by have := hB.n; omega) (by simp [allLen]) (by simp; unfold most; omega) fun v' H4 wr rd a2 a3 a4 a5 a6 => ?_
          have w5 : IntKind.i64.wrap ((i : Int) + 1) = ((i + 1 : Nat) : Int) := by rw [wrap64_id (by omega)]; omega
          have k11 : st'.σ 4 = iv n := by rw [c11]; simp [h4]
          have k12 : st'.σ 5 = iv i := by rw [c12]; simp [h5]
          simp [k12, w5]
          have bz : ∀ i cs, st'.h.at_ i = .box cs → i < st'.h.n → H4.at_ i = .box cs := fun i cs hi hl => by
            refine a4 _ _ ?_
            rw [freeze_at]
            simp [hl, hi]
          have BZ : Bey H r H4 := ⟨by rw [a3, freeze_n]; simp; have := c5.n; omega, fun k hk hne => by
            rw [a5 k hk, freeze_at, if_neg (fun q => by have := f2 k q; have := hB.n; omega)]
            simp only [at_grow]
            rw [if_pos (by have := c5.n; omega), c5.at_ k hk hne]⟩
          have SZ : RdS H4 r v B (rLoop (rI 1048576) (rNum 4096 q2).1 (rNum 4096 q2).2).2 := by
            obtain ⟨a', x1, x2, x3⟩ := c3.at_
            exact ⟨Nat.lt_of_lt_of_le hr BZ.n, hv.bey hH BZ, a', x1, x2, bz _ _ x3 (Nat.lt_of_lt_of_le hr c5.n)⟩
          have eL : rLoop rKRow (j + 1) q = ((⟨(rText 6 q).1, ((rNum 1048576 (rText 6 q).2).1 : Int), ext⟩ : KRow) :: (rLoop rKRow j (rLoop (rI 1048576) (rNum 4096 q2).1 (rNum 4096 q2).2).2).1, (rLoop rKRow j (rLoop (rI 1048576) (rNum 4096 q2).1 (rNum 4096 q2).2).2).2) := by
            simp only [rLoop]
            rw [if_neg (by simp [hb]), hext, hq2]
            rfl
          refine ih (i + 1) (L ++ [⟨(rText 6 q).1, ((rNum 1048576 (rText 6 q).2).1 : Int), ext⟩]) (rLoop (rI 1048576) (rNum 4096 q2).1 (rNum 4096 q2).2).2 _ v' (by omega) (by simp [c8]) (by simp) ?_ (by simp [k11]) (by simp) ?_ ?_ hr ?_ (by simp; omega) ?_
          · rw [En_append, En_one]
            repeat (first | exact a2 | refine LN.grow ?_)
          · repeat (first | exact SZ | refine RdS.grow ?_)
          · repeat (first | exact BZ | refine Bey.grow ?_)
          · have hnn := hB.n
            refine Wl.app (Wl.new a6) (Wl.app (Wl.new fun k hk => ?_) c7)
            have := f2 k hk
            omega
          · intro st2 x2 e1 e2 e3 e4 e5
            rw [eL] at hend
            exact hend st2 x2 e1 (by simpa using e2) e3 e4 e5
    · simp [L136_1, h0, h4, h5, hlt, hBx, hrs, hb]
      have e : rLoop rKRow (j + 1) q = ([], q) := by simp [rLoop, hb]
      rw [e] at hend
      refine hend _ x (by simp [h3]) ?_ ?_ ?_ ?_
      · simp only [List.append_nil]; exact hl.grow
      · exact hS.grow
      · exact hB.grow
      · exact hw
end Go.Evl.Zone

namespace Go.Evl.Zone
open Go Go.Evl
variable {P : Program}
theorem rknow_IC (T : Typed P) {H : Heap} {r : Nat} {v : PV} {B : Bytes} {q : Src} {K : PV → Heap → List Nat → Prop} (h : RdS H r v B q)
    (hK : ∀ H' wl, RdS H' r v B (rKnow q).2 → Oth H r H' → (∀ i ∈ wl, i = r) → K (lv (rKnow q).1) H' wl) : IC (env P) 136 [.ptr r 0] H K := by
  obtain ⟨a, ha, hq, hB⟩ := h.at_
  have hr := h.hr
  refine IC_rdx (cf := c136) rfl rfl h ?_
  simp [c136]
  refine VA_inl (g := 77) (caps := []) rfl rfl ?_
  try simp
  refine rnum_IC (m := 64) T (h.grow (m := 0)) (by decide) fun H1 wl s1 o1 w1 => ?_
  try simp
  have hn : (rNum 64 q).1 ≤ 64 := by
    unfold rNum
    split
    · simp
    · split
      · split
        · assumption
        · simp
      · simp
  refine rknow_loop T hn h.b ⟨_, hB⟩ (rNum 64 q).1 0 [] (rNum 64 q).2 _ (.im [] true) (by omega) (by simp) (by simp) LN.nil (by simp) (by simp) ?_ ?_ hr ?_ (by simp) fun st' x' e1 e2 e3 e4 e5 => ?_
  · repeat (first | exact s1 | refine RdS.grow ?_)
  · have : Bey H r H1 := (Bey.refl.grow (m := 0)).oth o1
    repeat (first | exact this | refine Bey.grow ?_)
  · exact Wl.one w1
  · simp [e1]
    obtain ⟨a2, x1, x2, x3⟩ := e3.at_
    have e2' : LN H.n (st'.h.grow 0) 3 x' (En (rKnow q).1) := e2.grow
    obtain ⟨is, y1, y2⟩ := e2'.exp (plainss_En _)
    refine Fin'.mk (lv (rKnow q).1) (rKnow q).2 a2 ⟨is, ?_, y2⟩ e5 (by repeat (first | exact e4 | refine Bey.grow ?_)) x1 x2 ?_ hK
    · simp [resV, resP]
      exact y1
    · have := e3.grow (m := 0)
      obtain ⟨a3, z1, z2, z3⟩ := this.at_
      have hlt := e3.hr
      show (st'.h.grow 0).at_ r = _
      simp only [at_grow]
      rw [if_pos hlt, x3]
      rfl
end Go.Evl.Zone

namespace Go.Evl.Zone
open Go Go.Evl
variable {P : Program}
structure Bey2 (H : Heap) (r f : Nat) (h : Heap) : Prop where
  n : H.n ≤ h.n
  at_ : ∀ i, i < H.n → i ≠ r → i ≠ f → h.at_ i = H.at_ i
def Wl2 (N r f : Nat) (wl : List Nat) : Prop := ∀ i ∈ wl, i = r ∨ i = f ∨ N ≤ i
structure Two (S : Heap) (r f : Nat) : Prop where
  rb : ∃ cs, S.at_ r = .box cs
  fb : ∃ cs, S.at_ f = .box cs
  rn : r < S.n
  fn : f < S.n
  ne : r ≠ f
section
variable {H S h h' : Heap} {r f : Nat}
theorem Bey2.refl : Bey2 H r f H := ⟨Nat.le_refl _, fun _ _ _ _ => rfl⟩
theorem Bey2.grow {m : Nat} (a : Bey2 H r f h) : Bey2 H r f (h.grow m) := ⟨by simpa using Nat.le_trans a.n (Nat.le_add_right _ _), fun i hi h1 h2 => by
  have := a.n
  simp only [at_grow]
  rw [if_pos (by omega), a.at_ i hi h1 h2]⟩
theorem Bey2.oth (a : Bey2 H r f h) (b : Oth h r h') : Bey2 H r f h' := ⟨by rw [b.n]; exact a.n, fun i hi h1 h2 => by rw [b.at_ i (Nat.lt_of_lt_of_le hi a.n) h1, a.at_ i hi h1 h2]⟩
theorem Bey2.putf {b : Blk} (a : Bey2 H r f h) : Bey2 H r f (h.put f b) := ⟨by simpa using a.n, fun i hi h1 h2 => by
  simp only [at_put]
  rw [if_neg h2, a.at_ i hi h1 h2]⟩
theorem Bey2.putN {i : Nat} {b : Blk} (a : Bey2 H r f h) (hi : H.n ≤ i) : Bey2 H r f (h.put i b) := ⟨by simpa using a.n, fun k hk h1 h2 => by
  simp only [at_put]
  rw [if_neg (by omega), a.at_ k hk h1 h2]⟩
theorem Bey2.trans (a : Bey2 H r f S) (b : Bey2 S r f h) : Bey2 H r f h := ⟨Nat.le_trans a.n b.n, fun i hi h1 h2 => by rw [b.at_ i (Nat.lt_of_lt_of_le hi a.n) h1 h2, a.at_ i hi h1 h2]⟩
theorem Bey2.app (a : Bey2 H r f h) (n : h'.n = h.n) (b : ∀ i, i < H.n → h'.at_ i = h.at_ i) : Bey2 H r f h' := ⟨by rw [n]; exact a.n, fun i hi h1 h2 => by rw [b i hi, a.at_ i hi h1 h2]⟩
theorem LN.two {N k : Nat} {v : PV} {ys : List (List PV)} (hl : LN N S k v ys) (t : Two S r f) (b : Bey2 S r f h) : LN N h k v ys := by
  refine ⟨hl.l.keep b.n fun i hi ⟨xs, hx⟩ => b.at_ i hi ?_ ?_, hl.b⟩
  · rintro rfl
    obtain ⟨cs, hB⟩ := t.rb
    rw [hB] at hx; cases hx
  · rintro rfl
    obtain ⟨cs, hB⟩ := t.fb
    rw [hB] at hx; cases hx
theorem Bf.two {v : PV} {B : Bytes} (hv : Bf S v B) (t : Two S r f) (b : Bey2 S r f h) : Bf h v B := by
  refine ⟨?_, hv.m⟩
  rcases hv.l with ⟨hv, hl⟩ | ⟨rr, xs, hv, hx, hle, he, hr, hl⟩
  · exact .im hv hl
  · refine .row rr xs hv ?_ hle he (Nat.lt_of_lt_of_le hr b.n) hl
    rw [b.at_ rr hr, hx]
    · rintro rfl
      obtain ⟨cs, hB⟩ := t.rb
      rw [hB] at hx; cases hx
    · rintro rfl
      obtain ⟨cs, hB⟩ := t.fb
      rw [hB] at hx; cases hx
theorem RdS.two {v : PV} {B : Bytes} {q : Src} (t : Two S r f) (hv : Bf S v B) (b : Bey2 S r f h) (s : RdS h' r v B q) (e : h.at_ r = h'.at_ r) : RdS h r v B q := by
  obtain ⟨a, x1, x2, x3⟩ := s.at_
  exact ⟨Nat.lt_of_lt_of_le t.rn b.n, hv.two t b, a, x1, x2, by rw [e, x3]⟩
theorem Wl2.app {N : Nat} {a b : List Nat} (ha : Wl2 N r f a) (hb : Wl2 N r f b) : Wl2 N r f (a ++ b) := fun i h => (List.mem_append.1 h).elim (ha i) (hb i)
theorem Wl2.one {N : Nat} {a : List Nat} (h : ∀ i ∈ a, i = r) : Wl2 N r f a := fun i hi => .inl (h i hi)
theorem Wl2.cf {N : Nat} {a : List Nat} (h : Wl2 N r f a) : Wl2 N r f (f :: a) := fun i hi => (List.mem_cons.1 hi).elim (fun q => .inr (.inl q)) (h i)
theorem Wl2.new {N : Nat} {a : List Nat} (h : ∀ i ∈ a, N ≤ i) : Wl2 N r f a := fun i hi => .inr (.inr (h i hi))
end
theorem rmem_loop (T : Typed P) {S : Heap} {r f n N : Nat} {v : PV} {B : Bytes} {c0 c1 c2 c3 c4 c6 c7 c8 c9 c10 c11 : PV} (t : Two S r f) (hN : N ≤ S.n) (hn : n ≤ 64) (hv : Bf S v B) {ks : List Fr'} {K : Ex → St → Prop} : ∀ (j i : Nat) (L : List Bytes) (q : Src) (st : St) (x : PV), i + j = n → st.σ 0 = .ptr r 0 → st.σ 1 = .ptr f 0 → st.h.at_ f = .box [c0, c1, c2, c3, c4, x, c6, c7, c8, c9, c10, c11] → LN S.n st.h 1 x (En L) → st.σ 5 = iv n → st.σ 6 = iv i → RdS st.h r v B q → L.length ≤ i → Bey2 S r f st.h → Wl2 N r f st.wl →
    (∀ st' x', st'.σ 0 = .ptr r 0 → st'.σ 1 = .ptr f 0 → st'.h.at_ f = .box [c0, c1, c2, c3, c4, x', c6, c7, c8, c9, c10, c11] → LN S.n st'.h 1 x' (En (L ++ (rLoop (rText 6) j q).1)) → RdS st'.h r v B (rLoop (rText 6) j q).2 → Bey2 S r f st'.h → Wl2 N r f st'.wl → VN (env P) 80 st' ks K) → V (env P) 80 (.loop L80_0) st (.blk 0 :: ks) K := by
  intro j
  induction j with
  | zero =>
    intro i L q st x hi h0 h1 he hl h5 h6 hS hL hB hw hend
    obtain rfl : i = n := by omega
    have hfs : f < st.h.n := Nat.lt_of_lt_of_le t.fn hB.n
    rw [V_loop]
    simp [L80_0, h0, h1, h5, h6]
    refine hend _ x (by simp [h0]) (by simp [h1]) (by simp [he, hfs]) ?_ hS.grow hB.grow hw
    simp only [rLoop, List.append_nil]; exact hl.grow
  | succ j ih =>
    intro i L q st x hi h0 h1 he hl h5 h6 hS hL hB hw hend
    have hlt : (i : Int) < n := by omega
    obtain ⟨a, ha, hq, hBx⟩ := hS.at_
    have hrs := hS.hr
    have hfs : f < st.h.n := Nat.lt_of_lt_of_le t.fn hB.n
    have hrf := t.ne
    rw [V_loop]
    by_cases hb : q.bad = 0
    · simp [L80_0, h0, h1, h5, h6, hlt, hBx, hrs, hb, he, hfs]
      refine VA_inl (g := 78) (caps := []) rfl rfl ?_
      simp [h0]
      refine rtext_IC (m := 6) T (hS.grow (m := 1)) (by decide) fun H2 wl2 s2 o2 w2 => ?_
      have b2 : ∃ cs, (st.h.grow 1).at_ r = .box cs := by
        obtain ⟨a, _, _, h⟩ := (hS.grow (m := 1)).at_
        exact ⟨_, h⟩
      have hl2 : LN S.n H2 1 x (En L) := (hl.grow (m := 1)).oth b2 o2
      have n2 : H2.n = st.h.n + 1 := by rw [o2.n]; simp
      have d2 : H2.at_ st.h.n = .dead := by
        rw [o2.at_ st.h.n (by simp) (by omega)]
        simp
      have B2 : Bey2 S r f H2 := (hB.grow (m := 1)).oth o2
      simp [chunks, elems, allLen]
      refine VP_appN (N := S.n) (ys := En L) hl2 d2 (by omega) hB.n (by simp [allLen]) (by simp; unfold most; omega) fun v' H3 wr rd a2 a3 a4 a5 a6 => ?_
      simp
      have e2 : H2.at_ f = .box [c0, c1, c2, c3, c4, x, c6, c7, c8, c9, c10, c11] := by
        rw [o2.at_ f (by simp; omega) (Ne.symm hrf)]
        simp [hfs, he]
      have e3 := a4 _ _ e2
      have hwe2 : ∀ i ∈ wl2, ¬ i = f := fun i q z => hrf ((w2 i q).symm.trans z)
      have w5 : IntKind.i64.wrap ((i : Int) + 1) = ((i + 1 : Nat) : Int) := by rw [wrap64_id (by omega)]; omega
      have hv' : (∃ ys, v' = .im ys true) ∨ ∃ r k g o n, v' = .sl r k g o n := by
        rcases a2.l with ⟨h, _⟩ | ⟨_, _, h, _⟩
        · exact .inl ⟨_, h⟩
        · exact .inr ⟨_, _, _, _, _, h⟩
      rcases hv' with ⟨ys, rfl⟩ | ⟨r', k', g', o', n', rfl⟩
      all_goals
        simp [h1, e3, h6, w5, hwe2, a3, n2]
        refine ⟨hwe2, ?_⟩
        have hBx' : ∀ b, Bey2 S r f (H3.put f b) := fun b => (B2.app a3 fun k hk => a5 k hk).putf
        have hS4 : ∀ b, RdS (H3.put f b) r v B (rText 6 q).2 := fun b => by
          obtain ⟨a', x1, x2, x3⟩ := s2.at_
          refine RdS.two t hv (hBx' b) s2 ?_
          rw [x3]
          simp [hrf, a4 _ _ x3]
        have eL : rLoop (rText 6) (j + 1) q = ((rText 6 q).1 :: (rLoop (rText 6) j (rText 6 q).2).1, (rLoop (rText 6) j (rText 6 q).2).2) := by
          simp only [rLoop]
          rw [if_neg (by simp [hb])]
        rw [eL] at hend
        refine ih (i + 1) (L ++ [(rText 6 q).1]) (rText 6 q).2 _ _ (by omega) (by simp [h0]) (by simp [h1]) (by simp [a3, n2]; rw [if_pos (by omega)]) ?_ (by simp [h5]) (by simp) ?_ (by simp; omega) ?_ ?_ ?_
        · rw [En_append, En_one]
          have := fun b => LN.putN (s := f) (b := b) a2 (.inr ⟨_, e3⟩)
          repeat (first | exact this _ | refine LN.grow ?_)
        · repeat (first | exact hS4 _ | refine RdS.grow ?_)
        · repeat (first | exact hBx' _ | refine Bey2.grow ?_)
        · exact ((Wl2.new fun k hk => Nat.le_trans hN (a6 k hk)).app ((Wl2.one w2).app hw)).cf
        · intro st' x' g1 g2 g3 g4 g5 g6 g7
          exact hend st' x' g1 g2 g3 (by simpa using g4) g5 g6 g7
    · simp [L80_0, h0, h1, h5, h6, hlt, hBx, hrs, hb, he, hfs]
      have eL : rLoop (rText 6) (j + 1) q = ([], q) := by simp [rLoop, hb]
      rw [eL] at hend
      refine hend _ x (by simp [h0]) (by simp [h1]) (by simp [he, hfs]) ?_ hS.grow hB.grow hw
      simp only [List.append_nil]; exact hl.grow
end Go.Evl.Zone

namespace Go.Evl.Zone
open Go Go.Evl
variable {P : Program}
theorem rrows_loop (T : Typed P) {S : Heap} {r f n N : Nat} {v : PV} {B : Bytes} {c0 c1 c2 c3 c4 c5 c6 c8 c9 c10 c11 : PV} (t : Two S r f) (hN : N ≤ S.n) (hn : n ≤ 64) (hv : Bf S v B) {ks : List Fr'} {K : Ex → St → Prop} : ∀ (j i : Nat) (L : List MRow) (q : Src) (st : St) (x : PV), i + j = n → st.σ 0 = .ptr r 0 → st.σ 1 = .ptr f 0 → st.h.at_ f = .box [c0, c1, c2, c3, c4, c5, c6, x, c8, c9, c10, c11] → LN S.n st.h 2 x (En L) → st.σ 5 = iv n → st.σ 7 = iv i → RdS st.h r v B q → L.length ≤ i → Bey2 S r f st.h → Wl2 N r f st.wl →
    (∀ st' x', st'.σ 0 = .ptr r 0 → st'.σ 1 = .ptr f 0 → st'.h.at_ f = .box [c0, c1, c2, c3, c4, c5, c6, x', c8, c9, c10, c11] → LN S.n st'.h 2 x' (En (L ++ (rLoop rMRow j q).1)) → RdS st'.h r v B (rLoop rMRow j q).2 → Bey2 S r f st'.h → Wl2 N r f st'.wl → VN (env P) 80 st' ks K) → V (env P) 80 (.loop L80_1) st (.blk 2 :: ks) K := by
  intro j
  induction j with
  | zero =>
    intro i L q st x hi h0 h1 he hl h5 h7 hS hL hB hw hend
    obtain rfl : i = n := by omega
    have hfs : f < st.h.n := Nat.lt_of_lt_of_le t.fn hB.n
    rw [V_loop]
    simp [L80_1, h0, h1, h5, h7]
    refine hend _ x (by simp [h0]) (by simp [h1]) (by simp [he, hfs]) ?_ hS.grow hB.grow hw
    simp only [rLoop, List.append_nil]; exact hl.grow
  | succ j ih =>
    intro i L q st x hi h0 h1 he hl h5 h7 hS hL hB hw hend
    have hlt : (i : Int) < n := by omega
    obtain ⟨a, ha, hq, hBx⟩ := hS.at_
    have hrs := hS.hr
    have hfs : f < st.h.n := Nat.lt_of_lt_of_le t.fn hB.n
    have hrf := t.ne
    rw [V_loop]
    by_cases hb : q.bad = 0
    · simp [L80_1, h0, h1, h5, h7, hlt, hBx, hrs, hb, he, hfs]
      refine VA_inl (g := 78) (caps := []) rfl rfl ?_
      simp [h0]
      refine rtext_IC (m := 6) T (hS.grow (m := 0)) (by decide) fun H1 wl1 s1 o1 w1 => ?_
      have b1 : ∃ cs, (st.h.grow 0).at_ r = .box cs := by
        obtain ⟨a, _, _, h⟩ := (hS.grow (m := 0)).at_
        exact ⟨_, h⟩
      have hl1 : LN S.n H1 2 x (En L) := (hl.grow (m := 0)).oth b1 o1
      have n1 : H1.n = st.h.n := by rw [o1.n]; simp
      have B1 : Bey2 S r f H1 := (hB.grow (m := 0)).oth o1
      have f1 : H1.at_ f = .box [c0, c1, c2, c3, c4, c5, c6, x, c8, c9, c10, c11] := by
        rw [o1.at_ f (by simp; omega) (Ne.symm hrf)]
        simp [hfs, he]
      have hfs1 : f < H1.n := by omega
      simp [h0, h1, f1, hfs1]
      refine VA_inl (g := 79) (caps := []) rfl rfl ?_
      try simp
      refine rvec_IC T (s1.grow (m := 1)) fun H2 wl2 s2 o2 w2 => ?_
      have b2 : ∃ cs, (H1.grow 1).at_ r = .box cs := by
        obtain ⟨a, _, _, h⟩ := (s1.grow (m := 1)).at_
        exact ⟨_, h⟩
      have hl2 : LN S.n H2 2 x (En L) := (hl1.grow (m := 1)).oth b2 o2
      have n2 : H2.n = st.h.n + 1 := by rw [o2.n]; simp [n1]
      have d2 : H2.at_ H1.n = .dead := by
        rw [o2.at_ H1.n (by simp) (by have := s1.hr; omega)]
        simp
      have B2 : Bey2 S r f H2 := (B1.grow (m := 1)).oth o2
      simp [chunks, elems, allLen]
      refine VP_appN (N := S.n) (ys := En L) hl2 d2 (by omega) (by have := hB.n; omega) (by simp [allLen]) (by simp; unfold most; omega) fun v' H3 wr rd a2 a3 a4 a5 a6 => ?_
      simp
      have e2 : H2.at_ f = .box [c0, c1, c2, c3, c4, c5, c6, x, c8, c9, c10, c11] := by
        rw [o2.at_ f (by simp; omega) (Ne.symm hrf)]
        simp [hfs1, f1]
      have e3 := a4 _ _ e2
      have hwe2 : ∀ i ∈ wl2, ¬ i = f := fun i q z => hrf ((w2 i q).symm.trans z)
      have w5 : IntKind.i64.wrap ((i : Int) + 1) = ((i + 1 : Nat) : Int) := by rw [wrap64_id (by omega)]; omega
      have hv' : (∃ ys, v' = .im ys true) ∨ ∃ r k g o n, v' = .sl r k g o n := by
        rcases a2.l with ⟨h, _⟩ | ⟨_, _, h, _⟩
        · exact .inl ⟨_, h⟩
        · exact .inr ⟨_, _, _, _, _, h⟩
      rcases hv' with ⟨ys, rfl⟩ | ⟨r', k', g', o', n', rfl⟩
      all_goals
        simp [h1, e3, h7, w5, hwe2, a3, n2]
        refine ⟨⟨by omega, hwe2⟩, ?_⟩
        have hBx' : ∀ b, Bey2 S r f (H3.put f b) := fun b => (B2.app a3 fun k hk => a5 k hk).putf
        have hS4 : ∀ b, RdS (H3.put f b) r v B (rVec (rText 6 q).2).2 := fun b => by
          obtain ⟨a', x1, x2, x3⟩ := s2.at_
          refine RdS.two t hv (hBx' b) s2 ?_
          rw [x3]
          simp [hrf, a4 _ _ x3]
        have eL : rLoop rMRow (j + 1) q = ((⟨(rText 6 q).1, (rVec (rText 6 q).2).1⟩ : MRow) :: (rLoop rMRow j (rVec (rText 6 q).2).2).1, (rLoop rMRow j (rVec (rText 6 q).2).2).2) := by
          simp only [rLoop]
          rw [if_neg (by simp [hb])]
          rfl
        rw [eL] at hend
        refine ih (i + 1) (L ++ [⟨(rText 6 q).1, (rVec (rText 6 q).2).1⟩]) (rVec (rText 6 q).2).2 _ _ (by omega) (by simp [h0]) (by simp [h1]) (by simp [a3, n2]; rw [if_pos (by omega)]) ?_ (by simp [h5]) (by simp) ?_ (by simp; omega) ?_ ?_ ?_
        · rw [En_append, En_one]
          have := fun b => LN.putN (s := f) (b := b) a2 (.inr ⟨_, e3⟩)
          repeat (first | exact this _ | refine LN.grow ?_)
        · repeat (first | exact hS4 _ | refine RdS.grow ?_)
        · repeat (first | exact hBx' _ | refine Bey2.grow ?_)
        · exact ((Wl2.new fun k hk => Nat.le_trans hN (a6 k hk)).app ((Wl2.one w2).app ((Wl2.one w1).app hw))).cf
        · intro st' x' g1 g2 g3 g4 g5 g6 g7
          exact hend st' x' g1 g2 g3 (by simpa using g4) g5 g6 g7
    · simp [L80_1, h0, h1, h5, h7, hlt, hBx, hrs, hb, he, hfs]
      have eL : rLoop rMRow (j + 1) q = ([], q) := by simp [rLoop, hb]
      rw [eL] at hend
      refine hend _ x (by simp [h0]) (by simp [h1]) (by simp [he, hfs]) ?_ hS.grow hB.grow hw
      simp only [List.append_nil]; exact hl.grow
theorem ritems_loop (T : TI P) {S : Heap} {r f n N : Nat} {v : PV} {B : Bytes} {c0 c1 c2 c3 c4 c5 c6 c7 c8 c10 c11 : PV} (t : Two S r f) (hN : N ≤ S.n) (hn : n ≤ 32) (hv : Bf S v B) {ks : List Fr'} {K : Ex → St → Prop} : ∀ (j i : Nat) (L : List Item) (q : Src) (st : St) (x : PV), i + j = n → st.σ 0 = .ptr r 0 → st.σ 1 = .ptr f 0 → st.h.at_ f = .box [c0, c1, c2, c3, c4, c5, c6, c7, c8, x, c10, c11] → LN S.n st.h 9 x (EnR L) → st.σ 5 = iv n → st.σ 12 = iv i → RdS st.h r v B q → L.length ≤ i → Bey2 S r f st.h → Wl2 N r f st.wl →
    (∀ st' x' l', st'.σ 0 = .ptr r 0 → st'.σ 1 = .ptr f 0 → st'.h.at_ f = .box [c0, c1, c2, c3, c4, c5, c6, c7, c8, x', c10, c11] → LN S.n st'.h 9 x' (EnR l') → (∀ out, (rILoop j q).1 = some out → (rILoop j q).2.bad = 0 → l' = L ++ out) → (rILoop j q).1.isSome = true → RdS st'.h r v B (rILoop j q).2 → Bey2 S r f st'.h → Wl2 N r f st'.wl → VN (env P) 80 st' ks K) →
    (∀ st', st'.σ 4 = bv false → (rILoop j q).1 = none → Bey2 S r f st'.h → Wl2 N r f st'.wl → K .ret st') → V (env P) 80 (.loop L80_2) st (.blk 4 :: ks) K := by
  intro j
  induction j with
  | zero =>
    intro i L q st x hi h0 h1 he hl h5 h12 hS hL hB hw hend hret
    obtain rfl : i = n := by omega
    have hfs : f < st.h.n := Nat.lt_of_lt_of_le t.fn hB.n
    rw [V_loop]
    simp [L80_2, h0, h1, h5, h12]
    refine hend _ x L (by simp [h0]) (by simp [h1]) (by simp [he, hfs]) hl.grow (fun out h1 _ => ?_) rfl hS.grow hB.grow hw
    simp only [rILoop, Option.some.injEq] at h1
    rw [← h1, List.append_nil]
  | succ j ih =>
    intro i L q st x hi h0 h1 he hl h5 h12 hS hL hB hw hend hret
    have hlt : (i : Int) < n := by omega
    obtain ⟨a, ha, hq, hBx⟩ := hS.at_
    have hrs := hS.hr
    have hfs : f < st.h.n := Nat.lt_of_lt_of_le t.fn hB.n
    have hrf := t.ne
    rw [V_loop]
    by_cases hb : q.bad = 0
    · simp [L80_2, h0, h1, h5, h12, hlt, hBx, hrs, hb, he, hfs]
      refine VA_inl (g := 138) (caps := []) rfl rfl ?_
      try simp [h0]
      refine ritem_IC T (hS.grow (m := 1)) fun H1 wl1 s1 o1 w1 => ?_
      have b1 : ∃ cs, (st.h.grow 1).at_ r = .box cs := by
        obtain ⟨a, _, _, h⟩ := (hS.grow (m := 1)).at_
        exact ⟨_, h⟩
      have hl1 : LN S.n H1 9 x (EnR L) := (hl.grow (m := 1)).oth b1 o1
      have n1 : H1.n = st.h.n + 1 := by rw [o1.n]; simp
      have d1 : H1.at_ st.h.n = .dead := by
        rw [o1.at_ st.h.n (by simp) (by omega)]
        simp
      have B1 : Bey2 S r f H1 := (hB.grow (m := 1)).oth o1
      have f1 : H1.at_ f = .box [c0, c1, c2, c3, c4, c5, c6, c7, c8, x, c10, c11] := by
        rw [o1.at_ f (by simp; omega) (Ne.symm hrf)]
        simp [hfs, he]
      have hfs1 : f < H1.n := by omega
      have hn1 : st.h.n < H1.n := by omega
      obtain ⟨a1, y1, y2, y3⟩ := s1.at_
      have hr1 := s1.hr
      have hfne : ¬ f = st.h.n := by omega
      have hrne : ¬ r = st.h.n := by omega
      have hSn : S.n ≤ st.h.n := hB.n
      have BP : ∀ {h : Heap} (b : Blk), Bey2 S r f h → Bey2 S r f (h.put st.h.n b) := fun b hh => hh.putN hSn
      obtain ⟨o, ho⟩ : ∃ o, o = (rItem q).1 := ⟨_, rfl⟩
      obtain ⟨q', hq'⟩ : ∃ q', q' = (rItem q).2 := ⟨_, rfl⟩
      have hri : rItem q = (o, q') := by rw [ho, hq']
      rw [hri] at s1 y2 y3
      simp only [hri]
      cases o with
      | none =>
        by_cases hb' : q'.bad = 0
        · have eL : rILoop (j + 1) q = (none, q') := by simp [rILoop, hb, hri, hb']
          rw [eL] at hret
          simp [d1, hn1, y3, hr1, hrne, h0, h1, f1, hfs1, hfne, hb']
          refine hret _ (by simp) rfl ?_ ?_
          · have hz := fun b1 b2 => BP b2 (BP b1 B1)
            repeat (first | exact hz _ _ | refine Bey2.grow ?_)
          · intro k hk
            simp at hk
            rcases hk with hk | hk | hk
            · exact .inr (.inr (by omega))
            · exact .inl (w1 k hk)
            · exact hw k hk
        · have eL : rILoop (j + 1) q = (some [], q') := by simp [rILoop, hb, hri, hb']
          rw [eL] at hend
          simp [d1, hn1, y3, hr1, hrne, h0, h1, f1, hfs1, hfne, hb', chunks, elems, allLen]
          have hlq : LN S.n (((H1.put st.h.n (.box (itR item0))).put st.h.n (.box (itR item0))).grow 1) 9 x (EnR L) := (LN.putN (LN.putN hl1 (.inl d1)) (.inr (by simp))).grow
          have dq : (((H1.put st.h.n (.box (itR item0))).put st.h.n (.box (itR item0))).grow 1).at_ H1.n = .dead := by simp
          refine VP_appN (N := S.n) (ys := EnR L) hlq dq (by simp) (by omega) (by simp [allLen]) (by simp; unfold most; omega) fun v' H3 wr rd a2 a3 a4 a5 a6 => ?_
          have e3 : H3.at_ f = .box [c0, c1, c2, c3, c4, c5, c6, c7, c8, x, c10, c11] := a4 _ _ (by simp [hfne, hfs1, f1])
          have B3 : Bey2 S r f H3 := (BP (.box (itR item0)) (BP (.box (itR item0)) B1)).grow (m := 1) |>.app a3 a5
          have S4 : ∀ b, RdS (H3.put f b) r v B q' := fun b => by
            refine RdS.two t hv B3.putf s1 ?_
            have := a4 r [v, iv a1, iv q'.bad] (by simp [hrne, hr1, y3])
            simp [hrf, this, y3]
          have w5 : IntKind.i64.wrap ((i : Int) + 1) = ((i + 1 : Nat) : Int) := by rw [wrap64_id (by omega)]; omega
          have n3 : H3.n = H1.n + 1 := by rw [a3]; simp
          have hf3 : f < H3.n := by omega
          have hv' : (∃ ys, v' = .im ys true) ∨ ∃ r k g o n, v' = .sl r k g o n := by
            rcases a2.l with ⟨h, _⟩ | ⟨_, _, h, _⟩
            · exact .inl ⟨_, h⟩
            · exact .inr ⟨_, _, _, _, _, h⟩
          rcases hv' with ⟨ys, rfl⟩ | ⟨r', k', g', o', n', rfl⟩
          all_goals
            simp [h1, e3, h12, w5, hf3, n3]
            refine ih (i + 1) (L ++ [item0]) q' _ _ (by omega) (by simp [h0]) (by simp [h1]) (by simp [n3]; rw [if_pos (by omega)]) ?_ (by simp [h5]) (by simp) ?_ (by simp; omega) ?_ ?_ ?_ ?_
            · rw [EnR_append, EnR_one]
              have := fun b => LN.putN (s := f) (b := b) a2 (.inr ⟨_, e3⟩)
              repeat (first | exact this _ | refine LN.grow ?_)
            · repeat (first | exact S4 _ | refine RdS.grow ?_)
            · repeat (first | exact B3.putf | refine Bey2.grow ?_)
            · refine Wl2.cf ((Wl2.new fun k hk => Nat.le_trans hN (a6 k hk)).app ?_)
              intro k hk
              simp at hk
              rcases hk with hk | hk | hk
              · exact .inr (.inr (by omega))
              · exact .inl (w1 k hk)
              · exact hw k hk
            · intro st' x' l' g1 g2 g3 g4 g5 g6 g7 g8 g9
              have e2 : rILoop j q' = (some [], q') := by cases j <;> simp [rILoop, hb']
              rw [e2] at g7
              exact hend st' x' l' g1 g2 g3 g4 (fun out _ hz => (hb' hz).elim) rfl g7 g8 g9
            · intro st' g1 g2
              have e2 : rILoop j q' = (some [], q') := by cases j <;> simp [rILoop, hb']
              rw [e2] at g2
              cases g2
      | some a =>
        have eL : rILoop (j + 1) q = (match rILoop j q' with | (some l, r) => (some (a :: l), r) | (none, r) => (none, r)) := by
          simp only [rILoop]
          rw [if_neg (by simp [hb])]
          simp only [hri]
          cases rILoop j q' with
          | mk o2 r2 => cases o2 <;> rfl
        simp [d1, hn1, y3, hr1, hrne, h0, h1, f1, hfs1, hfne, chunks, elems, allLen]
        have hlq : LN S.n (((H1.put st.h.n (.box (itR item0))).put st.h.n (.box (itR a))).grow 1) 9 x (EnR L) := (LN.putN (LN.putN hl1 (.inl d1)) (.inr (by simp))).grow
        have dq : (((H1.put st.h.n (.box (itR item0))).put st.h.n (.box (itR a))).grow 1).at_ H1.n = .dead := by simp
        refine VP_appN (N := S.n) (ys := EnR L) hlq dq (by simp) (by omega) (by simp [allLen]) (by simp; unfold most; omega) fun v' H3 wr rd a2 a3 a4 a5 a6 => ?_
        have e3 : H3.at_ f = .box [c0, c1, c2, c3, c4, c5, c6, c7, c8, x, c10, c11] := a4 _ _ (by simp [hfne, hfs1, f1])
        have B3 : Bey2 S r f H3 := (BP (.box (itR a)) (BP (.box (itR item0)) B1)).grow (m := 1) |>.app a3 a5
        have S4 : ∀ b, RdS (H3.put f b) r v B q' := fun b => by
          refine RdS.two t hv B3.putf s1 ?_
          have := a4 r [v, iv a1, iv q'.bad] (by simp [hrne, hr1, y3])
          simp [hrf, this, y3]
        have w5 : IntKind.i64.wrap ((i : Int) + 1) = ((i + 1 : Nat) : Int) := by rw [wrap64_id (by omega)]; omega
        have n3 : H3.n = H1.n + 1 := by rw [a3]; simp
        have hf3 : f < H3.n := by omega
        have hv' : (∃ ys, v' = .im ys true) ∨ ∃ r k g o n, v' = .sl r k g o n := by
          rcases a2.l with ⟨h, _⟩ | ⟨_, _, h, _⟩
          · exact .inl ⟨_, h⟩
          · exact .inr ⟨_, _, _, _, _, h⟩
        rcases hv' with ⟨ys, rfl⟩ | ⟨r', k', g', o', n', rfl⟩
        all_goals
          simp [h1, e3, h12, w5, hf3, n3]
          refine ih (i + 1) (L ++ [a]) q' _ _ (by omega) (by simp [h0]) (by simp [h1]) (by simp [n3]; rw [if_pos (by omega)]) ?_ (by simp [h5]) (by simp) ?_ (by simp; omega) ?_ ?_ ?_ ?_
          · rw [EnR_append, EnR_one]
            have := fun b => LN.putN (s := f) (b := b) a2 (.inr ⟨_, e3⟩)
            repeat (first | exact this _ | refine LN.grow ?_)
          · repeat (first | exact S4 _ | refine RdS.grow ?_)
          · repeat (first | exact B3.putf | refine Bey2.grow ?_)
          · refine Wl2.cf ((Wl2.new fun k hk => Nat.le_trans hN (a6 k hk)).app ?_)
            intro k hk
            simp at hk
            rcases hk with hk | hk | hk
            · exact .inr (.inr (by omega))
            · exact .inl (w1 k hk)
            · exact hw k hk
          · intro st' x' l' g1 g2 g3 g4 g5 g6 g7 g8 g9
            refine hend st' x' l' g1 g2 g3 g4 (fun out h1 h2 => ?_) ?_ ?_ g8 g9
            · rw [eL] at h1 h2
              cases hz : rILoop j q' with
              | mk o2 r2 =>
                rw [hz] at h1 h2 g5
                cases o2 with
                | none => cases h1
                | some l2 =>
                  simp only [Option.some.injEq] at h1
                  rw [g5 l2 rfl h2, ← h1]
                  simp
            · rw [eL]
              cases hz : rILoop j q' with
              | mk o2 r2 =>
                rw [hz] at g6
                cases o2 with
                | none => cases g6
                | some l2 => rfl
            · rw [eL]
              cases hz : rILoop j q' with
              | mk o2 r2 =>
                rw [hz] at g7
                cases o2 <;> exact g7
          · intro st' g1 g2 g3 g4
            refine hret st' g1 ?_ g3 g4
            rw [eL]
            cases hz : rILoop j q' with
            | mk o2 r2 =>
              rw [hz] at g2
              simp only at g2
              subst g2
              rfl
    · simp [L80_2, h0, h1, h5, h12, hlt, hBx, hrs, hb, he, hfs]
      have eL : rILoop (j + 1) q = (some [], q) := by simp [rILoop, hb]
      rw [eL] at hend
      refine hend _ x L (by simp [h0]) (by simp [h1]) (by simp [he, hfs]) hl.grow (fun out _ h2 => (hb h2).elim) rfl hS.grow hB.grow hw
end Go.Evl.Zone

namespace Go.Evl.Zone
open Go Go.Evl
variable {P : Program}
structure F2 (H : Heap) (r f : Nat) (v : PV) (B : Bytes) (q : Src) (cs : List PV) (h : Heap) : Prop where
  t : Two H r f
  S : RdS h r v B q
  y : Bey2 H r f h
  F : h.at_ f = .box cs
section
variable {H h h' : Heap} {r f : Nat} {v : PV} {B : Bytes} {q q' : Src} {cs cs' : List PV} {m : Nat}
theorem F2.fn (c : F2 H r f v B q cs h) : f < h.n := Nat.lt_of_lt_of_le c.t.fn c.y.n
theorem F2.two (c : F2 H r f v B q cs h) : Two h r f := by
  obtain ⟨a, _, _, h3⟩ := c.S.at_
  exact ⟨⟨_, h3⟩, ⟨_, c.F⟩, c.S.hr, c.fn, c.t.ne⟩
theorem F2.base (c : F2 H r f v B q cs h) : F2 h r f v B q cs h := ⟨c.two, c.S, Bey2.refl, c.F⟩
theorem F2.grow (c : F2 H r f v B q cs h) : F2 H r f v B q cs (h.grow m) := by
  have := c.fn
  exact ⟨c.t, c.S.grow, c.y.grow, by simp [this, c.F]⟩
theorem F2.putf (hv : Bf H v B) (c : F2 H r f v B q cs h) : F2 H r f v B q cs' (h.put f (.box cs')) := by
  have := c.t.ne
  refine ⟨c.t, RdS.two c.t hv c.y.putf c.S ?_, c.y.putf, by simp⟩
  simp [this]
theorem F2.oth (c : F2 H r f v B q cs h) (o : Oth h r h') (s : RdS h' r v B q') : F2 H r f v B q' cs h' :=
  ⟨c.t, s, c.y.oth o, by rw [o.at_ f c.fn (Ne.symm c.t.ne), c.F]⟩
theorem rnum_F2 (T : Typed P) {m : Nat} {K : PV → Heap → List Nat → Prop} (c : F2 H r f v B q cs h) (hm : m < 9223372036854775808)
    (hK : ∀ H' wl, F2 H r f v B (rNum m q).2 cs H' → (∀ i ∈ wl, i = r) → K (iv (rNum m q).1) H' wl) : IC (env P) 77 [.ptr r 0, iv m] h K :=
  rnum_IC T c.S hm fun H' wl s o w => hK H' wl (c.oth o s) w
theorem rtext_F2 (T : Typed P) {m : Nat} {K : PV → Heap → List Nat → Prop} (c : F2 H r f v B q cs h) (hm : m < 9223372036854775808)
    (hK : ∀ H' wl, F2 H r f v B (rText m q).2 cs H' → (∀ i ∈ wl, i = r) → K (sv (rText m q).1) H' wl) : IC (env P) 78 [.ptr r 0, iv m] h K :=
  rtext_IC T c.S hm fun H' wl s o w => hK H' wl (c.oth o s) w
theorem rvec_F2 (T : Typed P) {K : PV → Heap → List Nat → Prop} (c : F2 H r f v B q cs h)
    (hK : ∀ H' wl, F2 H r f v B (rVec q).2 cs H' → (∀ i ∈ wl, i = r) → K (lv (rVec q).1) H' wl) : IC (env P) 79 [.ptr r 0] h K :=
  rvec_IC T c.S fun H' wl s o w => hK H' wl (c.oth o s) w
theorem rknow_F2 (T : Typed P) {K : PV → Heap → List Nat → Prop} (c : F2 H r f v B q cs h)
    (hK : ∀ H' wl, F2 H r f v B (rKnow q).2 cs H' → (∀ i ∈ wl, i = r) → K (lv (rKnow q).1) H' wl) : IC (env P) 136 [.ptr r 0] h K :=
  rknow_IC T c.S fun H' wl s o w => hK H' wl (c.oth o s) w
theorem rend_F2 (T : Typed P) {K : PV → Heap → List Nat → Prop} (c : F2 H r f v B q cs h)
    (hK : ∀ H' wl, F2 H r f v B q cs H' → (∀ i ∈ wl, i = r) → K (iv (rEnd q)) H' wl) : IC (env P) 81 [.ptr r 0] h K :=
  rend_IC T c.S fun H' wl s o w => hK H' wl (c.oth o s) w
theorem Wl2.nil {N : Nat} : Wl2 N r f [] := fun _ h => by cases h
theorem Wl2.cons {N i : Nat} {a : List Nat} (h : N ≤ i) (ha : Wl2 N r f a) : Wl2 N r f (i :: a) := fun k hk => (List.mem_cons.1 hk).elim (fun q => .inr (.inr (by omega))) (ha k)
theorem Wl2.mono {N N' : Nat} {a : List Nat} (h : N' ≤ N) (ha : Wl2 N r f a) : Wl2 N' r f a := fun k hk => (ha k hk).imp id (Or.imp id (Nat.le_trans h))
theorem LN.mono {N N' k : Nat} {x : PV} {ys : List (List PV)} (h : N' ≤ N) (a : LN N H k x ys) : LN N' H k x ys := ⟨a.l, fun r k' g off len e => Nat.le_trans h (a.b r k' g off len e)⟩
theorem EqH.keep : EqH h (if h.n = H.n then h.cut H else h) := by
  split
  · rename_i e
    exact ⟨e.symm, fun i hi => by show (if i < H.n then h.at_ i else H.at_ i) = _; rw [if_pos (by omega)]⟩
  · exact EqH.refl
theorem EqH.keepC {n : Nat} (e : n = h.n) : EqH h (if n = H.n then (h.grow 0).cut H else h.grow 0) := by
  subst e
  have hg : ∀ i, i < h.n → (h.grow 0).at_ i = h.at_ i := fun i hi => by simp [hi]
  split
  · rename_i e
    exact ⟨e.symm, fun i hi => by show (if i < H.n then (h.grow 0).at_ i else H.at_ i) = _; rw [if_pos (by omega), hg i hi]⟩
  · exact ⟨by simp, hg⟩
theorem LN.eqh {N k : Nat} {x : PV} {ys : List (List PV)} (a : LN N h k x ys) (e : EqH h h') : LN N h' k x ys := ⟨a.l.keep (by rw [e.n]; exact Nat.le_refl _) fun i hi _ => e.at_ i hi, a.b⟩
theorem RdS.eqh (s : RdS h r v B q) (e : EqH h h') : RdS h' r v B q := by
  obtain ⟨a, x1, x2, x3⟩ := s.at_
  refine ⟨by rw [e.n]; exact s.hr, ⟨s.b.l.keep (by rw [e.n]; exact Nat.le_refl _) fun i hi _ => e.at_ i hi, s.b.m⟩, a, x1, x2, by rw [e.at_ r s.hr, x3]⟩
theorem F2.eqh (c : F2 H r f v B q cs h) (e : EqH h h') : F2 H r f v B q cs h' :=
  ⟨c.t, c.S.eqh e, ⟨by rw [e.n]; exact c.y.n, fun i hi h1 h2 => by rw [e.at_ i (Nat.lt_of_lt_of_le hi c.y.n), c.y.at_ i hi h1 h2]⟩, by rw [e.at_ f c.fn, c.F]⟩
theorem Bey2.eqh (y : Bey2 H r f h) (e : EqH h h') : Bey2 H r f h' := ⟨by rw [e.n]; exact y.n, fun i hi h1 h2 => by rw [e.at_ i (Nat.lt_of_lt_of_le hi y.n), y.at_ i hi h1 h2]⟩
end
theorem rText_len {m : Nat} {q : Src} : (rText m q).1.length ≤ m := by
  have h := rNum_le (m := m) (q := q)
  unfold rText
  simp only
  split
  · simp
  · split
    · simp
    · simp; omega
set_option maxHeartbeats 3200000 in
theorem rlists_KC (T : TI P) {H : Heap} {r f : Nat} {v : PV} {B : Bytes} {q : Src} {kind : Int} {c1 c2 c11 : PV} {K : PV → Heap → List Nat → Prop}
    (c : F2 H r f v B q [iv kind, c1, c2, .im [] true, iv 0, .im [] true, .im [] true, .im [] true, .im [] true, .im [] true, bv false, c11] H)
    (hn : ∀ H' wl, (rLists kind q).1 = none → Bey2 H r f H' → Wl2 H.n r f wl → K (bv false) H' wl)
    (hs : ∀ H' wl hd z l w x5 x7 x8 x9, (rLists kind q).1.isSome = true → ((rLists kind q).2.bad = 0 → (rLists kind q).1 = some (hd, z, l, w)) →
      F2 H r f v B (rLists kind q).2 [iv kind, c1, c2, lv hd.1, iv hd.2.1, x5, lv hd.2.2.2.1, x7, x8, x9, bv w, c11] H' →
      LN H.n H' 1 x5 (En hd.2.2.1) → LN H.n H' 2 x7 (En hd.2.2.2.2) → (∃ b, x8 = .im (rsV z) b) → LN H.n H' 9 x9 (EnR l) → Wl2 H.n r f wl → K (bv true) H' wl) : KC (env P) 80 [.ptr r 0, .ptr f 0] H K := by
  have T0 : Typed P := T.toTyped3.toTyped2.toTyped
  have hv := c.S.b
  refine KC_of (cf := c80) rfl rfl ?_
  simp [c80]
  refine VA_inl (g := 136) (caps := []) rfl rfl ?_
  try simp
  refine rknow_F2 T0 c.grow fun H1 wl1 d1 w1 => ?_
  have F1 := d1.F
  have n1 := d1.fn
  simp [F1, n1]
  refine VA_inl (g := 77) (caps := []) rfl rfl ?_
  try simp
  refine rnum_F2 (m := 1048576) T0 (F2.grow (F2.putf hv d1)) (by omega) fun H2 wl2 d2 w2 => ?_
  have F2' := d2.F
  have n2 := d2.fn
  simp [F2', n2]
  refine VA_inl (g := 77) (caps := []) rfl rfl ?_
  try simp
  refine rnum_F2 (m := 64) T0 (F2.grow (F2.putf hv d2)) (by omega) fun H3 wl3 d3 w3 => ?_
  try simp
  have t3 := F2.grow (m := 0) d3
  have F3 := t3.F
  obtain ⟨q2, hq2⟩ : ∃ q2, q2 = (rNum 1048576 (rKnow q).2).2 := ⟨_, rfl⟩
  rw [← hq2] at t3
  simp only [← hq2]
  refine rmem_loop T0 (S := H3.grow 0) (N := H.n) (n := (rNum 64 q2).1) t3.two t3.y.n rNum_le t3.S.b (rNum 64 q2).1 0 [] (rNum 64 q2).2 _ (.im [] true) (by omega) (by simp) (by simp) (by rw [← F3]) LN.nil (by simp) (by simp) t3.S (by simp) Bey2.refl (by simp only []; repeat' (first | exact Wl2.nil | exact Wl2.one w1 | exact Wl2.one w2 | exact Wl2.one w3 | refine Wl2.cf ?_ | refine Wl2.app ?_ ?_)) fun st5 x5 g1 g2 g3 g4 g5 g6 g7 => ?_
  have l5 : LN H.n st5.h 1 x5 (En (rMem q2).1) := g4.mono t3.y.n
  obtain ⟨q3, hq3⟩ : ∃ q3, q3 = (rMem q2).2 := ⟨_, rfl⟩
  have g5 : RdS st5.h r v B q3 := by rw [hq3]; exact g5
  have d5 : F2 H r f v B q3 _ st5.h := ⟨c.t, g5, t3.y.trans g6, g3⟩
  have e5 := d5.base
  simp [g1, g2]
  refine VA_inl (g := 79) (caps := []) rfl rfl ?_
  try simp
  refine rvec_F2 T0 (F2.grow (m := 0) e5) fun H6 wl6 e6 w6 => ?_
  have F6 := e6.F
  have n6 := e6.fn
  simp [F6, n6, g1, g2]
  refine VA_inl (g := 77) (caps := []) rfl rfl ?_
  try simp [g1, g2]
  obtain ⟨q4, hq4⟩ : ∃ q4, q4 = (rVec q3).2 := ⟨_, rfl⟩
  rw [← hq4] at e6
  refine rnum_F2 (m := 64) T0 (F2.grow (F2.putf d5.S.b e6)) (by omega) fun H7 wl7 e7 w7 => ?_
  try simp
  have e7 := (F2.grow (m := 0) e7)
  have F7 := e7.F
  refine rrows_loop T0 (S := H7.grow 0) (N := H.n) (n := (rNum 64 q4).1) e7.two (Nat.le_trans d5.y.n e7.y.n) rNum_le e7.S.b (rNum 64 q4).1 0 [] (rNum 64 q4).2 _ (.im [] true) (by omega) (by simp [g1]) (by simp [g2]) (by rw [← F7]) LN.nil (by simp) (by simp) e7.S (by simp) Bey2.refl (by simp only []; repeat' (first | exact Wl2.nil | exact g7 | exact Wl2.one w6 | exact Wl2.one w7 | refine Wl2.cf ?_ | refine Wl2.app ?_ ?_)) fun st7 x7 p1 p2 p3 p4 p5 p6 p7 => ?_
  have z7n : H.n ≤ st7.h.n := Nat.le_trans (Nat.le_trans d5.y.n e7.y.n) p6.n
  have l7 : LN H.n st7.h 2 x7 (En (rRows q4).1) := p4.mono (Nat.le_trans d5.y.n e7.y.n)
  obtain ⟨q5, hq5⟩ : ∃ q5, q5 = (rRows q4).2 := ⟨_, rfl⟩
  have p5 : RdS st7.h r v B q5 := by rw [hq5]; exact p5
  have d8 : F2 H r f v B q5 _ st7.h := ⟨c.t, p5, d5.y.trans (e7.y.trans p6), p3⟩
  have e8 := d8.base
  have n8 := e8.fn
  have hq5' : (rHead q).2 = q5 := by rw [hq5, hq4, hq3, hq2]; rfl
  have hhd : (rHead q).1 = ((rKnow q).1, ((rNum 1048576 (rKnow q).2).1 : Int), (rMem q2).1, (rVec q3).1, (rRows q4).1) := by rw [hq4, hq3, hq2]; rfl
  by_cases hk : kind = 1
  · simp [p1, p2, p3, n8, hk]
    refine VA_inl (g := 78) (caps := []) rfl rfl ?_
    try simp [p1, p2]
    refine rtext_F2 (m := 2000) T0 (F2.grow (m := 0) e8) (by omega) fun H9 wl9 d9z w9 => ?_
    obtain ⟨s, hs1⟩ : ∃ s, s = (rText 2000 q5).1 := ⟨_, rfl⟩
    obtain ⟨q6, hq6⟩ : ∃ q6, q6 = (rText 2000 q5).2 := ⟨_, rfl⟩
    have hsl : s.length ≤ 2000 := by rw [hs1]; exact rText_len
    have hp := refParse_ans T0 hsl
    rw [← hq6] at d9z
    rw [← hs1]
    have F9 := d9z.F
    have n9z := d9z.fn
    obtain ⟨a9, b1, b2, b3⟩ := d9z.S.at_
    have r9 := d9z.S.hr
    have hzz : rLists kind q = (match (if q6.bad ≠ 0 then (some [], q6) else (refParse s, q6)) with | (none, r) => (none, r) | (some z, r) => match rItems r with | (none, r) => (none, r) | (some l, r) => (some ((rHead q).1, z, l, if kind = 2 then decide ((rNum 1 r).1 = 1) else false), if kind = 2 then (rNum 1 r).2 else r)) := by
      simp only [rLists, if_pos hk, hq5']
      rw [hs1, hq6]
      unfold rZone
      by_cases hb : (rText 2000 q5).2.bad = 0
      · rw [if_neg (by simpa using hb)]
        cases refParse (rText 2000 q5).1 with
        | none => rfl
        | some z =>
          simp only
          cases rItems (rText 2000 q5).2 with
          | mk o2 r2 => cases o2 <;> rfl
      · rw [if_pos (by simpa using hb)]
        simp only
        cases rItems (rText 2000 q5).2 with
        | mk o2 r2 => cases o2 <;> rfl
    by_cases hb : q6.bad = 0
    · rw [if_neg (by simpa using hb)] at hzz
      cases hz : refParse s with
      | none =>
        rw [hz] at hzz hp
        simp only at hzz hp
        try simp [hp, b3, r9, hb, F9, n9z, p1, p2]
        have ek := EqH.keepC (h := H9) (H := H) (n := H9.n) rfl
        exact hn _ _ (by rw [hzz]) ((d8.y.trans d9z.y).eqh ek) (by repeat' (first | exact p7 | exact Wl2.one w9 | refine Wl2.cf ?_ | refine Wl2.app ?_ ?_))
      | some z =>
        rw [hz] at hzz hp
        simp only at hzz hp
        try simp [hp, b3, r9, hb, F9, n9z, p1, p2]
        refine VA_inl (g := 77) (caps := []) rfl rfl ?_
        try simp [p1, p2]
        refine rnum_F2 (m := 32) T0 (F2.grow (m := 0) (F2.putf d8.S.b (F2.grow (m := 0) d9z))) (by omega) fun H10 wl10 d10 w10 => ?_
        try simp
        have t10 := (F2.grow (m := 0) d10)
        have F10 := t10.F
        refine ritems_loop T (S := H10.grow 0) (N := H.n) (n := (rNum 32 q6).1) t10.two (Nat.le_trans z7n t10.y.n) rNum_le t10.S.b (rNum 32 q6).1 0 [] (rNum 32 q6).2 _ (.im [] true) (by omega) (by simp [p1]) (by simp [p2]) (by rw [← F10]) LN.nil (by simp) (by simp) t10.S (by simp) Bey2.refl (by simp only []; repeat' (first | exact Wl2.nil | exact Wl2.one w1 | exact Wl2.one w2 | exact Wl2.one w3 | exact Wl2.one w6 | exact Wl2.one w7 | exact Wl2.one w9 | exact Wl2.one w10 | exact p7 | refine Wl2.cf ?_ | refine Wl2.app ?_ ?_)) (fun st9 x9 l9 u1 u2 u3 u4 u5 u6 u7 u8 u9 => ?_) (fun st9 u1 u2 u3 u4 => ?_)
        · have hri : rItems q6 = rILoop (rNum 32 q6).1 (rNum 32 q6).2 := rfl
          rw [← hri] at u5 u6 u7
          simp only [List.nil_append] at u5
          have y9 := t10.y.trans u8
          have Y9 := d8.y.trans y9
          have l5' := (l5.two d5.two ((e7.y.trans p6).trans y9))
          have l7' := (l7.two d8.two y9)
          have l9' : LN H.n st9.h 9 x9 (EnR l9) := u4.mono (Nat.le_trans z7n t10.y.n)
          have n9 : f < st9.h.n := Nat.lt_of_lt_of_le t10.fn u8.n
          have d9 : F2 H r f v B (rItems q6).2 _ st9.h := ⟨c.t, u7, Y9, u3⟩
          have hst : (rItems q6).2.bad = 0 → q6.bad = 0 := fun hb => by
            cases hx : rItems q6 with
            | mk o2 r2 =>
              rw [hx] at u6 hb
              cases o2 with
              | none => cases u6
              | some a2 =>
                obtain ⟨s2, b2⟩ := r2
                simp only at hb
                subst hb
                exact (codItems.inv q6 a2 s2 hx).1
          have hst2 : (rNum 1 (rItems q6).2).2.bad = 0 → (rItems q6).2.bad = 0 := fun hb => by
            have := (codNum (m := 1) (by omega)).stuck (rItems q6).2
            by_cases hz : (rItems q6).2.bad = 0
            · exact hz
            · exact (this hz hb).elim
          obtain ⟨l2, hl2⟩ : ∃ l2, (rItems q6).1 = some l2 := Option.isSome_iff_exists.1 u6
          have hx : rItems q6 = (some l2, (rItems q6).2) := Prod.ext hl2 rfl
          have hL : rLists kind q = (some ((rHead q).1, z, l2, if kind = 2 then decide ((rNum 1 (rItems q6).2).1 = 1) else false), if kind = 2 then (rNum 1 (rItems q6).2).2 else (rItems q6).2) := by
            rw [hzz, hx]
          rw [hL, hhd] at hs
          by_cases hk2 : kind = 2
          · rw [if_pos hk2, if_pos hk2] at hs
            simp [u1, u2, u3, n9, hk2]
            refine VA_inl (g := 77) (caps := []) rfl rfl ?_
            try simp [u1, u2]
            refine rnum_F2 (m := 1) T0 (F2.grow (m := 0) ⟨d9.two, d9.S, Bey2.refl, u3⟩) (by omega) fun H11 wl11 d11 w11 => ?_
            have F11 := d11.F
            have n11 := d11.fn
            have e11 : (((rNum 1 (rItems q6).2).1 : Int) = 1) = ((rNum 1 (rItems q6).2).1 = 1) := propext (by omega)
            simp [F11, n11, u1, u2, e11]
            have dz := F2.putf (cs' := [iv kind, c1, c2, lv (rKnow q).1, iv ((rNum 1048576 (rKnow q).2).1 : Int), x5, lv (rVec q3).1, x7, .im (rsV z) false, x9, bv (decide ((rNum 1 (rItems q6).2).1 = 1)), c11]) d9.S.b d11
            have ek := EqH.keepC (h := H11.put f (.box [iv kind, c1, c2, lv (rKnow q).1, iv ((rNum 1048576 (rKnow q).2).1 : Int), x5, lv (rVec q3).1, x7, .im (rsV z) false, x9, bv (decide ((rNum 1 (rItems q6).2).1 = 1)), c11])) (H := H) (n := H11.n) (by simp)
            exact hs _ _ ((rKnow q).1, ((rNum 1048576 (rKnow q).2).1 : Int), (rMem q2).1, (rVec q3).1, (rRows q4).1) z l9 _ x5 x7 (.im (rsV z) false) x9 rfl (fun hb => by rw [u5 l2 hl2 (hst2 hb)]) (F2.eqh ⟨c.t, dz.S, Y9.trans dz.y, dz.F⟩ ek) ((l5'.two d9.two dz.y).eqh ek) ((l7'.two d9.two dz.y).eqh ek) ⟨false, rfl⟩ ((l9'.two d9.two dz.y).eqh ek) (by repeat' (first | exact u9 | exact Wl2.one w11 | refine Wl2.cf ?_ | refine Wl2.app ?_ ?_))
          · rw [if_neg hk2, if_neg hk2] at hs
            simp [u1, u2, u3, n9, hk2]
            have ek := EqH.keepC (h := st9.h) (H := H) (n := st9.h.n) rfl
            exact hs _ _ ((rKnow q).1, ((rNum 1048576 (rKnow q).2).1 : Int), (rMem q2).1, (rVec q3).1, (rRows q4).1) z l9 _ x5 x7 (.im (rsV z) false) x9 rfl (fun hb => by rw [u5 l2 hl2 hb]) (F2.eqh d9 ek) (l5'.eqh ek) (l7'.eqh ek) ⟨false, rfl⟩ (l9'.eqh ek) u9
        · have ek := EqH.keep (h := st9.h) (H := H)
          have hL : (rLists kind q).1 = none := by
            have hri : (rItems q6).1 = none := u2
            rw [hzz]
            cases hx : rItems q6 with
            | mk o2 r2 =>
              rw [hx] at hri
              simp only at hri
              subst hri
              rfl
          simp [u1]
          exact hn _ _ hL ((d8.y.trans (t10.y.trans u3)).eqh ek) u4
    · rw [if_pos (by simpa using hb)] at hzz
      simp only at hzz
      cases hz : refParse s with
      | none =>
        rw [hz] at hp
        simp only at hp
        try simp [hp, b3, r9, hb, F9, n9z, p1, p2]
        refine VA_inl (g := 77) (caps := []) rfl rfl ?_
        try simp [p1, p2]
        refine rnum_F2 (m := 32) T0 (F2.grow (m := 0) (F2.putf d8.S.b (F2.grow (m := 0) d9z))) (by omega) fun H10 wl10 d10 w10 => ?_
        try simp
        have t10 := (F2.grow (m := 0) d10)
        have F10 := t10.F
        refine ritems_loop T (S := H10.grow 0) (N := H.n) (n := (rNum 32 q6).1) t10.two (Nat.le_trans z7n t10.y.n) rNum_le t10.S.b (rNum 32 q6).1 0 [] (rNum 32 q6).2 _ (.im [] true) (by omega) (by simp [p1]) (by simp [p2]) (by rw [← F10]) LN.nil (by simp) (by simp) t10.S (by simp) Bey2.refl (by simp only []; repeat' (first | exact Wl2.nil | exact Wl2.one w1 | exact Wl2.one w2 | exact Wl2.one w3 | exact Wl2.one w6 | exact Wl2.one w7 | exact Wl2.one w9 | exact Wl2.one w10 | exact p7 | refine Wl2.cf ?_ | refine Wl2.app ?_ ?_)) (fun st9 x9 l9 u1 u2 u3 u4 u5 u6 u7 u8 u9 => ?_) (fun st9 u1 u2 u3 u4 => ?_)
        · have hri : rItems q6 = rILoop (rNum 32 q6).1 (rNum 32 q6).2 := rfl
          rw [← hri] at u5 u6 u7
          simp only [List.nil_append] at u5
          have y9 := t10.y.trans u8
          have Y9 := d8.y.trans y9
          have l5' := (l5.two d5.two ((e7.y.trans p6).trans y9))
          have l7' := (l7.two d8.two y9)
          have l9' : LN H.n st9.h 9 x9 (EnR l9) := u4.mono (Nat.le_trans z7n t10.y.n)
          have n9 : f < st9.h.n := Nat.lt_of_lt_of_le t10.fn u8.n
          have d9 : F2 H r f v B (rItems q6).2 _ st9.h := ⟨c.t, u7, Y9, u3⟩
          have hst : (rItems q6).2.bad = 0 → q6.bad = 0 := fun hb => by
            cases hx : rItems q6 with
            | mk o2 r2 =>
              rw [hx] at u6 hb
              cases o2 with
              | none => cases u6
              | some a2 =>
                obtain ⟨s2, b2⟩ := r2
                simp only at hb
                subst hb
                exact (codItems.inv q6 a2 s2 hx).1
          have hst2 : (rNum 1 (rItems q6).2).2.bad = 0 → (rItems q6).2.bad = 0 := fun hb => by
            have := (codNum (m := 1) (by omega)).stuck (rItems q6).2
            by_cases hz : (rItems q6).2.bad = 0
            · exact hz
            · exact (this hz hb).elim
          obtain ⟨l2, hl2⟩ : ∃ l2, (rItems q6).1 = some l2 := Option.isSome_iff_exists.1 u6
          have hx : rItems q6 = (some l2, (rItems q6).2) := Prod.ext hl2 rfl
          have hL : rLists kind q = (some ((rHead q).1, [], l2, if kind = 2 then decide ((rNum 1 (rItems q6).2).1 = 1) else false), if kind = 2 then (rNum 1 (rItems q6).2).2 else (rItems q6).2) := by
            rw [hzz, hx]
          rw [hL, hhd] at hs
          by_cases hk2 : kind = 2
          · rw [if_pos hk2, if_pos hk2] at hs
            simp [u1, u2, u3, n9, hk2]
            refine VA_inl (g := 77) (caps := []) rfl rfl ?_
            try simp [u1, u2]
            refine rnum_F2 (m := 1) T0 (F2.grow (m := 0) ⟨d9.two, d9.S, Bey2.refl, u3⟩) (by omega) fun H11 wl11 d11 w11 => ?_
            have F11 := d11.F
            have n11 := d11.fn
            have e11 : (((rNum 1 (rItems q6).2).1 : Int) = 1) = ((rNum 1 (rItems q6).2).1 = 1) := propext (by omega)
            simp [F11, n11, u1, u2, e11]
            have dz := F2.putf (cs' := [iv kind, c1, c2, lv (rKnow q).1, iv ((rNum 1048576 (rKnow q).2).1 : Int), x5, lv (rVec q3).1, x7, .im [] false, x9, bv (decide ((rNum 1 (rItems q6).2).1 = 1)), c11]) d9.S.b d11
            have ek := EqH.keepC (h := H11.put f (.box [iv kind, c1, c2, lv (rKnow q).1, iv ((rNum 1048576 (rKnow q).2).1 : Int), x5, lv (rVec q3).1, x7, .im [] false, x9, bv (decide ((rNum 1 (rItems q6).2).1 = 1)), c11])) (H := H) (n := H11.n) (by simp)
            exact hs _ _ ((rKnow q).1, ((rNum 1048576 (rKnow q).2).1 : Int), (rMem q2).1, (rVec q3).1, (rRows q4).1) [] l9 _ x5 x7 (.im [] false) x9 rfl (fun hb9 => (hb (hst (hst2 hb9))).elim) (F2.eqh ⟨c.t, dz.S, Y9.trans dz.y, dz.F⟩ ek) ((l5'.two d9.two dz.y).eqh ek) ((l7'.two d9.two dz.y).eqh ek) ⟨false, rfl⟩ ((l9'.two d9.two dz.y).eqh ek) (by repeat' (first | exact u9 | exact Wl2.one w11 | refine Wl2.cf ?_ | refine Wl2.app ?_ ?_))
          · rw [if_neg hk2, if_neg hk2] at hs
            simp [u1, u2, u3, n9, hk2]
            have ek := EqH.keepC (h := st9.h) (H := H) (n := st9.h.n) rfl
            exact hs _ _ ((rKnow q).1, ((rNum 1048576 (rKnow q).2).1 : Int), (rMem q2).1, (rVec q3).1, (rRows q4).1) [] l9 _ x5 x7 (.im [] false) x9 rfl (fun hb9 => (hb (hst hb9)).elim) (F2.eqh d9 ek) (l5'.eqh ek) (l7'.eqh ek) ⟨false, rfl⟩ (l9'.eqh ek) u9
        · have ek := EqH.keep (h := st9.h) (H := H)
          have hL : (rLists kind q).1 = none := by
            have hri : (rItems q6).1 = none := u2
            rw [hzz]
            cases hx : rItems q6 with
            | mk o2 r2 =>
              rw [hx] at hri
              simp only at hri
              subst hri
              rfl
          simp [u1]
          exact hn _ _ hL ((d8.y.trans (t10.y.trans u3)).eqh ek) u4
      | some z =>
        rw [hz] at hp
        simp only at hp
        try simp [hp, b3, r9, hb, F9, n9z, p1, p2]
        refine VA_inl (g := 77) (caps := []) rfl rfl ?_
        try simp [p1, p2]
        refine rnum_F2 (m := 32) T0 (F2.grow (m := 0) (F2.putf d8.S.b (F2.grow (m := 0) d9z))) (by omega) fun H10 wl10 d10 w10 => ?_
        try simp
        have t10 := (F2.grow (m := 0) d10)
        have F10 := t10.F
        refine ritems_loop T (S := H10.grow 0) (N := H.n) (n := (rNum 32 q6).1) t10.two (Nat.le_trans z7n t10.y.n) rNum_le t10.S.b (rNum 32 q6).1 0 [] (rNum 32 q6).2 _ (.im [] true) (by omega) (by simp [p1]) (by simp [p2]) (by rw [← F10]) LN.nil (by simp) (by simp) t10.S (by simp) Bey2.refl (by simp only []; repeat' (first | exact Wl2.nil | exact Wl2.one w1 | exact Wl2.one w2 | exact Wl2.one w3 | exact Wl2.one w6 | exact Wl2.one w7 | exact Wl2.one w9 | exact Wl2.one w10 | exact p7 | refine Wl2.cf ?_ | refine Wl2.app ?_ ?_)) (fun st9 x9 l9 u1 u2 u3 u4 u5 u6 u7 u8 u9 => ?_) (fun st9 u1 u2 u3 u4 => ?_)
        · have hri : rItems q6 = rILoop (rNum 32 q6).1 (rNum 32 q6).2 := rfl
          rw [← hri] at u5 u6 u7
          simp only [List.nil_append] at u5
          have y9 := t10.y.trans u8
          have Y9 := d8.y.trans y9
          have l5' := (l5.two d5.two ((e7.y.trans p6).trans y9))
          have l7' := (l7.two d8.two y9)
          have l9' : LN H.n st9.h 9 x9 (EnR l9) := u4.mono (Nat.le_trans z7n t10.y.n)
          have n9 : f < st9.h.n := Nat.lt_of_lt_of_le t10.fn u8.n
          have d9 : F2 H r f v B (rItems q6).2 _ st9.h := ⟨c.t, u7, Y9, u3⟩
          have hst : (rItems q6).2.bad = 0 → q6.bad = 0 := fun hb => by
            cases hx : rItems q6 with
            | mk o2 r2 =>
              rw [hx] at u6 hb
              cases o2 with
              | none => cases u6
              | some a2 =>
                obtain ⟨s2, b2⟩ := r2
                simp only at hb
                subst hb
                exact (codItems.inv q6 a2 s2 hx).1
          have hst2 : (rNum 1 (rItems q6).2).2.bad = 0 → (rItems q6).2.bad = 0 := fun hb => by
            have := (codNum (m := 1) (by omega)).stuck (rItems q6).2
            by_cases hz : (rItems q6).2.bad = 0
            · exact hz
            · exact (this hz hb).elim
          obtain ⟨l2, hl2⟩ : ∃ l2, (rItems q6).1 = some l2 := Option.isSome_iff_exists.1 u6
          have hx : rItems q6 = (some l2, (rItems q6).2) := Prod.ext hl2 rfl
          have hL : rLists kind q = (some ((rHead q).1, [], l2, if kind = 2 then decide ((rNum 1 (rItems q6).2).1 = 1) else false), if kind = 2 then (rNum 1 (rItems q6).2).2 else (rItems q6).2) := by
            rw [hzz, hx]
          rw [hL, hhd] at hs
          by_cases hk2 : kind = 2
          · rw [if_pos hk2, if_pos hk2] at hs
            simp [u1, u2, u3, n9, hk2]
            refine VA_inl (g := 77) (caps := []) rfl rfl ?_
            try simp [u1, u2]
            refine rnum_F2 (m := 1) T0 (F2.grow (m := 0) ⟨d9.two, d9.S, Bey2.refl, u3⟩) (by omega) fun H11 wl11 d11 w11 => ?_
            have F11 := d11.F
            have n11 := d11.fn
            have e11 : (((rNum 1 (rItems q6).2).1 : Int) = 1) = ((rNum 1 (rItems q6).2).1 = 1) := propext (by omega)
            simp [F11, n11, u1, u2, e11]
            have dz := F2.putf (cs' := [iv kind, c1, c2, lv (rKnow q).1, iv ((rNum 1048576 (rKnow q).2).1 : Int), x5, lv (rVec q3).1, x7, .im (rsV z) false, x9, bv (decide ((rNum 1 (rItems q6).2).1 = 1)), c11]) d9.S.b d11
            have ek := EqH.keepC (h := H11.put f (.box [iv kind, c1, c2, lv (rKnow q).1, iv ((rNum 1048576 (rKnow q).2).1 : Int), x5, lv (rVec q3).1, x7, .im (rsV z) false, x9, bv (decide ((rNum 1 (rItems q6).2).1 = 1)), c11])) (H := H) (n := H11.n) (by simp)
            exact hs _ _ ((rKnow q).1, ((rNum 1048576 (rKnow q).2).1 : Int), (rMem q2).1, (rVec q3).1, (rRows q4).1) z l9 _ x5 x7 (.im (rsV z) false) x9 rfl (fun hb9 => (hb (hst (hst2 hb9))).elim) (F2.eqh ⟨c.t, dz.S, Y9.trans dz.y, dz.F⟩ ek) ((l5'.two d9.two dz.y).eqh ek) ((l7'.two d9.two dz.y).eqh ek) ⟨false, rfl⟩ ((l9'.two d9.two dz.y).eqh ek) (by repeat' (first | exact u9 | exact Wl2.one w11 | refine Wl2.cf ?_ | refine Wl2.app ?_ ?_))
          · rw [if_neg hk2, if_neg hk2] at hs
            simp [u1, u2, u3, n9, hk2]
            have ek := EqH.keepC (h := st9.h) (H := H) (n := st9.h.n) rfl
            exact hs _ _ ((rKnow q).1, ((rNum 1048576 (rKnow q).2).1 : Int), (rMem q2).1, (rVec q3).1, (rRows q4).1) z l9 _ x5 x7 (.im (rsV z) false) x9 rfl (fun hb9 => (hb (hst hb9)).elim) (F2.eqh d9 ek) (l5'.eqh ek) (l7'.eqh ek) ⟨false, rfl⟩ (l9'.eqh ek) u9
        · have ek := EqH.keep (h := st9.h) (H := H)
          have hL : (rLists kind q).1 = none := by
            have hri : (rItems q6).1 = none := u2
            rw [hzz]
            cases hx : rItems q6 with
            | mk o2 r2 =>
              rw [hx] at hri
              simp only at hri
              subst hri
              rfl
          simp [u1]
          exact hn _ _ hL ((d8.y.trans (t10.y.trans u3)).eqh ek) u4
  · have hzl : rLists kind q = (match rItems q5 with | (none, r) => (none, r) | (some l, r) => (some ((rHead q).1, [], l, if kind = 2 then decide ((rNum 1 r).1 = 1) else false), if kind = 2 then (rNum 1 r).2 else r)) := by
      simp only [rLists, if_neg hk, hq5']
      cases rItems q5 with
      | mk o2 r2 => cases o2 <;> rfl
    simp [p1, p2, p3, n8, hk]
    refine VA_inl (g := 77) (caps := []) rfl rfl ?_
    try simp [p1, p2]
    refine rnum_F2 (m := 32) T0 (F2.grow (m := 0) e8) (by omega) fun H10 wl10 d10 w10 => ?_
    try simp
    have t10 := (F2.grow (m := 0) d10)
    have F10 := t10.F
    refine ritems_loop T (S := H10.grow 0) (N := H.n) (n := (rNum 32 q5).1) t10.two (Nat.le_trans z7n t10.y.n) rNum_le t10.S.b (rNum 32 q5).1 0 [] (rNum 32 q5).2 _ (.im [] true) (by omega) (by simp [p1]) (by simp [p2]) (by rw [← F10]) LN.nil (by simp) (by simp) t10.S (by simp) Bey2.refl (by simp only []; repeat' (first | exact Wl2.nil | exact Wl2.one w1 | exact Wl2.one w2 | exact Wl2.one w3 | exact Wl2.one w6 | exact Wl2.one w7 | exact Wl2.one w10 | exact p7 | refine Wl2.cf ?_ | refine Wl2.app ?_ ?_)) (fun st9 x9 l9 u1 u2 u3 u4 u5 u6 u7 u8 u9 => ?_) (fun st9 u1 u2 u3 u4 => ?_)
    · have hri : rItems q5 = rILoop (rNum 32 q5).1 (rNum 32 q5).2 := rfl
      rw [← hri] at u5 u6 u7
      simp only [List.nil_append] at u5
      have y9 := t10.y.trans u8
      have Y9 := d8.y.trans y9
      have l5' := (l5.two d5.two ((e7.y.trans p6).trans y9))
      have l7' := (l7.two d8.two y9)
      have l9' : LN H.n st9.h 9 x9 (EnR l9) := u4.mono (Nat.le_trans z7n t10.y.n)
      have n9 : f < st9.h.n := Nat.lt_of_lt_of_le t10.fn u8.n
      have d9 : F2 H r f v B (rItems q5).2 _ st9.h := ⟨c.t, u7, Y9, u3⟩
      have hst : (rItems q5).2.bad = 0 → q5.bad = 0 := fun hb => by
        cases hx : rItems q5 with
        | mk o2 r2 =>
          rw [hx] at u6 hb
          cases o2 with
          | none => cases u6
          | some a2 =>
            obtain ⟨s2, b2⟩ := r2
            simp only at hb
            subst hb
            exact (codItems.inv q5 a2 s2 hx).1
      have hst2 : (rNum 1 (rItems q5).2).2.bad = 0 → (rItems q5).2.bad = 0 := fun hb => by
        have := (codNum (m := 1) (by omega)).stuck (rItems q5).2
        by_cases hz : (rItems q5).2.bad = 0
        · exact hz
        · exact (this hz hb).elim
      obtain ⟨l2, hl2⟩ : ∃ l2, (rItems q5).1 = some l2 := Option.isSome_iff_exists.1 u6
      have hx : rItems q5 = (some l2, (rItems q5).2) := Prod.ext hl2 rfl
      have hL : rLists kind q = (some ((rHead q).1, [], l2, if kind = 2 then decide ((rNum 1 (rItems q5).2).1 = 1) else false), if kind = 2 then (rNum 1 (rItems q5).2).2 else (rItems q5).2) := by
        rw [hzl, hx]
      rw [hL, hhd] at hs
      by_cases hk2 : kind = 2
      · rw [if_pos hk2, if_pos hk2] at hs
        simp [u1, u2, u3, n9, hk2]
        refine VA_inl (g := 77) (caps := []) rfl rfl ?_
        try simp [u1, u2]
        refine rnum_F2 (m := 1) T0 (F2.grow (m := 0) ⟨d9.two, d9.S, Bey2.refl, u3⟩) (by omega) fun H11 wl11 d11 w11 => ?_
        have F11 := d11.F
        have n11 := d11.fn
        have e11 : (((rNum 1 (rItems q5).2).1 : Int) = 1) = ((rNum 1 (rItems q5).2).1 = 1) := propext (by omega)
        simp [F11, n11, u1, u2, e11]
        have dz := F2.putf (cs' := [iv kind, c1, c2, lv (rKnow q).1, iv ((rNum 1048576 (rKnow q).2).1 : Int), x5, lv (rVec q3).1, x7, .im [] true, x9, bv (decide ((rNum 1 (rItems q5).2).1 = 1)), c11]) d9.S.b d11
        have ek := EqH.keepC (h := H11.put f (.box [iv kind, c1, c2, lv (rKnow q).1, iv ((rNum 1048576 (rKnow q).2).1 : Int), x5, lv (rVec q3).1, x7, .im [] true, x9, bv (decide ((rNum 1 (rItems q5).2).1 = 1)), c11])) (H := H) (n := H11.n) (by simp)
        exact hs _ _ ((rKnow q).1, ((rNum 1048576 (rKnow q).2).1 : Int), (rMem q2).1, (rVec q3).1, (rRows q4).1) [] l9 _ x5 x7 (.im [] true) x9 rfl (fun hb => by rw [u5 l2 hl2 (hst2 hb)]) (F2.eqh ⟨c.t, dz.S, Y9.trans dz.y, dz.F⟩ ek) ((l5'.two d9.two dz.y).eqh ek) ((l7'.two d9.two dz.y).eqh ek) ⟨true, rfl⟩ ((l9'.two d9.two dz.y).eqh ek) (by repeat' (first | exact u9 | exact Wl2.one w11 | refine Wl2.cf ?_ | refine Wl2.app ?_ ?_))
      · rw [if_neg hk2, if_neg hk2] at hs
        simp [u1, u2, u3, n9, hk2]
        have ek := EqH.keepC (h := st9.h) (H := H) (n := st9.h.n) rfl
        exact hs _ _ ((rKnow q).1, ((rNum 1048576 (rKnow q).2).1 : Int), (rMem q2).1, (rVec q3).1, (rRows q4).1) [] l9 _ x5 x7 (.im [] true) x9 rfl (fun hb => by rw [u5 l2 hl2 hb]) (F2.eqh d9 ek) (l5'.eqh ek) (l7'.eqh ek) ⟨true, rfl⟩ (l9'.eqh ek) u9
    · have ek := EqH.keep (h := st9.h) (H := H)
      have hL : (rLists kind q).1 = none := by
        have hri : (rItems q5).1 = none := u2
        rw [hzl]
        cases hx : rItems q5 with
        | mk o2 r2 =>
          rw [hx] at hri
          simp only at hri
          subst hri
          rfl
      simp [u1]
      exact hn _ _ hL ((d8.y.trans (t10.y.trans u3)).eqh ek) u4
end Go.Evl.Zone

namespace Go.Evl.Zone
open Go Go.Evl
variable {P : Program}
structure TkS (h : Heap) (t r : Nat) (v : PV) (B : Bytes) (q : Src) (nn : Bool) : Prop where
  S : RdS h r v B q
  T : h.at_ t = .box [.ptr r 0, bv nn]
  tn : t < h.n
  ne : t ≠ r
section
variable {h h' : Heap} {t r : Nat} {v : PV} {B : Bytes} {q q' : Src} {nn : Bool} {K : PV → Heap → List Nat → Prop} {m : Nat}
theorem TkS.grow (b : TkS h t r v B q nn) : TkS (h.grow m) t r v B q nn := ⟨b.S.grow, by simp [b.tn, b.T], by have := b.tn; simp; omega, b.ne⟩
theorem TkS.oth (b : TkS h t r v B q nn) (o : Oth h r h') (s : RdS h' r v B q') : TkS h' t r v B q' nn := ⟨s, by rw [o.at_ t b.tn b.ne, b.T], by rw [o.n]; exact b.tn, b.ne⟩
theorem tid_IC (T : TT P) (b : TkS h t r v B q nn) (hK : ∀ H' wl, RdS H' r v B (rText 6 q).2 → Oth h r H' → (∀ i ∈ wl, i = r) → K (sv (rText 6 q).1) H' wl) : IC (env P) 44 [.ptr t 0] h K := by
  refine IC_rdx (cf := c44) rfl rfl b.S ?_
  simp [c44, b.T, b.tn]
  refine VA_inl (g := 99) (caps := []) rfl rfl ?_
  try simp
  refine wtext_IC (m := 6) T (b.S.grow (m := 0)) (by decide) fun H1 wl1 s1 o1 w1 => ?_
  obtain ⟨a1, x1, x2, x3⟩ := s1.at_
  have y4 := s1.hr
  try simp
  exact Fin'.mk _ (rText 6 q).2 a1 ⟨_, by simp; rfl, by simp⟩ (Wl.one w1) (by repeat (first | exact (Bey.refl.grow (m := 0)).oth o1 | refine Bey.grow ?_)) x1 x2 (by simp [x3, y4]) hK
theorem tnum_IC (T : TT P) (b : TkS h t r v B q nn) (hK : ∀ H' wl, RdS H' r v B (rNum 1048576 q).2 → Oth h r H' → (∀ i ∈ wl, i = r) → K (iv (rNum 1048576 q).1) H' wl) : IC (env P) 102 [.ptr t 0] h K := by
  refine IC_rdx (cf := c102) rfl rfl b.S ?_
  simp [c102, b.T, b.tn]
  refine VA_inl (g := 42) (caps := []) rfl rfl ?_
  try simp
  refine wnum_IC (m := 1048576) T (b.S.grow (m := 0)) (by decide) fun H1 wl1 s1 o1 w1 => ?_
  obtain ⟨a1, x1, x2, x3⟩ := s1.at_
  have y4 := s1.hr
  try simp
  exact Fin'.mk _ (rNum 1048576 q).2 a1 ⟨_, by simp; rfl, by simp⟩ (Wl.one w1) (by repeat (first | exact (Bey.refl.grow (m := 0)).oth o1 | refine Bey.grow ?_)) x1 x2 (by simp [x3, y4]) hK
theorem tover_IC (T : TT P) (b : TkS h t r v B q nn) (hK : K (bv (nn || decide (q.bad ≠ 0))) h []) : IC (env P) 108 [.ptr t 0] h K := by
  refine IC_rd (cf := c108) rfl rfl ?_
  cases nn
  · simp [c108, b.T, b.tn]
    refine VA_inl (g := 43) (caps := []) rfl rfl ?_
    try simp
    refine werr_IC T (b.S.grow (m := 0)) ?_
    try simp
    simp only [Bool.false_or] at hK
    refine Rd.mk _ ⟨_, by simp; exact ⟨rfl, rfl⟩⟩ rfl (by intro i hi; simp [hi]) (by simp) ?_
    simpa using hK
  · simp [c108, b.T, b.tn]
    refine Rd.mk _ ⟨_, by simp; exact ⟨rfl, rfl⟩⟩ rfl (by intro i hi; simp [hi]) (by simp) ?_
    simpa using hK
end
def cLoop {α : Type} (f : α → Src → α × Src × Bool) : Nat → α → Src → Bool → α × Src × Bool
  | 0, a, q, b => (a, q, b)
  | n + 1, a, q, b => if (b || decide (q.bad ≠ 0)) = true then (a, q, b) else cLoop f n (f a q).1 (f a q).2.1 (f a q).2.2
theorem count_loop (T : TT P) {t r mo : Nat} {v : PV} {B : Bytes} {g : FuncId} {caps : List PV} {α : Type} (f : α → Src → α × Src × Bool) (I : Nat → α → Src → Bool → Heap → Prop) (W : Nat → Prop)
    (hI : ∀ i a q nn h, I i a q nn h → TkS h t r v B q nn) (hg : ∀ i a q nn h m, I i a q nn h → I i a q nn (h.grow m))
    (hkp : howF 100 g = .keep)
    (step : ∀ i a q h (K' : PV → Heap → List Nat → Prop), I i a q false h → i < mo → q.bad = 0 → (∀ w h' wl, I (i + 1) (f a q).1 (f a q).2.1 (f a q).2.2 h' → (∀ j ∈ wl, W j) → K' w h' wl) → KC (env P) g caps h K')
    {n : Nat} (hn : n ≤ mo) (hmo : mo ≤ 4096) {ks : List Fr'} {K : Ex → St → Prop} : ∀ (j i : Nat) (a : α) (q : Src) (nn : Bool) (st : St), i + j = n → st.σ 0 = .ptr t 0 → st.σ 2 = .fn g caps → st.σ 6 = iv n → st.σ 7 = iv i → I i a q nn st.h → (∀ k ∈ st.wl, W k) →
    (∀ st' i', I i' (cLoop f j a q nn).1 (cLoop f j a q nn).2.1 (cLoop f j a q nn).2.2 st'.h → (∀ k ∈ st'.wl, W k) → VN (env P) 100 st' ks K) → V (env P) 100 (.loop L100_0) st (.blk 0 :: ks) K := by
  intro j
  induction j with
  | zero =>
    intro i a q nn st hi h0 h2 h6 h7 hI0 hw hend
    obtain rfl : i = n := by omega
    rw [V_loop]
    simp [L100_0, h0, h6, h7]
    exact hend _ i (hg _ _ _ _ _ _ hI0) hw
  | succ j ih =>
    intro i a q nn st hi h0 h2 h6 h7 hI0 hw hend
    have hlt : (i : Int) < n := by omega
    have tk := hI _ _ _ _ _ (hg _ _ _ _ _ 0 hI0)
    rw [V_loop]
    simp [L100_0, h0, h2, h6, h7, hlt]
    refine VA_inl (g := 108) (caps := []) rfl rfl ?_
    try simp
    refine tover_IC T tk ?_
    by_cases hb : (nn || decide (q.bad ≠ 0)) = true
    · rw [hb]
      simp [h0, h2, h6, h7]
      have e : cLoop f (j + 1) a q nn = (a, q, nn) := by
        simp only [cLoop]
        rw [if_pos hb]
      rw [e] at hend
      exact hend _ i (hg _ _ _ _ _ _ hI0) hw
    · have hb' : (nn || decide (q.bad ≠ 0)) = false := by simpa using hb
      rw [hb']
      have e : cLoop f (j + 1) a q nn = cLoop f j (f a q).1 (f a q).2.1 (f a q).2.2 := by
        simp only [cLoop]
        rw [if_neg hb]
      rw [e] at hend
      obtain ⟨rfl, hq⟩ : nn = false ∧ q.bad = 0 := by simpa using hb'
      simp [h0, h2, h6, h7]
      refine VA_keep (g := g) (caps := caps) (by simp [h2]) hkp ?_
      simp
      have w5 : IntKind.i64.wrap ((i : Int) + 1) = ((i + 1 : Nat) : Int) := by rw [wrap64_id (by omega)]; omega
      refine step i a q _ _ (hg _ _ _ _ _ _ hI0) (by omega) hq fun w h' wl hI' hw' => ?_
      simp [h7, w5]
      refine ih (i + 1) (f a q).1 (f a q).2.1 (f a q).2.2 _ (by omega) (by simp [h0]) (by simp [h2]) (by simp [h6]) (by simp) ?_ ?_ fun st' i' hI2 hw2 => ?_
      · exact hg _ _ _ _ _ _ hI'
      · intro k hk
        rcases List.mem_append.1 hk with hk | hk
        · exact hw' k hk
        · exact hw k hk
      · exact hend st' i' hI2 hw2
theorem count_KC (T : TT P) {t r mo : Nat} {v : PV} {B : Bytes} {g : FuncId} {caps : List PV} {α : Type} (f : α → Src → α × Src × Bool) (I : Nat → α → Src → Bool → Heap → Prop) (W : Nat → Prop) {H : Heap}
    (hI : ∀ i a q nn h, I i a q nn h → TkS h t r v B q nn) (hg : ∀ i a q nn h m, I i a q nn h → I i a q nn (h.grow m))
    (ho : ∀ i a q nn h h' q', I i a q nn h → Oth h r h' → RdS h' r v B q' → I i a q' nn h')
    (he : ∀ i a q nn h h', I i a q nn h → EqH h h' → I i a q nn h')
    (hkp : howF 100 g = .keep) (hr : W r)
    (step : ∀ i a q h (K' : PV → Heap → List Nat → Prop), I i a q false h → i < mo → q.bad = 0 → (∀ w h' wl, I (i + 1) (f a q).1 (f a q).2.1 (f a q).2.2 h' → (∀ j ∈ wl, W j) → K' w h' wl) → KC (env P) g caps h K')
    (hmo : mo ≤ 4096) {a : α} {q : Src} {nn : Bool} (h0 : I 0 a q nn H) {K : PV → Heap → List Nat → Prop}
    (hK : ∀ w H' wl i, I i (cLoop f (rNum mo q).1 a (rNum mo q).2 nn).1 (cLoop f (rNum mo q).1 a (rNum mo q).2 nn).2.1 (cLoop f (rNum mo q).1 a (rNum mo q).2 nn).2.2 H' → (∀ j ∈ wl, W j) → K w H' wl) : KC (env P) 100 [.ptr t 0, iv mo, .fn g caps] H K := by
  have tk := hI _ _ _ _ _ h0
  refine KC_of (cf := c100) rfl rfl ?_
  simp [c100, tk.T, tk.tn]
  refine VA_inl (g := 42) (caps := []) rfl rfl ?_
  try simp
  refine wnum_IC (m := mo) T (tk.S.grow (m := 0)) (by omega) fun H1 wl1 s1 o1 w1 => ?_
  try simp
  have h1 := ho _ _ _ _ _ _ _ (hg _ _ _ _ _ 0 h0) o1 s1
  refine count_loop T f I W hI hg hkp step (n := (rNum mo q).1) rNum_le hmo (rNum mo q).1 0 a (rNum mo q).2 nn _ (by omega) (by simp) (by simp) (by simp) (by simp) (hg _ _ _ _ _ _ h1) (fun k hk => by simp only [] at hk; rw [w1 k hk]; exact hr) fun st' i' hI' hw' => ?_
  simp [c100, resV, resP]
  exact hK _ _ _ i' (he _ _ _ _ _ _ hI' EqH.keep) hw'
end Go.Evl.Zone

namespace Go.Evl.Zone
open Go Go.Evl
variable {P : Program}
structure BeyW (W : Nat → Prop) (H h : Heap) : Prop where
  n : H.n ≤ h.n
  at_ : ∀ i, i < H.n → ¬ W i → h.at_ i = H.at_ i
theorem Bf.w {H h : Heap} {v : PV} {B : Bytes} {W : Nat → Prop} (hv : Bf H v B) (y : BeyW W H h) (hb : ∀ i, W i → ∃ cs, H.at_ i = .box cs) : Bf h v B := by
  refine ⟨?_, hv.m⟩
  rcases hv.l with ⟨hv, hl⟩ | ⟨rr, xs, hv, hx, hle, he, hr, hl⟩
  · exact .im hv hl
  · refine .row rr xs hv ?_ hle he (Nat.lt_of_lt_of_le hr y.n) hl
    rw [y.at_ rr hr (fun q => by obtain ⟨cs, h⟩ := hb rr q; rw [h] at hx; cases hx), hx]
theorem LN.w {N k : Nat} {H h : Heap} {v : PV} {ys : List (List PV)} {W : Nat → Prop} (hl : LN N H k v ys) (y : BeyW W H h) (hb : ∀ i, W i → ∃ cs, H.at_ i = .box cs) : LN N h k v ys := ⟨hl.l.keep y.n fun i hi ⟨xs, hx⟩ => y.at_ i hi (fun q => by obtain ⟨cs, h⟩ := hb i q; rw [h] at hx; cases hx), hl.b⟩
structure AI (H : Heap) (t r : Nat) (v : PV) (B : Bytes) (a : Nat) (ca : List PV) (e k : Nat) (cells : PV → List PV) (i : Nat) (ys : List (List PV)) (q : Src) (nn : Bool) (h : Heap) : Prop where
  tk : TkS h t r v B q nn
  y : BeyW (fun i => i = r ∨ i = e ∨ i = t) H h
  A : h.at_ a = .box ca
  an : a < h.n
  E : ∃ x, h.at_ e = .box (cells x) ∧ LN H.n h k x ys
  en : e < h.n
  eH : e < H.n
  le : ys.length ≤ i
  et : e ≠ t
  er : e ≠ r
  ar : a ≠ r
  ae : a ≠ e
  at' : a ≠ t
  rn : r < H.n
  tn : t < H.n
  hv : Bf H v B
  hb : ∀ i, i = r ∨ i = e ∨ i = t → ∃ cs, H.at_ i = .box cs
section
variable {H h h' H' : Heap} {t r : Nat} {v : PV} {B : Bytes} {a : Nat} {ca : List PV} {e k : Nat} {cells : PV → List PV} {i : Nat} {ys zs : List (List PV)} {q q' : Src} {nn nn' : Bool} {m : Nat} {v' : PV}
theorem AI.grow (c : AI H t r v B a ca e k cells i ys q nn h) : AI H t r v B a ca e k cells i ys q nn (h.grow m) := by
  have h1 := c.an
  have h2 := c.en
  have h3 := c.y.n
  obtain ⟨x, e1, e2⟩ := c.E
  refine ⟨c.tk.grow, ⟨by simp; omega, fun i hi hw => ?_⟩, by simp [h1, c.A], by simp; omega, ⟨x, by simp [h2, e1], e2.grow⟩, by simp; omega, c.eH, c.le, c.et, c.er, c.ar, c.ae, c.at', c.rn, c.tn, c.hv, c.hb⟩
  simp only [at_grow]
  rw [if_pos (by omega), c.y.at_ i hi hw]
theorem AI.oth (c : AI H t r v B a ca e k cells i ys q nn h) (o : Oth h r h') (s : RdS h' r v B q') : AI H t r v B a ca e k cells i ys q' nn h' := by
  obtain ⟨x, e1, e2⟩ := c.E
  obtain ⟨a0, _, _, hb⟩ := c.tk.S.at_
  refine ⟨c.tk.oth o s, ⟨by rw [o.n]; exact c.y.n, fun i hi hw => ?_⟩, by rw [o.at_ a c.an c.ar, c.A], by rw [o.n]; exact c.an, ⟨x, by rw [o.at_ e c.en c.er, e1], e2.oth ⟨_, hb⟩ o⟩, by rw [o.n]; exact c.en, c.eH, c.le, c.et, c.er, c.ar, c.ae, c.at', c.rn, c.tn, c.hv, c.hb⟩
  rw [o.at_ i (Nat.lt_of_lt_of_le hi c.y.n) (fun q => hw (.inl q)), c.y.at_ i hi hw]
theorem AI.eqh (c : AI H t r v B a ca e k cells i ys q nn h) (E : EqH h h') : AI H t r v B a ca e k cells i ys q nn h' := by
  obtain ⟨x, e1, e2⟩ := c.E
  refine ⟨⟨c.tk.S.eqh E, by rw [E.at_ t c.tk.tn, c.tk.T], by rw [E.n]; exact c.tk.tn, c.tk.ne⟩, ⟨by rw [E.n]; exact c.y.n, fun i hi hw => ?_⟩, by rw [E.at_ a c.an, c.A], by rw [E.n]; exact c.an, ⟨x, by rw [E.at_ e c.en, e1], e2.eqh E⟩, by rw [E.n]; exact c.en, c.eH, c.le, c.et, c.er, c.ar, c.ae, c.at', c.rn, c.tn, c.hv, c.hb⟩
  rw [E.at_ i (Nat.lt_of_lt_of_le hi c.y.n), c.y.at_ i hi hw]
theorem AI.next (c : AI H t r v B a ca e k cells i ys q nn h) (hz : zs.length ≤ 1) (a2 : LN H.n H' k v' (ys ++ zs)) (a3 : H'.n = h.n) (a4 : ∀ i cs, h.at_ i = .box cs → H'.at_ i = .box cs) (a5 : ∀ i, i < H.n → H'.at_ i = h.at_ i) :
    AI H t r v B a ca e k cells (i + 1) (ys ++ zs) q nn (H'.put e (.box (cells v'))) := by
  obtain ⟨x, e1, e2⟩ := c.E
  obtain ⟨a0, x1, x2, x3⟩ := c.tk.S.at_
  have y2 : BeyW (fun i => i = r ∨ i = e ∨ i = t) H (H'.put e (.box (cells v'))) := ⟨by simpa [a3] using c.y.n, fun i hi hw => by
    simp only [at_put]
    rw [if_neg (fun q => hw (.inr (.inl q))), a5 i hi, c.y.at_ i hi hw]⟩
  refine ⟨⟨⟨by simpa [a3] using c.tk.S.hr, c.hv.w y2 c.hb, a0, x1, x2, ?_⟩, ?_, by simpa [a3] using c.tk.tn, c.tk.ne⟩, y2, ?_, by simpa [a3] using c.an, ⟨v', by simp, a2.putN (.inr ⟨_, a4 _ _ e1⟩)⟩, by simpa [a3] using c.en, c.eH, by have := c.le; simp; omega, c.et, c.er, c.ar, c.ae, c.at', c.rn, c.tn, c.hv, c.hb⟩
  · simp [Ne.symm c.er, a4 _ _ x3]
  · simp [Ne.symm c.et, a4 _ _ c.tk.T]
  · simp [c.ae, a4 _ _ c.A]
end
abbrev WI (H : Heap) (r e : Nat) (j : Nat) : Prop := (j = r ∨ j = e) ∨ H.n ≤ j
theorem WI.ce {H : Heap} {r e : Nat} {l : List Nat} (h : ∀ j ∈ l, WI H r e j) : ∀ j ∈ e :: l, WI H r e j := fun j hj => (List.mem_cons.1 hj).elim (fun q => .inl (.inr q)) (h j)
theorem WI.cn {H : Heap} {r e i : Nat} {l : List Nat} (hi : H.n ≤ i) (h : ∀ j ∈ l, WI H r e j) : ∀ j ∈ i :: l, WI H r e j := fun j hj => (List.mem_cons.1 hj).elim (fun q => .inr (by omega)) (h j)
theorem WI.app {H : Heap} {r e : Nat} {a b : List Nat} (ha : ∀ j ∈ a, WI H r e j) (hb : ∀ j ∈ b, WI H r e j) : ∀ j ∈ a ++ b, WI H r e j := fun j hj => (List.mem_append.1 hj).elim (ha j) (hb j)
theorem WI.one {H : Heap} {r e : Nat} {a : List Nat} (ha : ∀ j ∈ a, j = r) : ∀ j ∈ a, WI H r e j := fun j hj => .inl (.inl (ha j hj))
theorem WI.new {H : Heap} {r e : Nat} {a : List Nat} (ha : ∀ j ∈ a, H.n ≤ j) : ∀ j ∈ a, WI H r e j := fun j hj => .inr (ha j hj)
theorem EqH.keepD {h H : Heap} {n : Nat} (e : n = h.n) : EqH h (if n = H.n then h.cut H else h) := by
  subst e
  exact EqH.keep
theorem shape {N k : Nat} {H : Heap} {v : PV} {ys : List (List PV)} (h : LN N H k v ys) : (∃ ys, v = .im ys true) ∨ ∃ r k g o n, v = .sl r k g o n := by
  rcases h.l with ⟨h, _⟩ | ⟨_, _, h, _⟩
  · exact .inl ⟨_, h⟩
  · exact .inr ⟨_, _, _, _, _, h⟩
theorem vec1_KC (T : TT P) {H h : Heap} {t r a e i : Nat} {v : PV} {B : Bytes} {L : List At} {q : Src} {nn : Bool} {K : PV → Heap → List Nat → Prop} (c : AI H t r v B a [.ptr t 0] e 2 (fun x => [x]) i (En L) q nn h) (hi : i < 64)
    (hK : ∀ w h' wl, AI H t r v B a [.ptr t 0] e 2 (fun x => [x]) (i + 1) (En (L ++ [(rAt q).1])) (rAt q).2 nn h' → (∀ j ∈ wl, WI H r e j) → K w h' wl) : KC (env P) 101 [.ptr a 0, .ptr e 0] h K := by
  have hle := c.le
  simp only [En_length] at hle
  refine KC_of (cf := c101) rfl rfl ?_
  simp [c101, c.A, c.an]
  refine VA_inl (g := 44) (caps := []) rfl rfl ?_
  try simp
  have c0 := (c.grow (m := 0))
  refine tid_IC T c0.tk fun H1 wl1 s1 o1 w1 => ?_
  have c1 := c0.oth o1 s1
  obtain ⟨x, E1, E2⟩ := c1.E
  have n1 := c1.en
  try simp [E1, n1, c1.A, c1.an]
  refine VA_inl (g := 102) (caps := []) rfl rfl ?_
  try simp
  have c1' := (c1.grow (m := 1))
  refine tnum_IC T c1'.tk fun H2 wl2 s2 o2 w2 => ?_
  have c2 := c1'.oth o2 s2
  have n2 : H2.n = H1.n + 1 := by rw [o2.n]; simp
  have d2 : H2.at_ H1.n = .dead := by
    rw [o2.at_ H1.n (by simp) (by have := s1.hr; omega)]
    simp
  have E3 : LN H.n H2 2 x (En L) := by
    obtain ⟨a0, _, _, hb⟩ := c1'.tk.S.at_
    exact (E2.grow (m := 1)).oth ⟨_, hb⟩ o2
  have e2 : H2.at_ e = .box [x] := by
    rw [o2.at_ e (by simp; omega) c.er]
    simp [n1, E1]
  have en2 := c2.en
  try simp [chunks, elems, allLen]
  refine VP_appN (N := H.n) (ys := En L) E3 d2 (by omega) (by have := c1.y.n; omega) (by simp [allLen]) (by simp; unfold most; omega) fun v' H3 wr rd a2 a3 a4 a5 a6 => ?_
  have c3 := c2.next (zs := En [(rAt q).1]) (by simp) a2 a3 a4 a5
  rw [← En_append] at c3
  have e3 := a4 _ _ e2
  have hwe : ∀ i ∈ wl2, ¬ i = e := fun i q z => c.er (z.symm.trans (w2 i q))
  have hwa : ∀ i ∈ wl2, ¬ i = a := fun i q z => c.ar (z.symm.trans (w2 i q))
  have en3 : e < H3.n := by omega
  rcases shape a2 with ⟨ys, rfl⟩ | ⟨r', k', g', o', n', rfl⟩
  all_goals
    simp [e3, hwe, hwa, a3, n2, en3]
    refine ⟨hwe, ?_⟩
    simp [resV, resP]
    exact hK _ _ _ (c3.eqh (EqH.keepD (by simp [a3, n2]))) (WI.ce (WI.app (WI.new a6) (WI.app (WI.one w2) (WI.one w1))))
theorem cLoop_r {α : Type} (g : RF α) : ∀ (n : Nat) (L : List α) (q : Src), cLoop (fun (L : List α) q => (L ++ [(g q).1], (g q).2, false)) n L q false = (L ++ (rLoop g n q).1, (rLoop g n q).2, false)
  | 0, L, q => by simp [cLoop, rLoop]
  | n + 1, L, q => by
    by_cases h : q.bad = 0
    · simp only [cLoop, rLoop]
      rw [if_neg (by simp [h]), if_neg (by simp [h]), cLoop_r g n]
      simp
    · simp only [cLoop, rLoop]
      rw [if_pos (by simp [h]), if_pos (by simpa using h)]
      simp
theorem AI.bey {Hc H h : Heap} {t r : Nat} {v : PV} {B : Bytes} {a : Nat} {ca : List PV} {e k : Nat} {cells : PV → List PV} {i : Nat} {ys : List (List PV)} {q : Src} {nn : Bool} (c : AI Hc t r v B a ca e k cells i ys q nn h) (hT : H.at_ t = .box [.ptr r 0, bv nn]) (he : H.n ≤ e) (hn : H.n ≤ Hc.n) (hH : ∀ i, i < H.n → Hc.at_ i = H.at_ i) : Bey H r h := ⟨Nat.le_trans hn c.y.n, fun i hi hne => by
  by_cases hit : i = t
  · rw [hit, c.tk.T, hT]
  · rw [c.y.at_ i (by omega) (by omega), hH i hi]⟩
theorem tvec_IC (T : TT P) {H : Heap} {t r : Nat} {v : PV} {B : Bytes} {q : Src} {K : PV → Heap → List Nat → Prop} (b : TkS H t r v B q false) (hK : ∀ H' wl, RdS H' r v B (rVec q).2 → Oth H r H' → (∀ i ∈ wl, i = r) → K (lv (rVec q).1) H' wl) : IC (env P) 45 [.ptr t 0] H K := by
  have hr := b.S.hr
  have ht := b.tn
  obtain ⟨a0, x1, x2, x3⟩ := b.S.at_
  refine IC_rdx (cf := c45) rfl rfl b.S ?_
  simp [c45]
  obtain ⟨Hc, hHc⟩ : ∃ Hc, Hc = ((((H.grow 1).put H.n (.box [.ptr t 0])).grow 1).put (H.n + 1) (.box [.im [] true])).grow 0 := ⟨_, rfl⟩
  rw [← hHc]
  have hcn : Hc.n = H.n + 2 := by rw [hHc]; simp
  have hlo : ∀ i, i < H.n → Hc.at_ i = H.at_ i := fun i hi => by
    rw [hHc]
    have e1 : i ≠ H.n := by omega
    have e2 : i ≠ H.n + 1 := by omega
    have e3 : i < H.n + 1 := by omega
    have e4 : i < H.n + 1 + 1 := by omega
    simp [e1, e2, e3, e4, hi]
  have hg : Gr H Hc := ⟨by omega, hlo⟩
  have hA : Hc.at_ H.n = .box [.ptr t 0] := by rw [hHc]; simp
  have hE : Hc.at_ (H.n + 1) = .box [.im [] true] := by rw [hHc]; simp
  have hvc : Bf Hc v B := ⟨b.S.b.l.ext hg, b.S.b.m⟩
  have c0 : AI Hc t r v B H.n [.ptr t 0] (H.n + 1) 2 (fun x => [x]) 0 (En ([] : List At)) q false Hc := by
    refine ⟨⟨⟨by omega, hvc, a0, x1, x2, by rw [hlo r hr, x3]⟩, by rw [hlo t ht, b.T], by omega, b.ne⟩, ⟨Nat.le_refl _, fun _ _ _ => rfl⟩, hA, by omega, ⟨_, hE, LN.nil⟩, by omega, by omega, by simp, by omega, by omega, by omega, by omega, by omega, by omega, by omega, hvc, ?_⟩
    rintro i (rfl | rfl | rfl)
    · exact ⟨_, by rw [hlo _ hr, x3]⟩
    · exact ⟨_, hE⟩
    · exact ⟨_, by rw [hlo _ ht, b.T]⟩
  have hl : H.n < Hc.n := by omega
  try simp [hA, hl]
  refine VA_keep (g := 100) (caps := []) rfl rfl ?_
  try simp
  refine count_KC T (B := B) (v := v) (r := r) (mo := 64) (fun (L : List At) q => (L ++ [(rAt q).1], (rAt q).2, false)) (fun i L q nn h => nn = false ∧ AI Hc t r v B H.n [.ptr t 0] (H.n + 1) 2 (fun x => [x]) i (En L) q nn h) (WI Hc r (H.n + 1))
    (fun i a q nn h c => c.2.tk) (fun i a q nn h m c => ⟨c.1, c.2.grow⟩) (fun i a q nn h h' q' c o s => ⟨c.1, c.2.oth o s⟩) (fun i a q nn h h' c e => ⟨c.1, c.2.eqh e⟩) rfl (.inl (.inl rfl))
    (fun i L q h K' c hi hb hK' => vec1_KC T c.2 hi fun w h' wl c' w' => hK' w h' wl ⟨rfl, c'⟩ w') (by omega) ⟨rfl, c0⟩ fun w h' wl i hI hw => ?_
  rw [cLoop_r] at hI
  obtain ⟨_, c1⟩ := hI
  simp only [List.nil_append] at c1
  obtain ⟨x, E1, E2⟩ := c1.E
  have n1 := c1.en
  simp [E1, n1]
  obtain ⟨is, y1, y2⟩ := (E2.grow (m := 0)).exp (plainss_En _)
  obtain ⟨a2, z1, z2, z3⟩ := c1.tk.S.at_
  have hr1 := c1.tk.S.hr
  refine Fin'.mk (lv (rVec q).1) (rVec q).2 a2 ⟨is, ?_, fun i hi => Nat.le_trans hg.n (y2 i hi)⟩ ?_ ?_ z1 z2 ?_ hK
  · simp [resV, resP]
    exact y1
  · intro i hi
    simp at hi
    rcases hi with hi | hi | hi
    · rcases hw i hi with (h | h) | h
      · exact .inl h
      · exact .inr (by omega)
      · exact .inr (by omega)
    · exact .inr (by omega)
    · exact .inr (by omega)
  · exact (c1.bey b.T (by omega) hg.n hlo).grow
  · simp [hr1, z3]
    rfl
end Go.Evl.Zone

namespace Go.Evl.Zone
open Go Go.Evl
variable {P : Program}
theorem zone_sm {z : List RS} (h : zoneRight (toSI z) = true) : z.length ≤ 32 ∧ ∀ q ∈ z, q.sm := by
  obtain ⟨h1, h2, h3⟩ := zoneRight_all h
  refine ⟨by simpa [toSI] using h1, fun q hq => ?_⟩
  have h4 := h3 q.si (by simp [toSI]; exact ⟨q, hq, rfl⟩)
  have h5 := right_okB (q := q.si) h4
  unfold RS.okB at h5
  have e1 : q.si.rs.x = q.x := rfl
  have e2 : q.si.rs.y = q.y := rfl
  have e3 : q.si.rs.s = q.s := rfl
  unfold RS.sm smI
  simp only [e1, e2, e3] at h5
  omega
theorem item_sm {q : Item} (h : itemR q = true) : q.sm := by
  unfold itemR near at h
  simp only [Bool.and_eq_true, decide_eq_true_eq] at h
  obtain ⟨⟨⟨⟨⟨⟨⟨_, _⟩, _⟩, h4⟩, h5⟩, _⟩, _⟩, _⟩ := h
  unfold Item.sm smI
  omega
theorem LN.fl {N k : Nat} {H : Heap} {v : PV} {ys : List (List PV)} (h : LN N H k v ys) : Evl.cellP v = true := by
  rcases h.l with ⟨h, _⟩ | ⟨_, _, h, _⟩ <;> rw [h] <;> rfl
theorem putz {H : Heap} {cs c : List PV} (h : H.at_ 0 = .box cs) {i : Nat} (hi : i < H.n) (hx : ∃ k xs w, H.at_ i = .row k xs w) : ((H.grow 0).put 0 (.box c)).at_ i = H.at_ i := by
  have : i ≠ 0 := by
    rintro rfl
    obtain ⟨_, _, _, hx⟩ := hx
    rw [h] at hx; cases hx
  simp [this, hi]
theorem LN.expH {N k : Nat} {H : Heap} {v : PV} {ys : List (List PV)} (h : LN N H k v ys) (hp : plainss ys = some ys) : ∃ is, ∀ H', (∀ i, i < H.n → (∃ k xs w, H.at_ i = .row k xs w) → H'.at_ i = H.at_ i) → Evl.expC H' v = some (.im ys false, is) := by
  obtain ⟨is, e⟩ := h.l.exp hp
  rcases h.l with ⟨rfl, hl⟩ | ⟨r, xs, rfl, hb, hle, he, hr, hl⟩
  · exact ⟨[], fun _ _ => rfl⟩
  · refine ⟨is, fun H' hh => ?_⟩
    rw [← e]
    simp only [Evl.expC, hh r hr ⟨_, _, _, hb⟩]
theorem floor_FOK {k : Int} {a c : Bytes} {q : Src} (h : (rVec q).2.bad = 0) : FOK ⟨k, a, c, [], 0, [], [], [], [], [], false, (rVec q).1⟩ := by
  obtain ⟨_, ⟨h1, h2⟩, _⟩ := codVec.inv q (rVec q).1 (rVec q).2.s (by rw [← h])
  refine ⟨by simp, by simp, by simp, by simp, by simp, by simp, by simp, by simp, by simp, by simp, by simp, by simp, by simp, by simp, by simp, by show (rVec q).1.length ≤ most; unfold most; omega, ?_⟩
  exact fun a ha => Nat.le_trans (h2 a ha).1 (by decide)
theorem lists_FOK {kind k : Int} {a c : Bytes} {q r : Src} {hd : Hd} {z : List RS} {l : List Item} {w : Bool} (h : rLists kind q = (some (hd, z, l, w), r)) (hb : r.bad = 0) : FOK ⟨k, a, c, hd.1, hd.2.1, hd.2.2.1, hd.2.2.2.1, hd.2.2.2.2, z, l, w, []⟩ := by
  unfold rLists at h
  split at h
  · simp at h
  · rename_i z' r1 hz
    split at h
    · simp at h
    · rename_i l' r2 hi
      simp only [Prod.mk.injEq, Option.some.injEq] at h
      obtain ⟨⟨rfl, rfl, rfl, _⟩, hq⟩ := h
      have b2 : r2.bad = 0 := by
        by_cases h2 : kind = 2
        · simp only [h2, if_true] at hq
          have := (codNum (m := 1) (by omega)).stuck r2
          by_cases hz : r2.bad = 0
          · exact hz
          · exact (this hz (by rw [hq]; exact hb)).elim
        · simp only [h2, if_false] at hq
          rw [hq]; exact hb
      obtain ⟨r2s, r2b⟩ := r2
      simp only at b2
      subst b2
      obtain ⟨i1, ⟨i2, i3⟩, _⟩ := codItems.inv r1 l' r2s hi
      have k2 : (rHead q).2.bad = 0 ∧ z'.length ≤ 32 ∧ ∀ x ∈ z', x.sm := by
        by_cases h1 : kind = 1
        · simp only [h1, if_true] at hz
          obtain ⟨r1s, r1b⟩ := r1
          simp only at i1
          subst i1
          obtain ⟨z1, z2, _⟩ := codZone.inv _ z' r1s hz
          exact ⟨z1, zone_sm z2⟩
        · simp only [h1, if_false, Prod.mk.injEq, Option.some.injEq] at hz
          obtain ⟨rfl, hz⟩ := hz
          rw [hz]
          exact ⟨i1, by simp, by simp⟩
      obtain ⟨_, ⟨⟨d1, d2⟩, _, ⟨d3, d4⟩, ⟨d5, d6⟩, d7, d8⟩, _⟩ := codHead.inv q (rHead q).1 (rHead q).2.s (by rw [← k2.1])
      have hm : most = 68719476736 := rfl
      have hg : big = 9223372036854775807 := rfl
      refine ⟨by simp only []; omega, fun a ha => by have := (d2 a ha).1; omega, fun a ha => by have := (d2 a ha).2.2.1; omega, by simp only []; omega, fun a ha => by have := d4 a ha; omega, by simp only []; omega, fun a ha => by have := (d6 a ha).1; omega, by simp only []; omega, fun a ha => by have := (d8 a ha).1; omega, fun a ha => by have := (d8 a ha).2.1; omega, fun a ha x hx => by have := ((d8 a ha).2.2 x hx).1; omega, by simp only []; omega, k2.2.2, by simp only []; omega, fun a ha => item_sm (i3 a ha), by simp, by simp⟩
theorem app_new {H : Heap} {slot : Nat} {b : Bytes} (hd : H.at_ slot = .dead) (hs : slot < H.n) (hb : b.length ≤ most) : ∃ x H' wr, appendP H slot 1 (.im [] true) (En b) = some (x, H', wr, []) ∧ ((∃ ys, x = .im ys true) ∨ ∃ r k g o n, x = .sl r k g o n) ∧ Bf H' x b ∧ H'.n = H.n ∧ (∀ i, i ≠ slot → H'.at_ i = H.at_ i) ∧ (∀ i ∈ wr, i = slot) := by
  by_cases h : b = []
  · subst h
    exact ⟨.im [] true, H, [], rfl, .inl ⟨_, rfl⟩, ⟨Lst.nil, by simp⟩, rfl, fun _ _ => rfl, by simp⟩
  · have hl : ¬ (En b).length = 0 := by simpa using h
    refine ⟨.sl slot 1 (En b).length 0 (En b).length, H.put slot (.row 1 (En b) true), [slot], ?_, .inr ⟨_, _, _, _, _, rfl⟩, ⟨?_, hb⟩, by simp, fun i hi => by simp [hi], by simp⟩
    · unfold appendP
      rw [if_neg hl]
      simp only [List.length_nil, Nat.zero_add, List.nil_append]
      rw [if_pos ⟨rfl, by simpa using hb⟩]
    · exact .row slot (En b) rfl (by simp) (Nat.le_refl _) (List.take_length) (by simpa using hs) (allLen_En rfl b)
abbrev z12 : List PV := [iv 0, sv [], sv [], .im [] true, iv 0, .im [] true, .im [] true, .im [] true, .im [] true, .im [] true, bv false, .im [] true]
theorem F2.first {H2 : Heap} {v : PV} {B : Bytes} {q : Src} (s2 : RdS H2 2 v B q) (n2 : H2.n = 4) (d3 : H2.at_ 3 = .dead) (x' : List PV) : F2 ((H2.put 3 (.box z12)).put 3 (.box x')) 2 3 v B q x' ((H2.put 3 (.box z12)).put 3 (.box x')) := by
  obtain ⟨a2, y1, y2, y3⟩ := s2.at_
  have l2 : ∀ h, Bf h v B → ∀ x', (h.at_ 3 = .dead ∨ ∃ cs, h.at_ 3 = .box cs) → Bf (h.put 3 (.box x')) v B := fun h hf x' hd => ⟨hf.l.putN hd, hf.m⟩
  refine ⟨⟨⟨[v, iv a2, iv q.bad], by simp [y3]⟩, ⟨x', by simp⟩, by simp [n2], by simp [n2], by omega⟩, ⟨by simp [n2], l2 _ (l2 _ s2.b _ (.inl d3)) _ (.inr (by simp)), a2, y1, y2, by simp [y3]⟩, Bey2.refl, by simp⟩
set_option maxHeartbeats 3200000 in
theorem rtake_ans (T : TI P) {b : Bytes} (hb : b.length ≤ most) : ans (env P) 18 [lv b] = some (.tup [.agg (fR (rFrame b).1), iv (rFrame b).2]) := by
  have T0 : Typed P := T.toTyped3.toTyped2.toTyped
  refine ans_V rfl rfl ?_
  simp [c18, elems, chunks, allLen_En]
  obtain ⟨x, H1, wr, e1, hx, hv, n1, k1, w1⟩ := app_new (H := (((Heap.empty.grow 1).put 0 (.box z12)).grow 2)) (slot := 1) (by simp) (by simp [Heap.empty]) hb
  have e1' := e1
  simp only [z12] at e1'
  rw [e1']
  have n1 : H1.n = 3 := by rw [n1]; simp [Heap.empty]
  have g0 : H1.at_ 0 = .box z12 := by rw [k1 0 (by omega)]; simp [Heap.empty]
  have d2 : H1.at_ 2 = .dead := by rw [k1 2 (by omega)]; simp [Heap.empty]
  have hv2 : ∀ c, Bf (H1.put 2 (.box c)) x b := fun c => ⟨hv.l.putN (.inl d2), hb⟩
  have s1 : RdS ((H1.put 2 (.box [x, iv 0, iv 0])).grow 1) 2 x b ⟨b, 0⟩ := RdS.grow ⟨by simp [n1], hv2 _, 0, by omega, rfl, by simp⟩
  rcases hx with ⟨ys, rfl⟩ | ⟨r', k', g', o', n', rfl⟩
  all_goals
    simp [n1]
    refine VA_inl (g := 77) (caps := []) rfl rfl ?_
    try simp
    refine rnum_IC (m := 3) T0 s1 (by omega) fun H2 wl2 s2 o2 w2 => ?_
    have n2 : H2.n = 4 := by rw [o2.n]; simp [n1]
    have g2 : H2.at_ 0 = .box z12 := by rw [o2.at_ 0 (by simp [n1]) (by omega)]; simp [n1, g0]
    have d3 : H2.at_ 3 = .dead := by rw [o2.at_ 3 (by simp [n1]) (by omega)]; simp [n1]
    simp [n2, d3]
    obtain ⟨n, hn⟩ : ∃ n, n = (rNum 3 ⟨b, 0⟩).1 := ⟨_, rfl⟩
    obtain ⟨q1, hq1⟩ : ∃ q1, q1 = (rNum 3 ⟨b, 0⟩).2 := ⟨_, rfl⟩
    have hn3 : n ≤ 3 := by rw [hn]; exact rNum_le
    rw [← hq1] at s2
    simp only [← hn]
    obtain ⟨a2, y1, y2, y3⟩ := s2.at_
    have hr2 := s2.hr
    have c0 := F2.first s2 n2 d3
    have hkI : rI 3 ⟨b, 0⟩ = ((n : Int), q1) := by rw [hn, hq1]; rfl
    by_cases hb1 : q1.bad = 0
    · by_cases hn0 : n = 0
      · have hF : rFrame b = (frame0, 3) := by
          unfold rFrame
          rw [hkI]
          rw [if_pos ⟨hb1, by simp [hn0]⟩]
        rw [hF]
        simp [y3, n2, hb1, hn0, g2, frame0, resV, resP, rsV]
      · have hN0 : ¬ ((((n : Int), q1) : Int × Src).2.bad = 0 ∧ (((n : Int), q1) : Int × Src).1 = 0) := by rintro ⟨_, h2⟩; simp at h2; omega
        simp [y3, n2, hb1, hn0]
        have ezs : ∀ (h : Heap) (s : ByteArray), Evl.expC h (.val (.string s)) = some (.val (.string s), []) := fun _ _ => rfl
        have ezi : ∀ (h : Heap) (k : IntKind) (n : Int), Evl.expC h (.val (.int k n)) = some (.val (.int k n), []) := fun _ _ _ => rfl
        have ezb : ∀ (h : Heap) (t : Bool), Evl.expC h (.val (.bool t)) = some (.val (.bool t), []) := fun _ _ => rfl
        have ezm : ∀ (h : Heap) (xs : List (List PV)) (t : Bool), Evl.expC h (.im xs t) = some (.im xs false, []) := fun _ _ _ => rfl
        have fls : ∀ (s : ByteArray), Evl.cellP (.val (.string s)) = true := fun _ => rfl
        have fli : ∀ (k : IntKind) (n : Int), Evl.cellP (.val (.int k n)) = true := fun _ _ => rfl
        have flb : ∀ (t : Bool), Evl.cellP (.val (.bool t)) = true := fun _ => rfl
        have flm : ∀ (xs : List (List PV)) (t : Bool), Evl.cellP (.im xs t) = true := fun _ _ => rfl
        have C0 := c0 [iv n, sv [], sv [], PV.im [] true, iv 0, PV.im [] true, PV.im [] true, PV.im [] true, PV.im [] true, PV.im [] true, bv false, PV.im [] true]
        have hv0 := C0.S.b
        have kz : ∀ {h}, Bey2 ((H2.put 3 (.box z12)).put 3 (.box [iv n, sv [], sv [], PV.im [] true, iv 0, PV.im [] true, PV.im [] true, PV.im [] true, PV.im [] true, PV.im [] true, bv false, PV.im [] true])) 2 3 h → h.at_ 0 = .box z12 := fun c => by
          rw [c.at_ 0 (by simp [n2]) (by omega) (by omega)]
          simp [g2]
        refine VA_inl (g := 78) (caps := []) rfl rfl ?_
        try simp
        refine rtext_F2 (m := 6) T0 (F2.grow (m := 0) C0) (by omega) fun H4 wl4 c4 w4 => ?_
        have F4 := c4.F
        have n4 := c4.fn
        simp [F4, n4]
        refine VA_inl (g := 78) (caps := []) rfl rfl ?_
        try simp
        refine rtext_F2 (m := 6) T0 (F2.grow (m := 0) (F2.putf hv0 c4)) (by omega) fun H5 wl5 c5 w5 => ?_
        have F5 := c5.F
        have n5 := c5.fn
        simp [F5, n5]
        obtain ⟨q5, hq5⟩ : ∃ q5, q5 = (rText 6 (rText 6 q1).2).2 := ⟨_, rfl⟩
        rw [← hq5] at c5
        by_cases hk : n = 3
        · subst hk
          have hFr : rFrame b = rFin ⟨3, (rText 6 q1).1, (rText 6 (rText 6 q1).2).1, [], 0, [], [], [], [], [], false, (rVec q5).1⟩ (rVec q5).2 := by
            unfold rFrame
            rw [hkI, if_neg hN0, if_pos (by simp), hq5]
            rfl
          simp
          refine VA_inl (g := 79) (caps := []) rfl rfl ?_
          try simp
          refine rvec_F2 T0 (F2.grow (m := 0) (F2.putf hv0 c5)) fun H6 wl6 c6 w6 => ?_
          have F6 := c6.F
          have n6 := c6.fn
          simp [F6, n6]
          have k00 := fun h y => @kz h y
          have kn0 : 0 < H6.n := by omega
          refine VA_inl (g := 81) (caps := []) rfl rfl ?_
          try simp
          refine rend_F2 T0 (F2.grow (m := 0) (F2.putf hv0 c6)) fun Hz wlz cz wz => ?_
          have Fz := cz.F
          have nz := cz.fn
          have hF0 : rFrame b = rFin ⟨3, (rText 6 q1).1, (rText 6 (rText 6 q1).2).1, [], 0, [], [], [], [], [], false, (rVec q5).1⟩ (rVec q5).2 := by rw [hFr]
          have z0 : Hz.at_ 0 = .box z12 := k00 _ cz.y
          have zn0 : 0 < Hz.n := by omega
          by_cases he : rEnd (rVec q5).2 = 0
          · have hb9 : (rVec q5).2.bad = 0 ∧ (rVec q5).2.s = [] := by
              unfold rEnd at he
              split at he
              · cases he
              · rename_i h
                exact ⟨he, Classical.byContradiction fun hs => h ⟨he, hs⟩⟩
            have hFO : FOK ⟨3, (rText 6 q1).1, (rText 6 (rText 6 q1).2).1, [], 0, [], [], [], [], [], false, (rVec q5).1⟩ := floor_FOK hb9.1
            have hR := rframeRight_ans T hFO
            simp only [he]
            by_cases hRR : frameR ⟨3, (rText 6 q1).1, (rText 6 (rText 6 q1).2).1, [], 0, [], [], [], [], [], false, (rVec q5).1⟩ = true
            · have hF1 : rFrame b = (⟨3, (rText 6 q1).1, (rText 6 (rText 6 q1).2).1, [], 0, [], [], [], [], [], false, (rVec q5).1⟩, 0) := by
                rw [hF0]
                unfold rFin
                rw [if_neg (by simp [hb9.1]), if_neg (by simp [hb9.2]), if_pos hRR]
              rw [hF1]
              rw [hRR] at hR
              try simp [fR, rsV, lv, lvR] at hR
              simp [-Evl.expC, -Evl.cellP, fls, fli, flb, flm, ezs, ezi, ezb, ezm, Fz, nz, hR, z0, zn0, resV, resP, rsV]
            · have hF1 : rFrame b = (frame0, 3) := by
                rw [hF0]
                unfold rFin
                rw [if_neg (by simp [hb9.1]), if_neg (by simp [hb9.2]), if_neg hRR]
              rw [hF1]
              simp only [hRR] at hR
              try simp [fR, rsV, lv, lvR] at hR
              simp [-Evl.expC, ezs, ezi, ezb, ezm, Fz, nz, hR, z0, zn0, frame0, resV, resP, rsV]
          · have hF1 : rFrame b = (frame0, rEnd (rVec q5).2) := by
              rw [hF0]
              unfold rFin
              by_cases hb9 : (rVec q5).2.bad = 0
              · rw [if_neg (by simp [hb9])]
                by_cases hs9 : (rVec q5).2.s = []
                · exfalso
                  apply he
                  simp [rEnd, hb9, hs9]
                · rw [if_pos (by simpa using hs9)]
                  simp [rEnd, hb9, hs9]
              · rw [if_pos (by simpa using hb9)]
                simp [rEnd, hb9]
            rw [hF1]
            simp [he, z0, zn0, frame0, resV, resP, rsV]
        · have e5 := (F2.grow (m := 0) (F2.putf (cs' := [iv n, sv (rText 6 q1).1, sv (rText 6 (rText 6 q1).2).1, PV.im [] true, iv 0, PV.im [] true, PV.im [] true, PV.im [] true, PV.im [] true, PV.im [] true, bv false, PV.im [] true]) hv0 c5))
          have hk' : ¬ (((n : Int), q1) : Int × Src).1 = 3 := by simp; omega
          have hki : ¬ (n : Int) = 3 := by omega
          simp [hk, hki]
          refine VA_keep (g := 80) (caps := []) rfl rfl ?_
          try simp
          refine rlists_KC T e5.base (fun Hl wll hnone yl wl' => ?_) (fun Hl wll hd z l w x5 x7 x8 x9 hsome hval dF l5 l7 hz9 l9 wl' => ?_)
          · have hF : rFrame b = (frame0, 3) := by
              unfold rFrame
              rw [hkI, if_neg hN0, if_neg hk', ← hq5]
              cases hx : rLists (((n : Int), q1) : Int × Src).1 q5 with
              | mk o r2 =>
                simp only at hx
                rw [hx] at hnone
                simp only at hnone
                subst hnone
                rfl
            have z0 := kz (e5.y.trans yl)
            have zn0 : 0 < Hl.n := Nat.lt_of_lt_of_le (by have := e5.fn; omega) yl.n
            rw [hF]
            simp [z0, zn0, frame0, resV, resP, rsV]
          · have hFr : rFrame b = rFin ⟨n, (rText 6 q1).1, (rText 6 (rText 6 q1).2).1, hd.1, hd.2.1, hd.2.2.1, hd.2.2.2.1, hd.2.2.2.2, z, l, w, []⟩ (rLists n q5).2 := by
              unfold rFrame
              rw [hkI, if_neg hN0, if_neg hk', ← hq5]
              cases hx : rLists (((n : Int), q1) : Int × Src).1 q5 with
              | mk o r2 =>
                simp only at hx
                rw [hx] at hsome hval
                cases o with
                | none => cases hsome
                | some y =>
                  obtain ⟨hd', z', l', w'⟩ := y
                  by_cases hb : r2.bad = 0
                  · have := hval hb
                    simp only [Option.some.injEq, Prod.mk.injEq] at this
                    obtain ⟨rfl, rfl, rfl, rfl⟩ := this
                    simp only [hx]
                  · simp only [hx, rFin]
                    rw [if_pos (by simpa using hb), if_pos (by simpa using hb)]
            have k00 := fun h y => @kz h (e5.y.trans (dF.y.trans y))
            have kn0 : 0 < Hl.n := by have := dF.fn; omega
            obtain ⟨q9, hq9⟩ : ∃ q9, q9 = (rLists n q5).2 := ⟨_, rfl⟩
            rw [← hq9] at dF hFr hval
            obtain ⟨b8, rfl⟩ := hz9
            simp
            refine VA_inl (g := 81) (caps := []) rfl rfl ?_
            try simp
            refine rend_F2 T0 (F2.grow (m := 0) dF.base) fun Hz wlz cz wz => ?_
            have Fz := cz.F
            have nz := cz.fn
            have hF0 : rFrame b = rFin ⟨n, (rText 6 q1).1, (rText 6 (rText 6 q1).2).1, hd.1, hd.2.1, hd.2.2.1, hd.2.2.2.1, hd.2.2.2.2, z, l, w, []⟩ q9 := by rw [hFr]
            have z0 : Hz.at_ 0 = .box z12 := k00 _ cz.y
            have zn0 : 0 < Hz.n := by omega
            by_cases he : rEnd q9 = 0
            · have hb9 : q9.bad = 0 ∧ q9.s = [] := by
                unfold rEnd at he
                split at he
                · cases he
                · rename_i h
                  exact ⟨he, Classical.byContradiction fun hs => h ⟨he, hs⟩⟩
              have hFO : FOK ⟨n, (rText 6 q1).1, (rText 6 (rText 6 q1).2).1, hd.1, hd.2.1, hd.2.2.1, hd.2.2.2.1, hd.2.2.2.2, z, l, w, []⟩ := lists_FOK (kind := n) (q := q5) (r := q9) (by rw [← hval hb9.1, hq9]) hb9.1
              have hR := rframeRight_ans T hFO
              obtain ⟨i5, X5⟩ := (l5.two dF.two cz.y).expH (plainss_En _)
              obtain ⟨i7, X7⟩ := (l7.two dF.two cz.y).expH (plainss_En _)
              obtain ⟨i9, X9⟩ := (l9.two dF.two cz.y).expH (plainss_EnR _)
              have X5' := X5 (Hz.grow 0) (fun i hi _ => by simp [hi])
              have X7' := X7 (Hz.grow 0) (fun i hi _ => by simp [hi])
              have X9' := X9 (Hz.grow 0) (fun i hi _ => by simp [hi])
              have y5 := LN.fl l5
              have y7 := LN.fl l7
              have y9 := LN.fl l9
              have Z5 := fun c => X5 ((Hz.grow 0).put 0 (.box c)) (fun i hi hx => putz z0 hi hx)
              have Z7 := fun c => X7 ((Hz.grow 0).put 0 (.box c)) (fun i hi hx => putz z0 hi hx)
              have Z9 := fun c => X9 ((Hz.grow 0).put 0 (.box c)) (fun i hi hx => putz z0 hi hx)
              simp only [he]
              by_cases hRR : frameR ⟨n, (rText 6 q1).1, (rText 6 (rText 6 q1).2).1, hd.1, hd.2.1, hd.2.2.1, hd.2.2.2.1, hd.2.2.2.2, z, l, w, []⟩ = true
              · have hF1 : rFrame b = (⟨n, (rText 6 q1).1, (rText 6 (rText 6 q1).2).1, hd.1, hd.2.1, hd.2.2.1, hd.2.2.2.1, hd.2.2.2.2, z, l, w, []⟩, 0) := by
                  rw [hF0]
                  unfold rFin
                  rw [if_neg (by simp [hb9.1]), if_neg (by simp [hb9.2]), if_pos hRR]
                rw [hF1]
                rw [hRR] at hR
                try simp [fR, rsV, lv, lvR] at hR
                simp [-Evl.expC, -Evl.cellP, fls, fli, flb, flm, ezs, ezi, ezb, ezm, X5', X7', X9', y5, y7, y9, Z5, Z7, Z9, Fz, nz, hR, z0, zn0, resV, resP, rsV]
              · have hF1 : rFrame b = (frame0, 3) := by
                  rw [hF0]
                  unfold rFin
                  rw [if_neg (by simp [hb9.1]), if_neg (by simp [hb9.2]), if_neg hRR]
                rw [hF1]
                simp only [hRR] at hR
                try simp [fR, rsV, lv, lvR] at hR
                simp [-Evl.expC, ezs, ezi, ezb, ezm, X5', X7', X9', y5, y7, y9, Z5, Z7, Z9, Fz, nz, hR, z0, zn0, frame0, resV, resP, rsV]
            · have hF1 : rFrame b = (frame0, rEnd q9) := by
                rw [hF0]
                unfold rFin
                by_cases hb9 : q9.bad = 0
                · rw [if_neg (by simp [hb9])]
                  by_cases hs9 : q9.s = []
                  · exfalso
                    apply he
                    simp [rEnd, hb9, hs9]
                  · rw [if_pos (by simpa using hs9)]
                    simp [rEnd, hb9, hs9]
                · rw [if_pos (by simpa using hb9)]
                  simp [rEnd, hb9]
              rw [hF1]
              simp [he, z0, zn0, frame0, resV, resP, rsV]
    · have hN0 : ¬ ((((n : Int), q1) : Int × Src).2.bad = 0 ∧ (((n : Int), q1) : Int × Src).1 = 0) := fun h => hb1 h.1
      simp [y3, n2, hb1]
      have ezs : ∀ (h : Heap) (s : ByteArray), Evl.expC h (.val (.string s)) = some (.val (.string s), []) := fun _ _ => rfl
      have ezi : ∀ (h : Heap) (k : IntKind) (n : Int), Evl.expC h (.val (.int k n)) = some (.val (.int k n), []) := fun _ _ _ => rfl
      have ezb : ∀ (h : Heap) (t : Bool), Evl.expC h (.val (.bool t)) = some (.val (.bool t), []) := fun _ _ => rfl
      have ezm : ∀ (h : Heap) (xs : List (List PV)) (t : Bool), Evl.expC h (.im xs t) = some (.im xs false, []) := fun _ _ _ => rfl
      have fls : ∀ (s : ByteArray), Evl.cellP (.val (.string s)) = true := fun _ => rfl
      have fli : ∀ (k : IntKind) (n : Int), Evl.cellP (.val (.int k n)) = true := fun _ _ => rfl
      have flb : ∀ (t : Bool), Evl.cellP (.val (.bool t)) = true := fun _ => rfl
      have flm : ∀ (xs : List (List PV)) (t : Bool), Evl.cellP (.im xs t) = true := fun _ _ => rfl
      have C0 := c0 [iv n, sv [], sv [], PV.im [] true, iv 0, PV.im [] true, PV.im [] true, PV.im [] true, PV.im [] true, PV.im [] true, bv false, PV.im [] true]
      have hv0 := C0.S.b
      have kz : ∀ {h}, Bey2 ((H2.put 3 (.box z12)).put 3 (.box [iv n, sv [], sv [], PV.im [] true, iv 0, PV.im [] true, PV.im [] true, PV.im [] true, PV.im [] true, PV.im [] true, bv false, PV.im [] true])) 2 3 h → h.at_ 0 = .box z12 := fun c => by
        rw [c.at_ 0 (by simp [n2]) (by omega) (by omega)]
        simp [g2]
      refine VA_inl (g := 78) (caps := []) rfl rfl ?_
      try simp
      refine rtext_F2 (m := 6) T0 (F2.grow (m := 0) C0) (by omega) fun H4 wl4 c4 w4 => ?_
      have F4 := c4.F
      have n4 := c4.fn
      simp [F4, n4]
      refine VA_inl (g := 78) (caps := []) rfl rfl ?_
      try simp
      refine rtext_F2 (m := 6) T0 (F2.grow (m := 0) (F2.putf hv0 c4)) (by omega) fun H5 wl5 c5 w5 => ?_
      have F5 := c5.F
      have n5 := c5.fn
      simp [F5, n5]
      obtain ⟨q5, hq5⟩ : ∃ q5, q5 = (rText 6 (rText 6 q1).2).2 := ⟨_, rfl⟩
      rw [← hq5] at c5
      by_cases hk : n = 3
      · subst hk
        have hFr : rFrame b = rFin ⟨3, (rText 6 q1).1, (rText 6 (rText 6 q1).2).1, [], 0, [], [], [], [], [], false, (rVec q5).1⟩ (rVec q5).2 := by
          unfold rFrame
          rw [hkI, if_neg hN0, if_pos (by simp), hq5]
          rfl
        simp
        refine VA_inl (g := 79) (caps := []) rfl rfl ?_
        try simp
        refine rvec_F2 T0 (F2.grow (m := 0) (F2.putf hv0 c5)) fun H6 wl6 c6 w6 => ?_
        have F6 := c6.F
        have n6 := c6.fn
        simp [F6, n6]
        have k00 := fun h y => @kz h y
        have kn0 : 0 < H6.n := by omega
        refine VA_inl (g := 81) (caps := []) rfl rfl ?_
        try simp
        refine rend_F2 T0 (F2.grow (m := 0) (F2.putf hv0 c6)) fun Hz wlz cz wz => ?_
        have Fz := cz.F
        have nz := cz.fn
        have hF0 : rFrame b = rFin ⟨3, (rText 6 q1).1, (rText 6 (rText 6 q1).2).1, [], 0, [], [], [], [], [], false, (rVec q5).1⟩ (rVec q5).2 := by rw [hFr]
        have z0 : Hz.at_ 0 = .box z12 := k00 _ cz.y
        have zn0 : 0 < Hz.n := by omega
        by_cases he : rEnd (rVec q5).2 = 0
        · have hb9 : (rVec q5).2.bad = 0 ∧ (rVec q5).2.s = [] := by
            unfold rEnd at he
            split at he
            · cases he
            · rename_i h
              exact ⟨he, Classical.byContradiction fun hs => h ⟨he, hs⟩⟩
          have hFO : FOK ⟨3, (rText 6 q1).1, (rText 6 (rText 6 q1).2).1, [], 0, [], [], [], [], [], false, (rVec q5).1⟩ := floor_FOK hb9.1
          have hR := rframeRight_ans T hFO
          simp only [he]
          by_cases hRR : frameR ⟨3, (rText 6 q1).1, (rText 6 (rText 6 q1).2).1, [], 0, [], [], [], [], [], false, (rVec q5).1⟩ = true
          · have hF1 : rFrame b = (⟨3, (rText 6 q1).1, (rText 6 (rText 6 q1).2).1, [], 0, [], [], [], [], [], false, (rVec q5).1⟩, 0) := by
              rw [hF0]
              unfold rFin
              rw [if_neg (by simp [hb9.1]), if_neg (by simp [hb9.2]), if_pos hRR]
            rw [hF1]
            rw [hRR] at hR
            try simp [fR, rsV, lv, lvR] at hR
            simp [-Evl.expC, -Evl.cellP, fls, fli, flb, flm, ezs, ezi, ezb, ezm, Fz, nz, hR, z0, zn0, resV, resP, rsV]
          · have hF1 : rFrame b = (frame0, 3) := by
              rw [hF0]
              unfold rFin
              rw [if_neg (by simp [hb9.1]), if_neg (by simp [hb9.2]), if_neg hRR]
            rw [hF1]
            simp only [hRR] at hR
            try simp [fR, rsV, lv, lvR] at hR
            simp [-Evl.expC, ezs, ezi, ezb, ezm, Fz, nz, hR, z0, zn0, frame0, resV, resP, rsV]
        · have hF1 : rFrame b = (frame0, rEnd (rVec q5).2) := by
            rw [hF0]
            unfold rFin
            by_cases hb9 : (rVec q5).2.bad = 0
            · rw [if_neg (by simp [hb9])]
              by_cases hs9 : (rVec q5).2.s = []
              · exfalso
                apply he
                simp [rEnd, hb9, hs9]
              · rw [if_pos (by simpa using hs9)]
                simp [rEnd, hb9, hs9]
            · rw [if_pos (by simpa using hb9)]
              simp [rEnd, hb9]
          rw [hF1]
          simp [he, z0, zn0, frame0, resV, resP, rsV]
      · have e5 := (F2.grow (m := 0) (F2.putf (cs' := [iv n, sv (rText 6 q1).1, sv (rText 6 (rText 6 q1).2).1, PV.im [] true, iv 0, PV.im [] true, PV.im [] true, PV.im [] true, PV.im [] true, PV.im [] true, bv false, PV.im [] true]) hv0 c5))
        have hk' : ¬ (((n : Int), q1) : Int × Src).1 = 3 := by simp; omega
        have hki : ¬ (n : Int) = 3 := by omega
        simp [hk, hki]
        refine VA_keep (g := 80) (caps := []) rfl rfl ?_
        try simp
        refine rlists_KC T e5.base (fun Hl wll hnone yl wl' => ?_) (fun Hl wll hd z l w x5 x7 x8 x9 hsome hval dF l5 l7 hz9 l9 wl' => ?_)
        · have hF : rFrame b = (frame0, 3) := by
            unfold rFrame
            rw [hkI, if_neg hN0, if_neg hk', ← hq5]
            cases hx : rLists (((n : Int), q1) : Int × Src).1 q5 with
            | mk o r2 =>
              simp only at hx
              rw [hx] at hnone
              simp only at hnone
              subst hnone
              rfl
          have z0 := kz (e5.y.trans yl)
          have zn0 : 0 < Hl.n := Nat.lt_of_lt_of_le (by have := e5.fn; omega) yl.n
          rw [hF]
          simp [z0, zn0, frame0, resV, resP, rsV]
        · have hFr : rFrame b = rFin ⟨n, (rText 6 q1).1, (rText 6 (rText 6 q1).2).1, hd.1, hd.2.1, hd.2.2.1, hd.2.2.2.1, hd.2.2.2.2, z, l, w, []⟩ (rLists n q5).2 := by
            unfold rFrame
            rw [hkI, if_neg hN0, if_neg hk', ← hq5]
            cases hx : rLists (((n : Int), q1) : Int × Src).1 q5 with
            | mk o r2 =>
              simp only at hx
              rw [hx] at hsome hval
              cases o with
              | none => cases hsome
              | some y =>
                obtain ⟨hd', z', l', w'⟩ := y
                by_cases hb : r2.bad = 0
                · have := hval hb
                  simp only [Option.some.injEq, Prod.mk.injEq] at this
                  obtain ⟨rfl, rfl, rfl, rfl⟩ := this
                  simp only [hx]
                · simp only [hx, rFin]
                  rw [if_pos (by simpa using hb), if_pos (by simpa using hb)]
          have k00 := fun h y => @kz h (e5.y.trans (dF.y.trans y))
          have kn0 : 0 < Hl.n := by have := dF.fn; omega
          obtain ⟨q9, hq9⟩ : ∃ q9, q9 = (rLists n q5).2 := ⟨_, rfl⟩
          rw [← hq9] at dF hFr hval
          obtain ⟨b8, rfl⟩ := hz9
          simp
          refine VA_inl (g := 81) (caps := []) rfl rfl ?_
          try simp
          refine rend_F2 T0 (F2.grow (m := 0) dF.base) fun Hz wlz cz wz => ?_
          have Fz := cz.F
          have nz := cz.fn
          have hF0 : rFrame b = rFin ⟨n, (rText 6 q1).1, (rText 6 (rText 6 q1).2).1, hd.1, hd.2.1, hd.2.2.1, hd.2.2.2.1, hd.2.2.2.2, z, l, w, []⟩ q9 := by rw [hFr]
          have z0 : Hz.at_ 0 = .box z12 := k00 _ cz.y
          have zn0 : 0 < Hz.n := by omega
          by_cases he : rEnd q9 = 0
          · have hb9 : q9.bad = 0 ∧ q9.s = [] := by
              unfold rEnd at he
              split at he
              · cases he
              · rename_i h
                exact ⟨he, Classical.byContradiction fun hs => h ⟨he, hs⟩⟩
            have hFO : FOK ⟨n, (rText 6 q1).1, (rText 6 (rText 6 q1).2).1, hd.1, hd.2.1, hd.2.2.1, hd.2.2.2.1, hd.2.2.2.2, z, l, w, []⟩ := lists_FOK (kind := n) (q := q5) (r := q9) (by rw [← hval hb9.1, hq9]) hb9.1
            have hR := rframeRight_ans T hFO
            obtain ⟨i5, X5⟩ := (l5.two dF.two cz.y).expH (plainss_En _)
            obtain ⟨i7, X7⟩ := (l7.two dF.two cz.y).expH (plainss_En _)
            obtain ⟨i9, X9⟩ := (l9.two dF.two cz.y).expH (plainss_EnR _)
            have X5' := X5 (Hz.grow 0) (fun i hi _ => by simp [hi])
            have X7' := X7 (Hz.grow 0) (fun i hi _ => by simp [hi])
            have X9' := X9 (Hz.grow 0) (fun i hi _ => by simp [hi])
            have y5 := LN.fl l5
            have y7 := LN.fl l7
            have y9 := LN.fl l9
            have Z5 := fun c => X5 ((Hz.grow 0).put 0 (.box c)) (fun i hi hx => putz z0 hi hx)
            have Z7 := fun c => X7 ((Hz.grow 0).put 0 (.box c)) (fun i hi hx => putz z0 hi hx)
            have Z9 := fun c => X9 ((Hz.grow 0).put 0 (.box c)) (fun i hi hx => putz z0 hi hx)
            simp only [he]
            by_cases hRR : frameR ⟨n, (rText 6 q1).1, (rText 6 (rText 6 q1).2).1, hd.1, hd.2.1, hd.2.2.1, hd.2.2.2.1, hd.2.2.2.2, z, l, w, []⟩ = true
            · have hF1 : rFrame b = (⟨n, (rText 6 q1).1, (rText 6 (rText 6 q1).2).1, hd.1, hd.2.1, hd.2.2.1, hd.2.2.2.1, hd.2.2.2.2, z, l, w, []⟩, 0) := by
                rw [hF0]
                unfold rFin
                rw [if_neg (by simp [hb9.1]), if_neg (by simp [hb9.2]), if_pos hRR]
              rw [hF1]
              rw [hRR] at hR
              try simp [fR, rsV, lv, lvR] at hR
              simp [-Evl.expC, -Evl.cellP, fls, fli, flb, flm, ezs, ezi, ezb, ezm, X5', X7', X9', y5, y7, y9, Z5, Z7, Z9, Fz, nz, hR, z0, zn0, resV, resP, rsV]
            · have hF1 : rFrame b = (frame0, 3) := by
                rw [hF0]
                unfold rFin
                rw [if_neg (by simp [hb9.1]), if_neg (by simp [hb9.2]), if_neg hRR]
              rw [hF1]
              simp only [hRR] at hR
              try simp [fR, rsV, lv, lvR] at hR
              simp [-Evl.expC, ezs, ezi, ezb, ezm, X5', X7', X9', y5, y7, y9, Z5, Z7, Z9, Fz, nz, hR, z0, zn0, frame0, resV, resP, rsV]
          · have hF1 : rFrame b = (frame0, rEnd q9) := by
              rw [hF0]
              unfold rFin
              by_cases hb9 : q9.bad = 0
              · rw [if_neg (by simp [hb9])]
                by_cases hs9 : q9.s = []
                · exfalso
                  apply he
                  simp [rEnd, hb9, hs9]
                · rw [if_pos (by simpa using hs9)]
                  simp [rEnd, hb9, hs9]
              · rw [if_pos (by simpa using hb9)]
                simp [rEnd, hb9]
            rw [hF1]
            simp [he, z0, zn0, frame0, resV, resP, rsV]
end Go.Evl.Zone

namespace Go.Evl.Zone
open Go Go.Evl
variable {P : Program}
theorem span1_KC (T : TT P) {H h : Heap} {t r a e i : Nat} {u : Int} {v : PV} {B : Bytes} {L : List Int} {q : Src} {nn : Bool} {K : PV → Heap → List Nat → Prop} (c : AI H t r v B a [.ptr t 0] e 1 (fun x => [iv u, x]) i (En L) q nn h) (hi : i < 4096)
    (hK : ∀ w h' wl, AI H t r v B a [.ptr t 0] e 1 (fun x => [iv u, x]) (i + 1) (En (L ++ [(rI 1048576 q).1])) (rI 1048576 q).2 nn h' → (∀ j ∈ wl, WI H r e j) → K w h' wl) : KC (env P) 153 [.ptr e 0, .ptr a 0] h K := by
  have hle := c.le
  simp only [En_length] at hle
  obtain ⟨x, E1, E2⟩ := c.E
  have n1 := c.en
  refine KC_of (cf := c153) rfl rfl ?_
  simp [c153, c.A, c.an, E1, n1]
  refine VA_inl (g := 102) (caps := []) rfl rfl ?_
  try simp
  have c1' := (c.grow (m := 1))
  refine tnum_IC T c1'.tk fun H2 wl2 s2 o2 w2 => ?_
  have c2 := c1'.oth o2 s2
  have n2 : H2.n = h.n + 1 := by rw [o2.n]; simp
  have d2 : H2.at_ h.n = .dead := by
    rw [o2.at_ h.n (by simp) (by have := c.tk.S.hr; omega)]
    simp
  have E3 : LN H.n H2 1 x (En L) := by
    obtain ⟨a0, _, _, hb⟩ := c1'.tk.S.at_
    exact (E2.grow (m := 1)).oth ⟨_, hb⟩ o2
  have e2 : H2.at_ e = .box [iv u, x] := by
    rw [o2.at_ e (by simp; omega) c.er]
    simp [n1, E1]
  have en2 := c2.en
  try simp [chunks, elems, allLen]
  refine VP_appN (N := H.n) (ys := En L) E3 d2 (by omega) (by have := c.y.n; omega) (by simp [allLen]) (by simp; unfold most; omega) fun v' H3 wr rd a2 a3 a4 a5 a6 => ?_
  have c3 := c2.next (zs := En [(rI 1048576 q).1]) (by simp) a2 a3 a4 a5
  rw [← En_append] at c3
  have e3 := a4 _ _ e2
  have hwe : ∀ i ∈ wl2, ¬ i = e := fun i q z => c.er (z.symm.trans (w2 i q))
  have hwa : ∀ i ∈ wl2, ¬ i = a := fun i q z => c.ar (z.symm.trans (w2 i q))
  have en3 : e < H3.n := by omega
  rcases shape a2 with ⟨ys, rfl⟩ | ⟨r', k', g', o', n', rfl⟩
  all_goals
    simp [e3, hwe, hwa, a3, n2, en3]
    refine ⟨hwe, ?_⟩
    simp [resV, resP]
    exact hK _ _ _ c3 (WI.ce (WI.app (WI.new a6) (WI.one w2)))
theorem tspan_IC (T : TT P) {H : Heap} {t r : Nat} {v : PV} {B : Bytes} {q : Src} {K : PV → Heap → List Nat → Prop} (b : TkS H t r v B q false) (hK : ∀ H' wl, RdS H' r v B (rCount 4096 (rI 1048576) (rNum 1048576 q).2).2 → Oth H r H' → (∀ i ∈ wl, i = r) → K (.agg [iv (rNum 1048576 q).1, lv (rCount 4096 (rI 1048576) (rNum 1048576 q).2).1]) H' wl) : IC (env P) 104 [.ptr t 0] H K := by
  have hr := b.S.hr
  have ht := b.tn
  have hvb := b.S.b
  obtain ⟨a0, x1, x2, x3⟩ := b.S.at_
  refine IC_rdx (cf := c104) rfl rfl b.S ?_
  simp [c104]
  refine VA_inl (g := 102) (caps := []) rfl rfl ?_
  try simp
  obtain ⟨H0, hH0⟩ : ∃ H0, H0 = (((H.grow 2).put H.n (.box [.ptr t 0])).put (H.n + 1) (.box [iv 0, .im [] true])).grow 1 := ⟨_, rfl⟩
  rw [← hH0]
  have hcn : H0.n = H.n + 3 := by rw [hH0]; simp
  have hlo : ∀ i, i < H.n → H0.at_ i = H.at_ i := fun i hi => by
    rw [hH0]
    have e1 : i ≠ H.n := by omega
    have e2 : i ≠ H.n + 1 := by omega
    have e3 : i < H.n + 2 := by omega
    simp [e1, e2, e3, hi]
  have hg : Gr H H0 := ⟨by omega, hlo⟩
  have hA : H0.at_ H.n = .box [.ptr t 0] := by rw [hH0]; simp
  have hC : H0.at_ (H.n + 1) = .box [iv 0, .im [] true] := by rw [hH0]; simp
  have hD : H0.at_ (H.n + 2) = .dead := by rw [hH0]; simp
  have hv0 : Bf H0 v B := ⟨b.S.b.l.ext hg, b.S.b.m⟩
  have t0 : TkS H0 t r v B q false := ⟨⟨by omega, hv0, a0, x1, x2, by rw [hlo r hr, x3]⟩, by rw [hlo t ht, b.T], by omega, b.ne⟩
  refine tnum_IC T t0 fun H1 wl1 s1 o1 w1 => ?_
  have t1 := t0.oth o1 s1
  have n1 : H1.n = H.n + 3 := by rw [o1.n, hcn]
  have A1 : H1.at_ H.n = .box [.ptr t 0] := by rw [o1.at_ _ (by omega) (by omega), hA]
  have C1 : H1.at_ (H.n + 1) = .box [iv 0, .im [] true] := by rw [o1.at_ _ (by omega) (by omega), hC]
  have D1 : H1.at_ (H.n + 2) = .dead := by rw [o1.at_ _ (by omega) (by omega), hD]
  have l1 : H.n < H1.n := by omega
  have l2 : H.n + 1 < H1.n := by omega
  have l3 : H.n + 2 < H1.n := by omega
  try simp [A1, D1, l1, l2, l3, hcn, n1]
  obtain ⟨u, hu⟩ : ∃ u, u = ((rNum 1048576 q).1 : Int) := ⟨_, rfl⟩
  obtain ⟨q1, hq1⟩ : ∃ q1, q1 = (rNum 1048576 q).2 := ⟨_, rfl⟩
  rw [← hq1] at t1
  rw [← hu, ← hq1] at hK
  simp only [← hu]
  obtain ⟨Hc, hHc⟩ : ∃ Hc, Hc = ((H1.put (H.n + 2) (.box [iv 0, .im [] true])).put (H.n + 2) (.box [iv u, .im [] true])).grow 0 := ⟨_, rfl⟩
  rw [← hHc]
  have hcn' : Hc.n = H.n + 3 := by rw [hHc]; simp [n1]
  have hup : ∀ i, i ≠ H.n + 2 → i < H1.n → Hc.at_ i = H1.at_ i := fun i h1 h2 => by
    rw [hHc]
    simp [h1, h2]
  have hloc : ∀ i, i < H.n → i ≠ r → Hc.at_ i = H.at_ i := fun i hi hne => by
    rw [hup i (by omega) (by omega), o1.at_ i (by omega) hne, hlo i hi]
  have hE : Hc.at_ (H.n + 2) = .box [iv u, .im [] true] := by rw [hHc]; simp [n1]
  obtain ⟨a1, y1, y2, y3⟩ := t1.S.at_
  have hrc : Hc.at_ r = rdBox v a1 q1.bad := by rw [hup r (by omega) (by omega), y3]
  have hvc : Bf Hc v B := hvb.bey ⟨_, x3⟩ ⟨by omega, hloc⟩
  have c0 : AI Hc t r v B H.n [.ptr t 0] (H.n + 2) 1 (fun x => [iv u, x]) 0 (En ([] : List Int)) q1 false Hc := by
    refine ⟨⟨⟨by omega, hvc, a1, y1, y2, hrc⟩, by rw [hloc t ht b.ne, b.T], by omega, b.ne⟩, ⟨Nat.le_refl _, fun _ _ _ => rfl⟩, by rw [hup _ (by omega) (by omega), A1], by omega, ⟨_, hE, LN.nil⟩, by omega, by omega, by simp, by omega, by omega, by omega, by omega, by omega, by omega, by omega, hvc, ?_⟩
    rintro i (rfl | rfl | rfl)
    · exact ⟨_, hrc⟩
    · exact ⟨_, hE⟩
    · exact ⟨_, by rw [hloc _ ht b.ne, b.T]⟩
  refine VA_keep (g := 100) (caps := []) rfl rfl ?_
  try simp
  refine count_KC T (B := B) (v := v) (r := r) (mo := 4096) (fun (L : List Int) q => (L ++ [(rI 1048576 q).1], (rI 1048576 q).2, false)) (fun i L q nn h => nn = false ∧ AI Hc t r v B H.n [.ptr t 0] (H.n + 2) 1 (fun x => [iv u, x]) i (En L) q nn h) (WI Hc r (H.n + 2))
    (fun i a q nn h c => c.2.tk) (fun i a q nn h m c => ⟨c.1, c.2.grow⟩) (fun i a q nn h h' q' c o s => ⟨c.1, c.2.oth o s⟩) (fun i a q nn h h' c e => ⟨c.1, c.2.eqh e⟩) rfl (.inl (.inl rfl))
    (fun i L q h K' c hi hb hK' => span1_KC T c.2 hi fun w h' wl c' w' => hK' w h' wl ⟨rfl, c'⟩ w') (by omega) ⟨rfl, c0⟩ fun w h' wl i hI hw => ?_
  rw [cLoop_r] at hI
  obtain ⟨_, c1⟩ := hI
  simp only [List.nil_append] at c1
  obtain ⟨x, E1, E2⟩ := c1.E
  have m1 := c1.en
  have C2 : h'.at_ (H.n + 1) = .box [iv 0, .im [] true] := by rw [c1.y.at_ (H.n + 1) (by omega) (by omega), hup _ (by omega) (by omega), C1]
  have m2 : H.n + 1 < h'.n := by omega
  obtain ⟨is, X1⟩ := E2.expH (plainss_En _)
  have hisN : ∀ i ∈ is, Hc.n ≤ i := by
    obtain ⟨is2, e2, e3⟩ := E2.expC (plainss_En _)
    have := X1 h' (fun _ _ _ => rfl)
    rw [e2] at this
    simp only [Option.some.injEq, Prod.mk.injEq] at this
    rw [← this.2]
    exact e3
  have ezi : ∀ (h : Heap) (k : IntKind) (n : Int), Evl.expC h (.val (.int k n)) = some (.val (.int k n), []) := fun _ _ _ => rfl
  obtain ⟨a2, z1, z2, z3⟩ := c1.tk.S.at_
  have hr1 := c1.tk.S.hr
  have hW : ∀ i ∈ (wl ++ (H.n + 2) :: (H.n + 2) :: (wl1 ++ [H.n + 1, H.n])), i = r ∨ H.n ≤ i := by
    intro i hi
    simp at hi
    rcases hi with hi | hi | hi | hi | hi
    · rcases hw i hi with (h | h) | h
      · exact .inl h
      · exact .inr (by omega)
      · exact .inr (by omega)
    · exact .inr (by omega)
    · exact .inl (w1 i hi)
    · exact .inr (by omega)
    · exact .inr (by omega)
  have hBy : Bey H r h' := ⟨by have := c1.y.n; omega, fun i hi hne => by
    by_cases hit : i = t
    · rw [hit, c1.tk.T, b.T]
    · rw [c1.y.at_ i (by omega) (by omega), hloc i hi hne]⟩
  have X2 := fun c => X1 ((h'.grow 0).put (H.n + 1) (.box c)) (fun i hi ⟨_, _, _, hx⟩ => by
    have : i ≠ H.n + 1 := by rintro rfl; rw [C2] at hx; cases hx
    simp [this, hi])
  rcases shape E2 with ⟨ys, rfl⟩ | ⟨r', k', g', o', n', rfl⟩
  all_goals
    simp [E1, m1, C2, m2]
    refine Fin'.mk (.agg [iv u, lv (rCount 4096 (rI 1048576) q1).1]) (rCount 4096 (rI 1048576) q1).2 a2 ⟨is, ?_, fun i hi => Nat.le_trans (by omega) (hisN i hi)⟩ (fun i hi => (List.mem_cons.1 hi).elim (fun q => .inr (by omega)) (hW i)) ((hBy.grow).put' (by omega)) z1 z2 ?_ hK
    · simp [-Evl.expC, resV, resP, ezi, X2, m2]
      rfl
    · have hne : ¬ r = H.n + 1 := by omega
      simp [hr1, z3, hne]
      rfl
end Go.Evl.Zone

namespace Go.Evl.Zone
open Go Go.Evl
variable {P : Program}
theorem AI.other {H h : Heap} {t r : Nat} {v : PV} {B : Bytes} {a : Nat} {ca : List PV} {e k : Nat} {cells : PV → List PV} {i : Nat} {ys : List (List PV)} {q : Src} {nn : Bool} (c : AI H t r v B a ca e k cells i ys q nn h) {b : Nat} (hb : b < H.n) (hne : b ≠ r ∧ b ≠ e ∧ b ≠ t) : h.at_ b = H.at_ b ∧ b < h.n := ⟨c.y.at_ b hb (fun q => by rcases q with q | q | q; exact hne.1 q; exact hne.2.1 q; exact hne.2.2 q), Nat.lt_of_lt_of_le hb c.y.n⟩
theorem lists1_KC (T : TT P) {H h : Heap} {t r a b f i : Nat} {z0 z1 z2 z4 z5 z6 z7 z8 z9 z10 z11 : PV} {v : PV} {B : Bytes} {L : List KRow} {q : Src} {nn : Bool} {K : PV → Heap → List Nat → Prop} (c : AI H t r v B a [.ptr t 0] f 3 (fun x => [z0, z1, z2, x, z4, z5, z6, z7, z8, z9, z10, z11]) i (En L) q false h) (hb : H.at_ b = .box [.ptr f 0]) (hbn : b < H.n) (hbe : b ≠ r ∧ b ≠ f ∧ b ≠ t) (hi : i < 64)
    (hK : ∀ w h' wl, AI H t r v B a [.ptr t 0] f 3 (fun x => [z0, z1, z2, x, z4, z5, z6, z7, z8, z9, z10, z11]) (i + 1) (En (L ++ [(rKRow q).1])) (rKRow q).2 false h' → (∀ j ∈ wl, WI H r f j) → K w h' wl) : KC (env P) 103 [.ptr a 0, .ptr b 0] h K := by
  have hle := c.le
  simp only [En_length] at hle
  obtain ⟨hb0, hbn0⟩ := c.other hbn hbe
  rw [hb] at hb0
  obtain ⟨x, E1, E2⟩ := c.E
  have n0 := c.en
  have hfb : ¬ f = b := fun q => hbe.2.1 q.symm
  have hbf : ¬ b = f := hbe.2.1
  refine KC_of (cf := c103) rfl rfl ?_
  simp [c103, c.A, c.an, hb0, hbn0, E1, n0]
  refine VA_inl (g := 44) (caps := []) rfl rfl ?_
  try simp
  have c0' := (c.grow (m := 0))
  refine tid_IC T c0'.tk fun H1 wl1 s1 o1 w1 => ?_
  have c1 := c0'.oth o1 s1
  obtain ⟨x, E1, E2⟩ := c1.E
  have n1 := c1.en
  obtain ⟨hb1, hbn1⟩ := c1.other hbn hbe
  rw [hb] at hb1
  try simp [E1, n1, c1.A, c1.an, hb1, hbn1]
  refine VA_inl (g := 104) (caps := []) rfl rfl ?_
  try simp
  have c1' := (c1.grow (m := 1))
  refine tspan_IC T c1'.tk fun H2 wl2 s2 o2 w2 => ?_
  have c2 := c1'.oth o2 s2
  have n2 : H2.n = H1.n + 1 := by rw [o2.n]; simp
  have d2 : H2.at_ H1.n = .dead := by
    rw [o2.at_ H1.n (by simp) (by have := c1.tk.S.hr; omega)]
    simp
  have E3 : LN H.n H2 3 x (En L) := by
    obtain ⟨a0, _, _, hb⟩ := c1'.tk.S.at_
    exact (E2.grow (m := 1)).oth ⟨_, hb⟩ o2
  have e2 : H2.at_ f = .box [z0, z1, z2, x, z4, z5, z6, z7, z8, z9, z10, z11] := by
    rw [o2.at_ f (by simp; have := c1.en; omega) c.er]
    simp [c1.en, E1]
  have en2 := c2.en
  try simp [chunks, elems, allLen]
  refine VP_appN (N := H.n) (ys := En L) E3 d2 (by omega) (by have := c1.y.n; omega) (by simp [allLen]) (by simp; unfold most; omega) fun v' H3 wr rd a2 a3 a4 a5 a6 => ?_
  have c3 := c2.next (zs := En [(rKRow q).1]) (by simp) a2 a3 a4 a5
  rw [← En_append] at c3
  have e3 := a4 _ _ e2
  have hwe : ∀ i ∈ wl2, ¬ i = f := fun i q z => c.er (z.symm.trans (w2 i q))
  have hwa : ∀ i ∈ wl2, ¬ i = a := fun i q z => c.ar (z.symm.trans (w2 i q))
  have hwb : ∀ i ∈ wl2, ¬ i = b := fun i q z => hbe.1 (z.symm.trans (w2 i q))
  have hwr : ∀ i ∈ wr, ¬ i = b := fun i q z => by have := a6 i q; omega
  have en3 : f < H3.n := by omega
  have hHn := c.y.n
  rcases shape a2 with ⟨ys, rfl⟩ | ⟨r', k', g', o', n', rfl⟩
  all_goals
    simp [e3, hwe, hwa, hwb, hwr, a3, n2, en3, hfb, hbf]
    try refine ⟨?_, ?_⟩
    all_goals try simp [resV, resP, hwe, hwa, hwb, hwr, hfb, hbf]
    all_goals first | exact ⟨hwb, hwe, hwr⟩ | exact ⟨hwe, hwb, hwr⟩ | exact hK _ _ _ c3 (WI.ce (WI.app (WI.new a6) (WI.app (WI.one w2) (WI.one w1)))) | exact hK _ _ _ (c3.eqh (EqH.keepD (by simp [a3, n2]))) (WI.ce (WI.app (WI.new a6) (WI.app (WI.one w2) (WI.one w1)))) | skip
theorem lists2_KC (T : TT P) {H h : Heap} {t r a b f i : Nat} {z0 z1 z2 z3 z4 z6 z7 z8 z9 z10 z11 : PV} {v : PV} {B : Bytes} {L : List Bytes} {q : Src} {nn : Bool} {K : PV → Heap → List Nat → Prop} (c : AI H t r v B a [.ptr t 0] f 1 (fun x => [z0, z1, z2, z3, z4, x, z6, z7, z8, z9, z10, z11]) i (En L) q false h) (hb : H.at_ b = .box [.ptr f 0]) (hbn : b < H.n) (hbe : b ≠ r ∧ b ≠ f ∧ b ≠ t) (hi : i < 64)
    (hK : ∀ w h' wl, AI H t r v B a [.ptr t 0] f 1 (fun x => [z0, z1, z2, z3, z4, x, z6, z7, z8, z9, z10, z11]) (i + 1) (En (L ++ [(rText 6 q).1])) (rText 6 q).2 false h' → (∀ j ∈ wl, WI H r f j) → K w h' wl) : KC (env P) 105 [.ptr b 0, .ptr a 0] h K := by
  have hle := c.le
  simp only [En_length] at hle
  obtain ⟨hb0, hbn0⟩ := c.other hbn hbe
  rw [hb] at hb0
  obtain ⟨x, E1, E2⟩ := c.E
  have n0 := c.en
  have hfb : ¬ f = b := fun q => hbe.2.1 q.symm
  have hbf : ¬ b = f := hbe.2.1
  refine KC_of (cf := c105) rfl rfl ?_
  simp [c105, c.A, c.an, hb0, hbn0, E1, n0]
  refine VA_inl (g := 44) (caps := []) rfl rfl ?_
  try simp
  have c1' := (c.grow (m := 1))
  refine tid_IC T c1'.tk fun H2 wl2 s2 o2 w2 => ?_
  have c2 := c1'.oth o2 s2
  have n2 : H2.n = h.n + 1 := by rw [o2.n]; simp
  have d2 : H2.at_ h.n = .dead := by
    rw [o2.at_ h.n (by simp) (by have := c.tk.S.hr; omega)]
    simp
  have E3 : LN H.n H2 1 x (En L) := by
    obtain ⟨a0, _, _, hb⟩ := c1'.tk.S.at_
    exact (E2.grow (m := 1)).oth ⟨_, hb⟩ o2
  have e2 : H2.at_ f = .box [z0, z1, z2, z3, z4, x, z6, z7, z8, z9, z10, z11] := by
    rw [o2.at_ f (by simp; have := c.en; omega) c.er]
    simp [c.en, E1]
  have en2 := c2.en
  try simp [chunks, elems, allLen]
  refine VP_appN (N := H.n) (ys := En L) E3 d2 (by omega) (by have := c.y.n; omega) (by simp [allLen]) (by simp; unfold most; omega) fun v' H3 wr rd a2 a3 a4 a5 a6 => ?_
  have c3 := c2.next (zs := En [(rText 6 q).1]) (by simp) a2 a3 a4 a5
  rw [← En_append] at c3
  have e3 := a4 _ _ e2
  have hwe : ∀ i ∈ wl2, ¬ i = f := fun i q z => c.er (z.symm.trans (w2 i q))
  have hwa : ∀ i ∈ wl2, ¬ i = a := fun i q z => c.ar (z.symm.trans (w2 i q))
  have hwb : ∀ i ∈ wl2, ¬ i = b := fun i q z => hbe.1 (z.symm.trans (w2 i q))
  have hwr : ∀ i ∈ wr, ¬ i = b := fun i q z => by have := a6 i q; omega
  have en3 : f < H3.n := by omega
  have hHn := c.y.n
  rcases shape a2 with ⟨ys, rfl⟩ | ⟨r', k', g', o', n', rfl⟩
  all_goals
    simp [e3, hwe, hwa, hwb, hwr, a3, n2, en3, hfb, hbf]
    try refine ⟨?_, ?_⟩
    all_goals try simp [resV, resP, hwe, hwa, hwb, hwr, hfb, hbf]
    all_goals first | exact ⟨hwb, hwe, hwr⟩ | exact ⟨hwe, hwb, hwr⟩ | exact hK _ _ _ c3 (WI.ce (WI.app (WI.new a6) (WI.one w2))) | exact hK _ _ _ (c3.eqh (EqH.keepD (by simp [a3, n2]))) (WI.ce (WI.app (WI.new a6) (WI.one w2))) | skip
theorem lists3_KC (T : TT P) {H h : Heap} {t r a b f i : Nat} {z0 z1 z2 z3 z4 z5 z6 z8 z9 z10 z11 : PV} {v : PV} {B : Bytes} {L : List MRow} {q : Src} {nn : Bool} {K : PV → Heap → List Nat → Prop} (c : AI H t r v B a [.ptr t 0] f 2 (fun x => [z0, z1, z2, z3, z4, z5, z6, x, z8, z9, z10, z11]) i (En L) q false h) (hb : H.at_ b = .box [.ptr f 0]) (hbn : b < H.n) (hbe : b ≠ r ∧ b ≠ f ∧ b ≠ t) (hi : i < 64)
    (hK : ∀ w h' wl, AI H t r v B a [.ptr t 0] f 2 (fun x => [z0, z1, z2, z3, z4, z5, z6, x, z8, z9, z10, z11]) (i + 1) (En (L ++ [(rMRow q).1])) (rMRow q).2 false h' → (∀ j ∈ wl, WI H r f j) → K w h' wl) : KC (env P) 106 [.ptr a 0, .ptr b 0] h K := by
  have hle := c.le
  simp only [En_length] at hle
  obtain ⟨hb0, hbn0⟩ := c.other hbn hbe
  rw [hb] at hb0
  obtain ⟨x, E1, E2⟩ := c.E
  have n0 := c.en
  have hfb : ¬ f = b := fun q => hbe.2.1 q.symm
  have hbf : ¬ b = f := hbe.2.1
  refine KC_of (cf := c106) rfl rfl ?_
  simp [c106, c.A, c.an, hb0, hbn0, E1, n0]
  refine VA_inl (g := 44) (caps := []) rfl rfl ?_
  try simp
  have c0' := (c.grow (m := 0))
  refine tid_IC T c0'.tk fun H1 wl1 s1 o1 w1 => ?_
  have c1 := c0'.oth o1 s1
  obtain ⟨x, E1, E2⟩ := c1.E
  have n1 := c1.en
  obtain ⟨hb1, hbn1⟩ := c1.other hbn hbe
  rw [hb] at hb1
  try simp [E1, n1, c1.A, c1.an, hb1, hbn1]
  refine VA_inl (g := 45) (caps := []) rfl rfl ?_
  try simp
  have c1' := (c1.grow (m := 1))
  refine tvec_IC T c1'.tk fun H2 wl2 s2 o2 w2 => ?_
  have c2 := c1'.oth o2 s2
  have n2 : H2.n = H1.n + 1 := by rw [o2.n]; simp
  have d2 : H2.at_ H1.n = .dead := by
    rw [o2.at_ H1.n (by simp) (by have := c1.tk.S.hr; omega)]
    simp
  have E3 : LN H.n H2 2 x (En L) := by
    obtain ⟨a0, _, _, hb⟩ := c1'.tk.S.at_
    exact (E2.grow (m := 1)).oth ⟨_, hb⟩ o2
  have e2 : H2.at_ f = .box [z0, z1, z2, z3, z4, z5, z6, x, z8, z9, z10, z11] := by
    rw [o2.at_ f (by simp; have := c1.en; omega) c.er]
    simp [c1.en, E1]
  have en2 := c2.en
  try simp [chunks, elems, allLen]
  refine VP_appN (N := H.n) (ys := En L) E3 d2 (by omega) (by have := c1.y.n; omega) (by simp [allLen]) (by simp; unfold most; omega) fun v' H3 wr rd a2 a3 a4 a5 a6 => ?_
  have c3 := c2.next (zs := En [(rMRow q).1]) (by simp) a2 a3 a4 a5
  rw [← En_append] at c3
  have e3 := a4 _ _ e2
  have hwe : ∀ i ∈ wl2, ¬ i = f := fun i q z => c.er (z.symm.trans (w2 i q))
  have hwa : ∀ i ∈ wl2, ¬ i = a := fun i q z => c.ar (z.symm.trans (w2 i q))
  have hwb : ∀ i ∈ wl2, ¬ i = b := fun i q z => hbe.1 (z.symm.trans (w2 i q))
  have hwr : ∀ i ∈ wr, ¬ i = b := fun i q z => by have := a6 i q; omega
  have en3 : f < H3.n := by omega
  have hHn := c.y.n
  rcases shape a2 with ⟨ys, rfl⟩ | ⟨r', k', g', o', n', rfl⟩
  all_goals
    simp [e3, hwe, hwa, hwb, hwr, a3, n2, en3, hfb, hbf]
    try refine ⟨?_, ?_⟩
    all_goals try simp [resV, resP, hwe, hwa, hwb, hwr, hfb, hbf]
    all_goals first | exact ⟨hwb, hwe, hwr⟩ | exact ⟨hwe, hwb, hwr⟩ | exact hK _ _ _ c3 (WI.ce (WI.app (WI.new a6) (WI.app (WI.one w2) (WI.one w1)))) | exact hK _ _ _ (c3.eqh (EqH.keepD (by simp [a3, n2]))) (WI.ce (WI.app (WI.new a6) (WI.app (WI.one w2) (WI.one w1)))) | skip
end Go.Evl.Zone

namespace Go.Evl.Zone
open Go Go.Evl
variable {P : Program}
section
variable {H h h' : Heap} {t r : Nat} {v : PV} {B : Bytes} {a : Nat} {ca : List PV} {e k : Nat} {cells : PV → List PV} {i : Nat} {ys zs : List (List PV)} {q q' : Src} {nn nn' : Bool} {m : Nat} {v' : PV}
theorem AI.putN (c : AI H t r v B a ca e k cells i ys q nn h) {s : Nat} {b : Blk} (hs : H.n ≤ s) (hd : h.at_ s = .dead ∨ ∃ cs, h.at_ s = .box cs) (hsa : s ≠ a) : AI H t r v B a ca e k cells i ys q nn (h.put s b) := by
  obtain ⟨x, e1, e2⟩ := c.E
  obtain ⟨a0, x1, x2, x3⟩ := c.tk.S.at_
  have h1 := c.rn
  have h2 := c.tn
  have h3 := c.eH
  have y2 : BeyW (fun i => i = r ∨ i = e ∨ i = t) H (h.put s b) := ⟨by simpa using c.y.n, fun i hi hw => by
    simp only [at_put]
    rw [if_neg (by omega), c.y.at_ i hi hw]⟩
  have n1 : ¬ r = s := by omega
  have n2 : ¬ t = s := by omega
  have n3 : ¬ e = s := by omega
  have n4 : ¬ a = s := fun q => hsa q.symm
  exact ⟨⟨⟨by simpa using c.tk.S.hr, c.hv.w y2 c.hb, a0, x1, x2, by simp [n1, x3]⟩, by simp [n2, c.tk.T], by simpa using c.tk.tn, c.tk.ne⟩, y2, by simp [n4, c.A], by simpa using c.an, ⟨x, by simp [n3, e1], e2.putN hd⟩, by simpa using c.en, c.eH, c.le, c.et, c.er, c.ar, c.ae, c.at', c.rn, c.tn, c.hv, c.hb⟩
theorem AI.putT (c : AI H t r v B a ca e k cells i ys q nn h) : AI H t r v B a ca e k cells i ys q nn' (h.put t (.box [.ptr r 0, bv nn'])) := by
  obtain ⟨x, e1, e2⟩ := c.E
  obtain ⟨a0, x1, x2, x3⟩ := c.tk.S.at_
  have y2 : BeyW (fun i => i = r ∨ i = e ∨ i = t) H (h.put t (.box [.ptr r 0, bv nn'])) := ⟨by simpa using c.y.n, fun i hi hw => by
    simp only [at_put]
    rw [if_neg (fun q => hw (.inr (.inr q))), c.y.at_ i hi hw]⟩
  exact ⟨⟨⟨by simpa using c.tk.S.hr, c.hv.w y2 c.hb, a0, x1, x2, by simp [Ne.symm c.tk.ne, x3]⟩, by simp, by simpa using c.tk.tn, c.tk.ne⟩, y2, by simp [c.at', c.A], by simpa using c.an, ⟨x, by simp [c.et, e1], e2.putN (.inr ⟨_, c.tk.T⟩)⟩, by simpa using c.en, c.eH, c.le, c.et, c.er, c.ar, c.ae, c.at', c.rn, c.tn, c.hv, c.hb⟩
end
abbrev WJ (H : Heap) (r e t : Nat) (j : Nat) : Prop := (j = r ∨ j = e ∨ j = t) ∨ H.n ≤ j
theorem WJ.ce {H : Heap} {r e t : Nat} {l : List Nat} (h : ∀ j ∈ l, WJ H r e t j) : ∀ j ∈ e :: l, WJ H r e t j := fun j hj => (List.mem_cons.1 hj).elim (fun q => .inl (.inr (.inl q))) (h j)
theorem WJ.ct {H : Heap} {r e t : Nat} {l : List Nat} (h : ∀ j ∈ l, WJ H r e t j) : ∀ j ∈ t :: l, WJ H r e t j := fun j hj => (List.mem_cons.1 hj).elim (fun q => .inl (.inr (.inr q))) (h j)
theorem WJ.cn {H : Heap} {r e t i : Nat} {l : List Nat} (hi : H.n ≤ i) (h : ∀ j ∈ l, WJ H r e t j) : ∀ j ∈ i :: l, WJ H r e t j := fun j hj => (List.mem_cons.1 hj).elim (fun q => .inr (by omega)) (h j)
theorem WJ.app {H : Heap} {r e t : Nat} {a b : List Nat} (ha : ∀ j ∈ a, WJ H r e t j) (hb : ∀ j ∈ b, WJ H r e t j) : ∀ j ∈ a ++ b, WJ H r e t j := fun j hj => (List.mem_append.1 hj).elim (ha j) (hb j)
theorem WJ.one {H : Heap} {r e t : Nat} {a : List Nat} (ha : ∀ j ∈ a, j = r) : ∀ j ∈ a, WJ H r e t j := fun j hj => .inl (.inl (ha j hj))
theorem WJ.new {H : Heap} {r e t : Nat} {a : List Nat} (ha : ∀ j ∈ a, H.n ≤ j) : ∀ j ∈ a, WJ H r e t j := fun j hj => .inr (ha j hj)
theorem WJ.nil {H : Heap} {r e t : Nat} : ∀ j ∈ ([] : List Nat), WJ H r e t j := fun j hj => by cases hj
def stepI (L : List Item) (q : Src) : List Item × Src × Bool := (L ++ [((rItem q).1).getD item0], (rItem q).2, (rItem q).1.isNone && decide ((rItem q).2.bad = 0))
theorem lists4_KC (T : TT P) {H h : Heap} {t r a b f i : Nat} {z0 z1 z2 z3 z4 z5 z6 z7 z8 z10 z11 : PV} {v : PV} {B : Bytes} {L : List Item} {q : Src} {K : PV → Heap → List Nat → Prop} (c : AI H t r v B a [.ptr t 0] f 8 (fun x => [z0, z1, z2, z3, z4, z5, z6, z7, z8, x, z10, z11]) i (EnP L) q false h) (hb : H.at_ b = .box [.ptr f 0]) (hbn : b < H.n) (hbe : b ≠ r ∧ b ≠ f ∧ b ≠ t) (hi : i < 32)
    (hK : ∀ w h' wl, AI H t r v B a [.ptr t 0] f 8 (fun x => [z0, z1, z2, z3, z4, z5, z6, z7, z8, x, z10, z11]) (i + 1) (EnP (stepI L q).1) (stepI L q).2.1 (stepI L q).2.2 h' → (∀ j ∈ wl, WJ H r f t j) → K w h' wl) : KC (env P) 109 [.ptr a 0, .ptr b 0] h K := by
  have hle := c.le
  simp only [EnP_length] at hle
  obtain ⟨hb0, hbn0⟩ := c.other hbn hbe
  rw [hb] at hb0
  obtain ⟨x, E1, E2⟩ := c.E
  have n0 := c.en
  have hfb : ¬ f = b := fun q => hbe.2.1 q.symm
  have hbf : ¬ b = f := hbe.2.1
  have hHn := c.y.n
  have hrn := c.rn
  have htn := c.tn
  have hfn := c.eH
  refine KC_of (cf := c109) rfl rfl ?_
  simp [c109, c.A, c.an, c.tk.T, c.tk.tn]
  refine VA_inl (g := 110) (caps := []) rfl rfl ?_
  try simp
  have c0' := (c.grow (m := 1))
  refine pitem_IC T c0'.tk.S fun H1 wl1 s1 o1 w1 => ?_
  have c1 := c0'.oth o1 s1
  have m1 : H1.n = h.n + 1 := by rw [o1.n]; simp
  have d1 : H1.at_ h.n = .dead := by
    rw [o1.at_ h.n (by simp) (by omega)]
    simp
  obtain ⟨o, ho⟩ : ∃ o, o = (rItem q).1 := ⟨_, rfl⟩
  obtain ⟨q', hq'⟩ : ∃ q', q' = (rItem q).2 := ⟨_, rfl⟩
  unfold stepI at hK
  rw [← ho, ← hq'] at hK
  rw [← hq'] at c1
  have hne : h.n ≠ a := by have := c.an; omega
  cases o with
  | none =>
    simp only [← ho]
    have c2 : ∀ b1 b2, AI H t r v B a [.ptr t 0] f 8 (fun x => [z0, z1, z2, z3, z4, z5, z6, z7, z8, x, z10, z11]) i (EnP L) q' false ((H1.put h.n (.box b1)).put h.n (.box b2)) := fun b1 b2 => (c1.putN (by omega) (.inl d1) hne).putN (by omega) (.inr ⟨b1, by simp⟩) hne
    obtain ⟨x1, F1, F2⟩ := c1.E
    have f1 := c1.en
    have A1 := c1.A
    have a1n := c1.an
    obtain ⟨B1, b1n⟩ := c1.other hbn hbe
    rw [hb] at B1
    have T1 := c1.tk.T
    have t1n := c1.tk.tn
    have g1 : ¬ f = h.n := by omega
    have g2 : ¬ b = h.n := by omega
    have g3 : ¬ a = h.n := fun q => hne q.symm
    have g4 : ¬ t = h.n := by omega
    have p1 : f < h.n + 1 := by omega
    have p2 : b < h.n + 1 := by omega
    have p3 : a < h.n + 1 := by omega
    have p4 : t < h.n + 1 := by omega
    simp [d1, m1, F1, f1, B1, b1n, g1, g2, A1, a1n, g3, p1, p2, p3, p4, chunks, elems, allLen]
    have LQ : ∀ b1 b2, LN H.n (((H1.put h.n (.box b1)).put h.n (.box b2)).grow 1) 8 x1 (EnP L) := fun b1 b2 => (LN.putN (LN.putN F2 (.inl d1)) (.inr ⟨b1, by simp⟩)).grow
    refine VP_appN (N := H.n) (ys := EnP L) (LQ _ _) (by simp [m1]) (by simp [m1]) (by omega) (by simp [allLen]) (by simp; unfold most; omega) fun v' H3 wr rd a2 a3 a4 a5 a6 => ?_
    have c3 := ((c2 [iv 0, sv [], iv 0, iv 0, bv false, .val (.complex .f64 0 0), sv [], bv false] (itP item0)).grow (m := 1)).next (zs := EnP [item0]) (by simp) a2 a3 a4 a5
    rw [← EnP_append] at c3
    have F3 : H3.at_ f = .box [z0, z1, z2, z3, z4, z5, z6, z7, z8, x1, z10, z11] := a4 _ _ (by simp [g1, f1, F1])
    have B3 : H3.at_ b = .box [.ptr f 0] := a4 _ _ (by simp [g2, b1n, B1])
    have A3 : H3.at_ a = .box [.ptr t 0] := a4 _ _ (by simp [g3, a1n, A1])
    have T3 : H3.at_ t = .box [.ptr r 0, bv false] := a4 _ _ (by simp [g4, t1n, T1])
    have n3 : H3.n = h.n + 2 := by rw [a3]; simp [m1]
    have q1 : f < H3.n := by omega
    have q2 : b < H3.n := by omega
    have q3 : a < H3.n := by have := c.an; omega
    have q4 : t < H3.n := by omega
    have hwb : ∀ i ∈ wr, ¬ i = b := fun i q z => by have := a6 i q; omega
    have hft := c.et
    have hta : ¬ t = a := fun q => c.at' q.symm
    have haf := c.ae
    have htf : ¬ t = f := fun q => hft q.symm
    rcases shape a2 with ⟨ys, rfl⟩ | ⟨r', k', g', o', n', rfl⟩
    all_goals
      have q1' : f < h.n + 2 := by omega
      have q2' : b < h.n + 2 := by omega
      have q3' : a < h.n + 2 := by omega
      have q4' : t < h.n + 2 := by omega
      simp [F3, n3, q1', q2', q3', q4', q1, q2, q3, q4, hwb, A3, T3, haf, htf, hft, hbf, hfb]
      refine ⟨hwb, ?_⟩
      refine VA_inl (g := 43) (caps := []) rfl rfl ?_
      try simp
      refine werr_IC T (c3.grow (m := 0)).tk.S ?_
      have c4 := (c3.grow (m := 0)).putT (nn' := decide (q'.bad = 0))
      simp only [Option.getD_none, Option.isNone_none, Bool.true_and] at hK
      simp [F3, n3, q1', q2', q3', q4', q1, q2, q3, q4, hwb, A3, T3, haf, htf, hft, hbf, hfb, resV, resP]
      first | exact hK _ _ _ c4 (WJ.ct (WJ.ce (WJ.app (WJ.new a6) (WJ.cn (by omega) (WJ.cn (by omega) (WJ.one w1)))))) | exact hK _ _ _ (c4.eqh (EqH.keepD (by simp [n3]))) (WJ.ct (WJ.ce (WJ.app (WJ.new a6) (WJ.cn (by omega) (WJ.cn (by omega) (WJ.one w1)))))) | done
  | some it =>
    simp only [← ho]
    have c2 : ∀ b1 b2, AI H t r v B a [.ptr t 0] f 8 (fun x => [z0, z1, z2, z3, z4, z5, z6, z7, z8, x, z10, z11]) i (EnP L) q' false ((H1.put h.n (.box b1)).put h.n (.box b2)) := fun b1 b2 => (c1.putN (by omega) (.inl d1) hne).putN (by omega) (.inr ⟨b1, by simp⟩) hne
    obtain ⟨x1, F1, F2⟩ := c1.E
    have f1 := c1.en
    have A1 := c1.A
    have a1n := c1.an
    obtain ⟨B1, b1n⟩ := c1.other hbn hbe
    rw [hb] at B1
    have T1 := c1.tk.T
    have t1n := c1.tk.tn
    have g1 : ¬ f = h.n := by omega
    have g2 : ¬ b = h.n := by omega
    have g3 : ¬ a = h.n := fun q => hne q.symm
    have g4 : ¬ t = h.n := by omega
    have p1 : f < h.n + 1 := by omega
    have p2 : b < h.n + 1 := by omega
    have p3 : a < h.n + 1 := by omega
    have p4 : t < h.n + 1 := by omega
    simp [d1, m1, F1, f1, B1, b1n, g1, g2, A1, a1n, g3, p1, p2, p3, p4, chunks, elems, allLen]
    have LQ : ∀ b1 b2, LN H.n (((H1.put h.n (.box b1)).put h.n (.box b2)).grow 1) 8 x1 (EnP L) := fun b1 b2 => (LN.putN (LN.putN F2 (.inl d1)) (.inr ⟨b1, by simp⟩)).grow
    refine VP_appN (N := H.n) (ys := EnP L) (LQ _ _) (by simp [m1]) (by simp [m1]) (by omega) (by simp [allLen]) (by simp; unfold most; omega) fun v' H3 wr rd a2 a3 a4 a5 a6 => ?_
    have c3 := ((c2 [iv 0, sv [], iv 0, iv 0, bv false, .val (.complex .f64 0 0), sv [], bv false] (itP it)).grow (m := 1)).next (zs := EnP [it]) (by simp) a2 a3 a4 a5
    rw [← EnP_append] at c3
    have F3 : H3.at_ f = .box [z0, z1, z2, z3, z4, z5, z6, z7, z8, x1, z10, z11] := a4 _ _ (by simp [g1, f1, F1])
    have B3 : H3.at_ b = .box [.ptr f 0] := a4 _ _ (by simp [g2, b1n, B1])
    have A3 : H3.at_ a = .box [.ptr t 0] := a4 _ _ (by simp [g3, a1n, A1])
    have T3 : H3.at_ t = .box [.ptr r 0, bv false] := a4 _ _ (by simp [g4, t1n, T1])
    have n3 : H3.n = h.n + 2 := by rw [a3]; simp [m1]
    have q1 : f < H3.n := by omega
    have q2 : b < H3.n := by omega
    have q3 : a < H3.n := by have := c.an; omega
    have q4 : t < H3.n := by omega
    have hwb : ∀ i ∈ wr, ¬ i = b := fun i q z => by have := a6 i q; omega
    have hft := c.et
    have hta : ¬ t = a := fun q => c.at' q.symm
    have haf := c.ae
    have htf : ¬ t = f := fun q => hft q.symm
    rcases shape a2 with ⟨ys, rfl⟩ | ⟨r', k', g', o', n', rfl⟩
    all_goals
      have q1' : f < h.n + 2 := by omega
      have q2' : b < h.n + 2 := by omega
      have q3' : a < h.n + 2 := by omega
      have q4' : t < h.n + 2 := by omega
      simp [F3, n3, q1', q2', q3', q4', q1, q2, q3, q4, hwb, A3, T3, haf, htf, hft, hbf, hfb]
      refine ⟨hwb, ?_⟩
      have c4 := (c3.grow (m := 0)).putT (nn' := false)
      simp only [Option.getD_some, Option.isNone_some, Bool.false_and] at hK
      simp [resV, resP]
      first | exact hK _ _ _ c4 (WJ.ct (WJ.ce (WJ.app (WJ.new a6) (WJ.cn (by omega) (WJ.cn (by omega) (WJ.one w1)))))) | exact hK _ _ _ (c4.eqh (EqH.keepD (by simp [n3]))) (WJ.ct (WJ.ce (WJ.app (WJ.new a6) (WJ.cn (by omega) (WJ.cn (by omega) (WJ.one w1)))))) | done
end Go.Evl.Zone

namespace Go.Evl.Zone
open Go Go.Evl Go.Evl.Fl Ieee
variable {P : Program}
def xOf (s : Bool) (m : Nat) (e : Int) : Int := signed s m e.toNat
def kOf (e : Int) : Nat := (-e).toNat
def nOf (s : Bool) (m : Nat) (e : Int) : Int := signed s (m * 2 ^ e.toNat / 2 ^ (-e).toNat) 0
theorem ord_num {b u : Nat} {s : Bool} {m : Nat} {e : Int} {n : Int} (hb : double.read b = .number s m e) (hu : Is u n) : double.order b u = some (compare (xOf s m e) (n * 2 ^ kOf e)) := by
  obtain ⟨t, m', e', h1, h2, h3⟩ := hu.read
  unfold Format.order
  rw [hb, h1]
  show some (compare (signed s m (e - min e e').toNat) (signed t m' (e' - min e e').toNat)) = _
  obtain ⟨p, q, hpq⟩ : ∃ p q : Nat, (p : Int) - q = min e e' - min e 0 := ⟨(min e e' - min e 0).toNat, (-(min e e' - min e 0)).toNat, by omega⟩
  refine congrArg some (compare_scale (p := p) (q := q) ?_ ?_)
  · unfold xOf
    rw [signed_eq, signed_eq, Int.mul_assoc, Int.mul_assoc, Int.mul_assoc, Int.mul_assoc, ← Int.pow_add, ← Int.pow_add]
    rw [show (e - min e e').toNat + p = e.toNat + q by omega]
  · have := sg h2 h3 (base := min e e') (p := p) (q := q + kOf e) (by omega) (by unfold kOf; omega)
    rw [this, Int.mul_assoc, ← Int.pow_add, Nat.add_comm]
theorem cut_down (s : Bool) (n k : Nat) : Toward.zero.cut s n k = n / 2 ^ k := by
  unfold Toward.cut
  simp only [Nat.shiftLeft_eq, Nat.one_mul, Bool.toNat_false, Nat.add_zero]
  by_cases h : k ≤ n.log2 + 2
  · rw [Nat.min_eq_left h]
  · rw [Nat.min_eq_right (by omega)]
    have h1 : n < 2 ^ (n.log2 + 1) := Nat.lt_log2_self
    have h2 : n < 2 ^ (n.log2 + 2) := Nat.lt_of_lt_of_le h1 (Nat.pow_le_pow_right (by decide) (by omega))
    have h3 : n < 2 ^ k := Nat.lt_of_lt_of_le h1 (Nat.pow_le_pow_right (by decide) (by omega))
    rw [Nat.div_eq_of_lt h2, Nat.div_eq_of_lt h3]
theorem toInt_num {b : Nat} {s : Bool} {m : Nat} {e : Int} (hb : double.read b = .number s m e) : (FloatKind.f64.decode b).toInt .zero = some (nOf s m e) := by
  have hb' : FloatKind.f64.decode b = .number s m e := hb
  rw [hb']
  show some (signed s (Toward.zero.cut s (m <<< e.toNat) (-e).toNat) 0) = _
  rw [cut_down, Nat.shiftLeft_eq]
  rfl
theorem trunc_num {b : Nat} {s : Bool} {m : Nat} {e : Int} (hb : double.read b = .number s m e) (hn : (nOf s m e).natAbs < 2 ^ 53) : Is (FloatKind.f64.encode ((FloatKind.f64.decode b).integral .zero)) (nOf s m e) := by
  have hb' : FloatKind.f64.decode b = .number s m e := hb
  rw [hb']
  show Is (double.write (.number s (Toward.zero.cut s (m <<< e.toNat) (-e).toNat) 0)) (nOf s m e)
  rw [cut_down, Nat.shiftLeft_eq]
  have habs : (nOf s m e).natAbs = m * 2 ^ e.toNat / 2 ^ (-e).toNat := by
    unfold nOf
    rw [signed_eq]
    generalize m * 2 ^ e.toNat / 2 ^ (-e).toNat = c
    cases s <;> simp
  refine Is.mk (by unfold Mag; simp [habs]) hn fun h0 => ?_
  unfold nOf at h0 ⊢
  rw [signed_eq] at h0 ⊢
  clear habs hn
  generalize m * 2 ^ e.toNat / 2 ^ (-e).toNat = c at h0 ⊢
  cases s
  · simp
  · simp at h0 ⊢; omega
def rng (s : Bool) (m : Nat) (e : Int) : Bool := decide (-1000 * 2 ^ kOf e ≤ xOf s m e) && decide (xOf s m e ≤ 1000 * 2 ^ kOf e)
def wh (b : Nat) : Bool := match double.read b with
  | .number s m e => rng s m e && decide (xOf s m e = nOf s m e * 2 ^ kOf e)
  | _ => false
def gl (b : Nat) : Bool := match double.read b with
  | .number s m e => rng s m e
  | _ => false
theorem eq_is {b u : Nat} {s : Bool} {m : Nat} {e : Int} {n : Int} (hb : double.read b = .number s m e) (hu : Is u n) : (FloatKind.f64.format.order b u == some .eq) = decide (xOf s m e = n * 2 ^ kOf e) := by
  have o1 : FloatKind.f64.format.order b u = some (compare (xOf s m e) (n * 2 ^ kOf e)) := ord_num hb hu
  rw [o1]
  generalize xOf s m e = x
  generalize n * 2 ^ kOf e = y
  simp only [compare, compareOfLessAndEq]
  rcases Int.lt_trichotomy x y with h | h | h
  · have : ¬ x = y := by omega
    simp [h, this]
  · subst h; simp
  · have h0 : ¬ x < y := by omega
    have h1 : ¬ x = y := by omega
    simp [h0, h1]
end Go.Evl.Zone

namespace Go.Evl.Zone
open Go Go.Evl Go.Evl.Fl Ieee
variable {P : Program}
def geA (b u : Nat) : Bool := FloatKind.f64.format.order b u == some .gt || FloatKind.f64.format.order b u == some .eq
def leA (b u : Nat) : Bool := FloatKind.f64.format.order b u == some .lt || FloatKind.f64.format.order b u == some .eq
def rngA (lo hi : Int) (s : Bool) (m : Nat) (e : Int) : Bool := decide (lo * 2 ^ kOf e ≤ xOf s m e) && decide (xOf s m e ≤ hi * 2 ^ kOf e)
def glA (lo hi : Int) (b : Nat) : Bool := match double.read b with
  | .number s m e => rngA lo hi s m e
  | _ => false
def whA (lo hi : Int) (b : Nat) : Bool := match double.read b with
  | .number s m e => rngA lo hi s m e && decide (xOf s m e = nOf s m e * 2 ^ kOf e)
  | _ => false
theorem glA_is {u v : Nat} {lo hi : Int} (i1 : Is u lo) (i2 : Is v hi) (b : Nat) : (geA b u && leA b v) = glA lo hi b := by
  unfold geA leA glA
  cases hb : double.read b with
  | number s m e =>
    have o1 : FloatKind.f64.format.order b u = some (compare (xOf s m e) (lo * 2 ^ kOf e)) := ord_num hb i1
    have o2 : FloatKind.f64.format.order b v = some (compare (xOf s m e) (hi * 2 ^ kOf e)) := ord_num hb i2
    rw [o1, o2]
    simp only [rngA]
    generalize xOf s m e = x
    generalize lo * 2 ^ kOf e = y
    generalize hi * 2 ^ kOf e = z
    congr 1
    · simp only [compare, compareOfLessAndEq]
      rcases Int.lt_trichotomy x y with h | h | h
      · have : ¬ y ≤ x := by omega
        simp [h, this]
      · subst h; simp
      · have h0 : ¬ x < y := by omega
        have h1 : ¬ x = y := by omega
        have h2 : y ≤ x := by omega
        simp [h0, h1, h2]
    · simp only [compare, compareOfLessAndEq]
      rcases Int.lt_trichotomy x z with h | h | h
      · have : x ≤ z := by omega
        simp [h, this]
      · subst h; simp
      · have h0 : ¬ x < z := by omega
        have h1 : ¬ x = z := by omega
        have h2 : ¬ x ≤ z := by omega
        simp [h0, h1, h2]
  | infinity s =>
    obtain ⟨t1, m1, e1, h1, _⟩ := i1.read
    obtain ⟨t2, m2, e2, h2, _⟩ := i2.read
    have o1 : FloatKind.f64.format.order b u = some (if s then .lt else .gt) := by
      show double.order _ _ = _; unfold Format.order; rw [hb, h1]; rfl
    have o2 : FloatKind.f64.format.order b v = some (if s then .lt else .gt) := by
      show double.order _ _ = _; unfold Format.order; rw [hb, h2]; rfl
    rw [o1, o2]
    cases s <;> rfl
  | nan s t =>
    have o1 : FloatKind.f64.format.order b u = none := by
      show double.order _ _ = _; unfold Format.order; rw [hb]; rfl
    rw [o1]; rfl
theorem nOfA_small {lo hi : Int} {s : Bool} {m : Nat} {e : Int} (hlo : -2000000 ≤ lo) (hhi : hi ≤ 2000000) (h : rngA lo hi s m e = true) : -2000000 ≤ nOf s m e ∧ nOf s m e ≤ 2000000 := by
  simp only [rngA, Bool.and_eq_true, decide_eq_true_eq] at h
  have hx : xOf s m e = (if s then -1 else 1) * ((m * 2 ^ e.toNat : Nat) : Int) := by unfold xOf; rw [signed_eq]; simp
  have hn : nOf s m e = (if s then -1 else 1) * ((m * 2 ^ e.toNat / 2 ^ kOf e : Nat) : Int) := by
    unfold nOf kOf; rw [signed_eq, Int.pow_zero, Int.mul_one]
  have hk : (2 : Int) ^ kOf e = ((2 ^ kOf e : Nat) : Int) := by simp
  rw [hx, hk] at h
  rw [hn]
  have hp : 0 < 2 ^ kOf e := Nat.two_pow_pos _
  generalize m * 2 ^ e.toNat = M at h
  generalize 2 ^ kOf e = K at h hp
  have l1 : -2000000 * (K : Int) ≤ lo * K := Int.mul_le_mul_of_nonneg_right hlo (by omega)
  have l2 : hi * (K : Int) ≤ 2000000 * K := Int.mul_le_mul_of_nonneg_right hhi (by omega)
  have hM : M ≤ 2000000 * K := by
    cases s
    · rw [if_neg (by decide), Int.one_mul] at h; omega
    · rw [if_pos rfl] at h; omega
  have hd : M / K ≤ 2000000 := by
    calc M / K ≤ 2000000 * K / K := Nat.div_le_div_right hM
      _ = 2000000 := Nat.mul_div_cancel _ hp
  generalize M / K = c at hd
  cases s
  · rw [if_neg (by decide)]; omega
  · rw [if_pos rfl]; omega
theorem glA_num {lo hi : Int} {b : Nat} (h : glA lo hi b = true) : ∃ s m e, double.read b = .number s m e ∧ rngA lo hi s m e = true := by
  unfold glA at h
  split at h
  · rename_i s m e hb; exact ⟨s, m, e, hb, h⟩
  · cases h
theorem whA_of_gl {lo hi : Int} {b : Nat} (h : glA lo hi b = false) : whA lo hi b = false := by
  unfold glA at h
  unfold whA
  cases hb : double.read b with
  | number s m e => rw [hb] at h; simp only at h; simp [h]
  | infinity s => rfl
  | nan s t => rfl
theorem wholeToA {b u v : Nat} {lo hi : Int} (i1 : Is u lo) (i2 : Is v hi) (hlo : -2000000 ≤ lo) (hhi : hi ≤ 2000000) : ans (env P) 173 [.val (.float .f64 b), .val (.float .f64 u), .val (.float .f64 v)] = some (.val (.bool (whA lo hi b))) := by
  refine ans_V rfl rfl ?_
  have g1 : ∀ {t : TypeId} {cx cy : Bool}, evBin P .geq t cx cy (.val (.float .f64 b)) (.val (.float .f64 u)) = some (.val (.bool (geA b u))) := evBin_fgeq
  have g2 : ∀ {t : TypeId} {cx cy : Bool}, evBin P .leq t cx cy (.val (.float .f64 b)) (.val (.float .f64 v)) = some (.val (.bool (leA b v))) := evBin_fleq
  have hgl := glA_is i1 i2 b
  cases h1 : geA b u with
  | false =>
    rw [h1] at g1 hgl
    have hw : whA lo hi b = false := whA_of_gl (by rw [← hgl]; rfl)
    simp [c173, g1, hw]
  | true =>
    rw [h1] at g1 hgl
    cases h2 : leA b v with
    | false =>
      rw [h2] at g2 hgl
      have hw : whA lo hi b = false := whA_of_gl (by rw [← hgl]; rfl)
      simp [c173, g1, g2, hw]
    | true =>
      rw [h2] at g2 hgl
      obtain ⟨s, m, e, hb, hr⟩ := glA_num (b := b) hgl.symm
      have hs := nOfA_small hlo hhi hr
      have hu := trunc_num hb (by have : (2 : Nat) ^ 53 = 9007199254740992 := by decide
                                  omega)
      have hq := eq_is hb hu
      have hw : whA lo hi b = decide (xOf s m e = nOf s m e * 2 ^ kOf e) := by unfold whA; rw [hb]; simp [hr]
      have ht : ans (env P) 190 [.val (.float .f64 b)] = some (.val (.float .f64 (FloatKind.f64.encode ((FloatKind.f64.decode b).integral .zero)))) := by
        refine ans_V rfl rfl ?_
        have hp : ∀ H, pTrunc [.val (.float .f64 b)] H = some ⟨.val (.float .f64 (FloatKind.f64.encode ((FloatKind.f64.decode b).integral .zero))), H, [], some []⟩ := by
          intro H
          have hb' : FloatKind.f64.decode b = .number s m e := hb
          unfold pTrunc
          simp only [hb']
        simp [c190, VA_prim (E := env P) (g := 200) (p := pTrunc) rfl, hp]
      have hqq : ∀ {t : TypeId} {cx cy : Bool}, evBin P .eql t cx cy (.val (.float .f64 b)) (.val (.float .f64 (FloatKind.f64.encode ((FloatKind.f64.decode b).integral .zero)))) = some (.val (.bool (whA lo hi b))) := by
        intro t cx cy
        rw [evBin_feql, hq, hw]
      simp [c173, g1, g2, ht, hqq]
theorem whA_int {lo hi : Int} {b : Nat} (hlo : -2000000 ≤ lo) (hhi : hi ≤ 2000000) (h : whA lo hi b = true) : ∃ n : Int, (FloatKind.f64.decode b).toInt .zero = some n ∧ lo ≤ n ∧ n ≤ hi := by
  unfold whA at h
  split at h
  · rename_i s m e hb
    simp only [Bool.and_eq_true, decide_eq_true_eq, rngA] at h
    refine ⟨nOf s m e, toInt_num hb, ?_⟩
    obtain ⟨⟨h1, h2⟩, h3⟩ := h
    rw [h3] at h1 h2
    have hp : (0 : Int) < 2 ^ kOf e := pow_pos_int _
    exact ⟨Int.le_of_mul_le_mul_right h1 hp, Int.le_of_mul_le_mul_right h2 hp⟩
  · cases h
theorem wholeA {a b : Nat} : ans (env P) 152 [.val (.complex .f64 a b)] = some (.val (.bool (whA (-1000) 1000 a && whA (-1000) 1000 b))) := by
  refine ans_V rfl rfl ?_
  have h1 := wholeToA (P := P) (b := a) isM1000 is1000 (by decide) (by decide)
  have h2 := wholeToA (P := P) (b := b) isM1000 is1000 (by decide) (by decide)
  cases h : whA (-1000) 1000 a <;> rw [h] at h1 <;> simp [c152, h1, h2, h]
end Go.Evl.Zone

namespace Go.Evl.Zone
open Go Go.Evl Go.Evl.Fl
variable {P : Program}
def e0 (b : Nat) : Bool := FloatKind.f64.format.order b 0 == some .eq
def rightA (op : Int) (re im sz : Nat) : Bool :=
  if op = 2 then whA (-1000) 1000 re && whA (-1000) 1000 im && whA 0 2000 sz
  else if op = 3 then whA (-1000) 1000 re && whA (-1000) 1000 im && whA (-2000000) 2000000 sz
  else if op = 1 ∨ op = 4 ∨ op = 5 ∨ op = 6 then e0 re && e0 im && e0 sz
  else false
theorem right_anyA {op : Int} {re im sz : Nat} : ans (env P) 133 [stepV op re im sz] = some (.val (.bool (rightA op re im sz))) := by
  refine ans_V rfl rfl ?_
  have hw := wholeA (P := P) (a := re) (b := im)
  have h0 : ∀ {t : TypeId} {cx cy : Bool}, evBin P .eql t cx cy (.val (.complex .f64 re im)) (.val (.complex .f64 0 0)) = some (.val (.bool (e0 re && e0 im))) := evBin_ceql
  have hs0 : ∀ {t : TypeId} {cx cy : Bool}, evBin P .eql t cx cy (.val (.float .f64 sz)) (.val (.float .f64 0)) = some (.val (.bool (e0 sz))) := evBin_feql
  have w2 := wholeToA (P := P) (b := sz) is0 is2000 (by decide) (by decide)
  have w3 := wholeToA (P := P) (b := sz) isM2M is2M (by decide) (by decide)
  by_cases h2 : op = 2
  · subst h2
    cases hn : (whA (-1000) 1000 re && whA (-1000) 1000 im) <;> rw [hn] at hw <;> simp [c133, stepV, hw, hn, w2, rightA]
  · by_cases h3 : op = 3
    · subst h3
      cases hn : (whA (-1000) 1000 re && whA (-1000) 1000 im) <;> rw [hn] at hw <;> simp [c133, stepV, hw, hn, w3, rightA]
    · by_cases h1 : op = 1
      · subst h1
        cases hn : (e0 re && e0 im) <;> simp [c133, stepV, h0, hs0, hn, rightA]
      · by_cases h4 : op = 4
        · subst h4
          cases hn : (e0 re && e0 im) <;> simp [c133, stepV, h0, hs0, hn, rightA]
        · by_cases h5 : op = 5
          · subst h5
            cases hn : (e0 re && e0 im) <;> simp [c133, stepV, h0, hs0, hn, rightA]
          · by_cases h6 : op = 6
            · subst h6
              cases hn : (e0 re && e0 im) <;> simp [c133, stepV, h0, hs0, hn, rightA]
            · simp [c133, stepV, h1, h2, h3, h4, h5, h6, rightA]
end Go.Evl.Zone

namespace Go.Evl.Zone
open Go Go.Evl Go.Evl.Fl
variable {P : Program}
def SI.rightA (q : SI) : Bool := Zone.rightA q.op q.re q.im q.sz
def foldA : List SI → Int → Option Int
  | [], n => some n
  | q :: l, n => if q.rightA = false ∨ n < needsN q.op then none else foldA l (n + (1 - needsN q.op))
theorem loop14A {L : List SI} {ks : List Fr'} {K : Ex → St → Prop} (hL : L.length ≤ 32) : ∀ (rest : List SI) (i : Nat) (n : Int) (st : St), L.drop i = rest → 0 ≤ n ∧ n ≤ i → st.σ 9 = .im (stepsV L) false → st.σ 10 = .val (.int .i64 L.length) → st.σ 11 = .val (.int .i64 i) → st.σ 3 = .val (.int .i64 n) →
    (∀ st', foldA rest n = none → st'.σ 2 = .val (.bool false) → K .ret st') → (∀ st' m, foldA rest n = some m → st'.σ 3 = .val (.int .i64 m) → VN (env P) 74 st' ks K) → V (env P) 74 (.loop L74_0) st (.blk 0 :: ks) K
  | [], i, n, st, hr, hn, h9, h10, h11, h3, hret, hend => by
    have hi : L.length ≤ i := by
      have := congrArg List.length hr; simp at this; omega
    have hlt : ¬ i < L.length := by omega
    rw [V_loop]
    simp [L74_0, h10, h11, hlt]
    refine hend _ n rfl ?_
    simp [h3]
  | q :: rest, i, n, st, hr, hn, h9, h10, h11, h3, hret, hend => by
    have hq : L[i]? = some q := by
      have : (L.drop i)[0]? = some q := by rw [hr]; rfl
      simpa using this
    have hlt : i < L.length := (List.getElem?_eq_some_iff.1 hq).1
    have hr' : L.drop (i + 1) = rest := by rw [← List.drop_drop, hr]; rfl
    have hc : ∀ h, (stepsV L)[i]'h = q.cells := fun h => (List.getElem?_eq_some_iff.1 (stepsV_get hq)).2
    have hri := right_anyA (P := P) (op := q.op) (re := q.re) (im := q.im) (sz := q.sz)
    have hne := needs_ans (P := P) (op := q.op) (re := q.re) (im := q.im) (sz := q.sz)
    rw [stepV] at hri hne
    have hb := needsN_le q.op
    have hw : IntKind.i64.wrap (1 - needsN q.op) = 1 - needsN q.op := wrap64_id (by omega)
    have hw2 : IntKind.i64.wrap (n + (1 - needsN q.op)) = n + (1 - needsN q.op) := wrap64_id (by omega)
    have hw3 : IntKind.i64.wrap ((i : Int) + 1) = ((i + 1 : Nat) : Int) := by rw [wrap64_id (by omega)]; rfl
    rw [V_loop]
    cases hqr : q.rightA with
    | false =>
      have hqr' : rightA q.op q.re q.im q.sz = false := hqr
      simp [L74_0, h9, h10, h11, h3, hlt, hc, SI.cells, hri, hqr']
      refine hret _ (by simp [foldA, hqr]) ?_
      simp
    | true =>
      have hqr' : rightA q.op q.re q.im q.sz = true := hqr
      by_cases hnn : n < needsN q.op
      · simp [L74_0, h9, h10, h11, h3, hlt, hc, SI.cells, hri, hqr', hne, hnn]
        refine hret _ (by simp [foldA, hnn]) ?_
        simp
      · simp [L74_0, h9, h10, h11, h3, hlt, hc, SI.cells, hri, hqr', hne, hnn, hw, hw2, hw3]
        refine loop14A hL rest (i + 1) (n + (1 - needsN q.op)) _ hr' (by omega) ?_ ?_ ?_ ?_ ?_ ?_
        · simp [h9]
        · simp [h10]
        · simp
        · simp
        · intro st' hf hs; exact hret st' (by simp [foldA, hqr, hnn, hf]) hs
        · intro st' m hf hs; exact hend st' m (by simp [foldA, hqr, hnn, hf]) hs
def zoneRightA (l : List SI) : Bool := decide (l.length ≤ 32) && decide (foldA l 0 = some 1)
theorem zoneRight_anyA {l : List SI} : ans (env P) 74 [.im (stepsV l) false] = some (.val (.bool (zoneRightA l))) := by
  refine ans_V rfl rfl ?_
  by_cases h : l.length ≤ 32
  · have h' : ¬ ((32 : Int) < (l.length : Int)) := by omega
    simp [c74, h']
    refine loop14A h l 0 0 _ rfl (by omega) ?_ ?_ ?_ ?_ ?_ ?_
    · simp
    · simp
    · simp
    · simp
    · intro st' hf hs; simp [hs, zoneRightA, hf]
    · intro st' m hf hs
      simp [hs, zoneRightA, hf, h]
  · have h' : (32 : Int) < (l.length : Int) := by omega
    simp [c74, h', zoneRightA, h]
def SI.okT (q : SI) : Prop := q.op = 2 ∨ q.op = 3 → (FloatKind.f64.decode q.re).toInt .zero = some q.x ∧ (FloatKind.f64.decode q.im).toInt .zero = some q.y ∧ (FloatKind.f64.decode q.sz).toInt .zero = some q.s
theorem number_int (T : Typed P) {b : Nat} {n : Int} (h : (FloatKind.f64.decode b).toInt .zero = some n) (hn : n.natAbs < 1000000000) : ans (env P) 95 [.val (.float .f64 b)] = some (sv (Lib.itoa n)) := by
  refine ans_V rfl rfl ?_
  have c1 : scal P (Go.convert 165 3 (.float .f64 b)) = some (.val (.int .i64 n)) := cv_fi (by rw [T.t41]; rfl) T.t3 h (by show -9223372036854775808 ≤ n ∧ n ≤ 9223372036854775807; omega)
  have c2 : ∀ H, pItoa [.val (.int .i64 n)] H = some ⟨sv (Lib.itoa n), H, [], some []⟩ := by
    intro H
    rw [← itoaL_lib (by omega) (by omega)]
    simp only [pItoa]
    rw [if_pos (by omega)]; rfl
  simp [c95, c1, VA_prim (E := env P) (g := 150) (p := pItoa) rfl, c2]
set_option maxHeartbeats 4000000 in
theorem loop25A (T : Typed P) {L : List SI} (hok : ∀ q ∈ L, q.okT) (hri : ∀ q ∈ L, q.right = true) {ks : List Fr'} {K : Ex → St → Prop} (hL : L.length ≤ 32) : ∀ (rest : List SI) (i : Nat) (st : St) (v : PV), L.drop i = rest → i ≤ L.length → st.σ 10 = .im (stepsV L) false → st.σ 11 = .val (.int .i64 L.length) → st.σ 12 = .val (.int .i64 i) → st.σ 3 = v → Lst st.h 1 v (svs ((L.take i).map fun q => textR q.rs)) →
    (∀ st' v, st'.σ 3 = v → Lst st'.h 1 v (svs (L.map fun q => textR q.rs)) → VN (env P) 39 st' ks K) → V (env P) 39 (.loop L39_0) st (.blk 0 :: ks) K
  | [], i, st, v, hr, hi, h10, h11, h12, h3, hl, hend => by
    obtain ⟨_, hlt, ht⟩ := drop_nil hr hi
    rw [ht] at hl
    rw [V_loop]
    simp [L39_0, h10, h11, h12, hlt]
    exact hend _ v (by simp [h3]) (by simpa using hl.grow)
  | q :: rest, i, st, v, hr, hi, h10, h11, h12, h3, hl, hend => by
    obtain ⟨hq, hlt, hr', ht⟩ := drop_cons hr
    have hc : ∀ h, (stepsV L)[i]'h = q.cells := fun h => (List.getElem?_eq_some_iff.1 (stepsV_get hq)).2
    have hm := List.mem_of_getElem? hq
    have hqt := hok q hm
    have hb := right_okB (hri q hm)
    obtain ⟨b1, b2, bx, bY, bs⟩ := hb
    simp only [SI.rs] at b1 b2 bx bY bs
    have hw3 := wrapS (i := i) (by omega)
    have hN : ans (env P) 93 [] = some (.im (svs namesL) false) := names_ans
    have hn : ∀ h, (svs namesL)[q.op.toNat]'h = [sv (nameOf q.op)] := fun h => svs_at (names_at ⟨b1, b2⟩) h
    have n123 : q.op = 2 ∨ q.op = 3 → ans (env P) 95 [.val (.float .f64 q.re)] = some (sv (Lib.itoa q.x)) ∧ ans (env P) 95 [.val (.float .f64 q.im)] = some (sv (Lib.itoa q.y)) ∧ ans (env P) 95 [.val (.float .f64 q.sz)] = some (sv (Lib.itoa q.s)) := fun o =>
      ⟨number_int T (hqt o).1 bx, number_int T (hqt o).2.1 bY, number_int T (hqt o).2.2 bs⟩
    have g0 : 0 ≤ q.op := by omega
    have g7 : q.op < 7 := by omega
    have gl : namesL.length = 7 := rfl
    have hj : ∀ H, pJoin [.im [[sv (nameOf q.op)], [sv (Lib.itoa q.x)], [sv (Lib.itoa q.y)], [sv (Lib.itoa q.s)]] true, .val (.string ⟨#[32]⟩)] H = some ⟨sv (joinL [32] [nameOf q.op, Lib.itoa q.x, Lib.itoa q.y, Lib.itoa q.s]), H, [], some []⟩ := by
      intro H
      refine pJoin_ok (by intro x h; cases h) ?_ (by simp) ?_
      · rfl
      · refine Nat.le_trans (joinL_len (m := 10) _ ?_) (by simp)
        intro x hx
        have h1 := itoa_len bx
        have h2 := itoa_len bY
        have h3 := itoa_len bs
        have h4 := name_len q.op
        simp at hx
        rcases hx with rfl | rfl | rfl | rfl <;> omega
    generalize hA : joinL [32] [nameOf q.op, Lib.itoa q.x, Lib.itoa q.y, Lib.itoa q.s] = A at hj
    have hJP := fun {dst : Option Nat} {rest : List CI} {i slot slot' : Nat} {log : Log} {d : Option (Nat × List (Nat × Nat))} {K : Ex → St → Prop} {st : St} {ks : List Fr'} {xs : List O} => VA_prim (E := env P) (f := 39) (g := 94) (p := pJoin) (dst := dst) (rest := rest) (i := i) (slot := slot) (slot' := slot') (log := log) (d := d) (K := K) (st := st) (ks := ks) (xs := xs) rfl
    rw [V_loop]
    have hS : ∀ C D : List SI, svs ((C ++ D).map fun q => textR q.rs) = svs (C.map fun q => textR q.rs) ++ svs (D.map fun q => textR q.rs) := fun C D => by simp [svs]
    by_cases o : q.op = 2 ∨ q.op = 3
    · obtain ⟨n1, n2, n3⟩ := n123 o
      have hx : textR q.rs = A := by rw [← hA]; simp [textR, SI.rs, o]
      have fin : ∀ (w : List UInt8), w = A → svs [w] = [[sv w]] := fun w _ => rfl
      obtain ⟨op, x, y, s, re, im, sz⟩ := q
      simp only at o b1 b2 bx bY bs hn n1 n2 n3 g0 g7 hj
      have hn' : (∀ h, (svs namesL)[2]'h = [sv (nameOf 2)]) ∧ (∀ h, (svs namesL)[3]'h = [sv (nameOf 3)]) := ⟨fun h => svs_at rfl h, fun h => svs_at rfl h⟩
      obtain ⟨hn2, hn3⟩ := hn'
      clear hn
      rcases o with o | o <;> subst o
      · simp [L39_0, h10, h11, h12, h3, hlt, hc, SI.cells, hN, hn2, gl, n1, n2, n3, hJP, hj, chunks, elems, allLen]
        refine VP_app (ys := svs ((L.take i).map fun q => textR q.rs)) (by repeat (first | exact hl | refine Lst.grow ?_ | refine Lst.putN ?_ (by simp))) (by simp) (by simp) rfl (by simp; unfold most; omega) fun v' H' wr rd e2 e3 _ => ?_
        simp [h10, h11, h12, hw3, e3]
        refine loop25A T hok hri hL rest (i + 1) _ v' hr' (by omega) ?_ ?_ ?_ ?_ ?_ hend
        · simp [h10]
        · simp [h11]
        · simp
        · simp
        · rw [ht, hS]
          simp only [List.map_cons, List.map_nil, hx]
          exact e2.grow
      · simp [L39_0, h10, h11, h12, h3, hlt, hc, SI.cells, hN, hn3, gl, n1, n2, n3, hJP, hj, chunks, elems, allLen]
        refine VP_app (ys := svs ((L.take i).map fun q => textR q.rs)) (by repeat (first | exact hl | refine Lst.grow ?_ | refine Lst.putN ?_ (by simp))) (by simp) (by simp) rfl (by simp; unfold most; omega) fun v' H' wr rd e2 e3 _ => ?_
        simp [h10, h11, h12, hw3, e3]
        refine loop25A T hok hri hL rest (i + 1) _ v' hr' (by omega) ?_ ?_ ?_ ?_ ?_ hend
        · simp [h10]
        · simp [h11]
        · simp
        · simp
        · rw [ht, hS]
          simp only [List.map_cons, List.map_nil, hx]
          exact e2.grow
    · have hx : textR q.rs = nameOf q.op := by simp [textR, SI.rs, o]
      obtain ⟨o2, o3⟩ := not_or.1 o
      simp [L39_0, h10, h11, h12, h3, hlt, hc, SI.cells, hN, hn, g0, g7, gl, o2, o3, chunks, elems, allLen]
      refine VP_app (ys := svs ((L.take i).map fun q => textR q.rs)) (by repeat (first | exact hl | refine Lst.grow ?_ | refine Lst.putN ?_ (by simp))) (by simp) (by simp) rfl (by simp; unfold most; omega) fun v' H' wr rd e2 e3 _ => ?_
      simp [h10, h11, h12, hw3, e3]
      refine loop25A T hok hri hL rest (i + 1) _ v' hr' (by omega) ?_ ?_ ?_ ?_ ?_ hend
      · simp [h10]
      · simp [h11]
      · simp
      · simp
      · rw [ht, hS]
        simp only [List.map_cons, List.map_nil, hx]
        exact e2.grow
end Go.Evl.Zone

namespace Go.Evl.Zone
open Go Go.Evl Go.Evl.Fl
variable {P : Program}
theorem ints_of {q : SI} (h : q.rightA = true) : ∃ p : SI, p.cells = q.cells ∧ p.op = q.op ∧ p.okT ∧ p.right = true := by
  obtain ⟨op, x, y, s, re, im, sz⟩ := q
  have h : rightA op re im sz = true := h
  unfold rightA at h
  split at h
  · rename_i h2
    simp only [Bool.and_eq_true] at h
    obtain ⟨a, a1, a2, a3⟩ := whA_int (by decide) (by decide) h.1.1
    obtain ⟨b, b1, b2, b3⟩ := whA_int (by decide) (by decide) h.1.2
    obtain ⟨c, c1, c2, ccenotaph_cenotaphlaw05_ZoneHas_⟩ := whA_int (by decide) (by decide) h.2
    refine ⟨⟨op, a, b, c, re, im, sz⟩, rfl, rfl, fun _ => ⟨a1, b1, c1⟩, ?_⟩
    show rightB op a b c = true
    unfold rightB near
    rw [if_pos h2]
    simp
    omega
  · split at h
    · rename_i h2 h3
      simp only [Bool.and_eq_true] at h
      obtain ⟨a, a1, a2, a3⟩ := whA_int (by decide) (by decide) h.1.1
      obtain ⟨b, b1, b2, b3⟩ := whA_int (by decide) (by decide) h.1.2
      obtain ⟨c, c1, c2, ccenotaph_cenotaphlaw05_ZoneHas_⟩ := whA_int (by decide) (by decide) h.2
      refine ⟨⟨op, a, b, c, re, im, sz⟩, rfl, rfl, fun _ => ⟨a1, b1, c1⟩, ?_⟩
      show rightB op a b c = true
      unfold rightB near
      rw [if_neg h2, if_pos h3]
      simp
      omega
    · split at h
      · rename_i h2 h3 h4
        refine ⟨⟨op, 0, 0, 0, re, im, sz⟩, rfl, rfl, fun o => ?_, ?_⟩
        · have o : op = 2 ∨ op = 3 := o
          omega
        · show rightB op 0 0 0 = true
          unfold rightB
          rw [if_neg h2, if_neg h3, if_pos h4]
          rfl
      · cases h
theorem ints_list : ∀ (L : List SI) (n m : Int), foldA L n = some m → ∃ L' : List SI, L'.length = L.length ∧ stepsV L' = stepsV L ∧ (∀ q ∈ L', q.okT ∧ q.right = true) ∧ foldR L' n = some m
  | [], n, m, h => ⟨[], rfl, rfl, by simp, h⟩
  | q :: L, n, m, h => by
    rw [foldA] at h
    split at h
    · cases h
    · rename_i hno
      simp only [not_or, Bool.not_eq_false] at hno
      obtain ⟨p, p1, p2, p3, p4⟩ := ints_of hno.1
      obtain ⟨L', l1, l2, l3, l4⟩ := ints_list L _ m h
      refine ⟨p :: L', by simp [l1], ?_, ?_, ?_⟩
      · simp only [stepsV, List.map_cons] at l2 ⊢
        rw [p1, l2]
      · intro r hr
        rcases List.mem_cons.1 hr with rfl | hr
        · exact ⟨p3, p4⟩
        · exact l3 r hr
      · rw [foldR, p2, if_neg (by simp [p4, hno.2]), l4]
theorem foldR_rs : ∀ (L : List SI) (n : Int), foldR (toSI (L.map SI.rs)) n = foldR L n
  | [], n => rfl
  | q :: L, n => by
    show (if q.right = false ∨ n < needsN q.op then none else foldR (toSI (L.map SI.rs)) (n + (1 - needsN q.op))) = (if q.right = false ∨ n < needsN q.op then none else foldR L (n + (1 - needsN q.op)))
    rw [foldR_rs L]
theorem text_any (T : Typed P) (L : List SI) : ∃ W : List UInt8, ans (env P) 39 [.im (stepsV L) false] = some (sv W) ∧ (W = [] ∨ ∃ l : List RS, zoneRight (toSI l) = true ∧ W = textL l) := by
  have hr := zoneRight_anyA (P := P) (l := L)
  cases hz : zoneRightA L
  · rw [hz] at hr
    refine ⟨[], ans_V rfl rfl ?_, .inl rfl⟩
    simp [c39, hr]
  · rw [hz] at hr
    have hz' := hz
    unfold zoneRightA at hz'
    simp only [Bool.and_eq_true, decide_eq_true_eq] at hz'
    obtain ⟨L', l1, l2, l3, l4⟩ := ints_list L 0 1 hz'.2
    rw [← l2] at hr ⊢
    have hl : L'.length ≤ 32 := by omega
    refine ⟨textL (L'.map SI.rs), ?_, .inr ⟨L'.map SI.rs, ?_, rfl⟩⟩
    · have hJP := fun {dst : Option Nat} {rest : List CI} {i slot slot' : Nat} {log : Log} {d : Option (Nat × List (Nat × Nat))} {K : Ex → St → Prop} {st : St} {ks : List Fr'} {xs : List O} => VA_prim (E := env P) (f := 39) (g := 94) (p := pJoin) (dst := dst) (rest := rest) (i := i) (slot := slot) (slot' := slot') (log := log) (d := d) (K := K) (st := st) (ks := ks) (xs := xs) rfl
      refine ans_V rfl rfl ?_
      simp [c39, hr]
      refine loop25A T (fun q hq => (l3 q hq).1) (fun q hq => (l3 q hq).2) hl L' 0 _ _ rfl (by omega) (by simp) (by simp) (by simp) rfl ?_ ?_
      · simp; exact Lst.nil
      · intro st' v h3 hl'
        obtain ⟨is, he⟩ := (hl'.grow (m := 0)).elems
        have hv : ∀ x, v ≠ .val x := by intro x h; cases hl' with
          | im hv _ => rw [hv] at h; cases h
          | row _ _ hv => rw [hv] at h; cases h
        have hj := pJoin_ok (c := 44) hv he (by simp; omega) (by
          refine Nat.le_trans (joinL_len (m := 44) _ ?_) (by simp; omega)
          intro x hx
          simp at hx
          obtain ⟨q, hq, rfl⟩ := hx
          exact text_len (right_okB (l3 q hq).2))
        have hT : joinL [44] (L'.map fun q => textR q.rs) = textL (L'.map SI.rs) := by rw [textL, List.map_map]; rfl
        rw [hT] at hj
        simp [h3, hJP, hj]
    · unfold zoneRight
      rw [foldR_rs, l4]
      simp [toSI, hl]
end Go.Evl.Zone

namespace Go.Evl.Zone
open Go Go.Evl Go.Evl.Fl
variable {P : Program}
theorem pAtoi_any {a : List UInt8} (h : a.length ≤ 100000) : ∃ (z : Int) (e : PV), (e = .val .nilIface ∨ e = .ifc) ∧ ∀ H, pAtoi [sv a] H = some ⟨.tup [.val (.int .i64 z), e], H, [], some []⟩ := by
  have hsz : (⟨a.toArray⟩ : ByteArray).size ≤ 281474976710656 := by show a.length ≤ _; omega
  cases hx : Lib.atoiAll a with
  | ok v => exact ⟨v, .val .nilIface, .inl rfl, fun H => by unfold pAtoi; simp only; rw [if_pos hsz, hx]⟩
  | range => exact ⟨Lib.atoiSat a, .ifc, .inr rfl, fun H => by unfold pAtoi; simp only; rw [if_pos hsz, hx]⟩
  | _ => exact ⟨0, .ifc, .inr rfl, fun H => by unfold pAtoi; simp only; rw [if_pos hsz, hx]⟩
set_option maxHeartbeats 8000000 in
theorem parsed_any (T : Typed P) {w : List UInt8} (hlen : w.length ≤ 100000) (hmem : ∀ x ∈ splitL 32 w, x.length ≤ 100000) : ∃ q : SI, ans (env P) 155 [sv w] = some (.agg q.cells) := by
  obtain ⟨W, wt, hws⟩ : ∃ W wt, splitL 32 w = W :: wt := by
    cases h : splitL 32 w with
    | nil => exact absurd h (splitL_ne 32 w)
    | cons a b => exact ⟨a, b, rfl⟩
  have hS := pSplit_ok (c := 32) (l := w) (by omega)
  rw [hws] at hS hmem
  have hN : ans (env P) 93 [] = some (.im (svs namesL) false) := names_ans
  have hI := index_ans (P := P) (L := namesL) (w := W) (by decide)
  generalize idxFrom W namesL 0 = o at hI
  have c1 : ∀ n, scal P (Go.convert 3 165 (.int .i64 n)) = some (.val (.float .f64 (FloatKind.f64.nearest n))) := fun n => cv_if (by rw [T.t3]; rfl) T.t41
  have p37 := fun {dst : Option Nat} {rest : List CI} {i slot slot' : Nat} {log : Log} {d : Option (Nat × List (Nat × Nat))} {K : Ex → St → Prop} {st : St} {ks : List Fr'} {xs : List O} => VA_prim (E := env P) (f := 155) (g := 154) (p := pSplit) (dst := dst) (rest := rest) (i := i) (slot := slot) (slot' := slot') (log := log) (d := d) (K := K) (st := st) (ks := ks) (xs := xs) rfl
  have p50 := fun {dst : Option Nat} {rest : List CI} {i slot slot' : Nat} {log : Log} {d : Option (Nat × List (Nat × Nat))} {K : Ex → St → Prop} {st : St} {ks : List Fr'} {xs : List O} => VA_prim (E := env P) (f := 155) (g := 184) (p := pAtoi) (dst := dst) (rest := rest) (i := i) (slot := slot) (slot' := slot') (log := log) (d := d) (K := K) (st := st) (ks := ks) (xs := xs) rfl
  have nq : evNil true true (.val .nilIface) (.val .nilIface) = some (.val (.bool false)) := rfl
  have nq2 : evNil true true .ifc (.val .nilIface) = some (.val (.bool true)) := rfl
  have w1 : IntKind.i64.wrap (1 : Int) = 1 := wrap64_id (by omega)
  have w2 : IntKind.i64.wrap (2 : Int) = 2 := wrap64_id (by omega)
  have w3 : IntKind.i64.wrap (3 : Int) = 3 := wrap64_id (by omega)
  have hw0 : svs (W :: wt) = [sv W] :: svs wt := rfl
  rw [hw0] at hS
  by_cases hn : ∃ a b c, wt = [a, b, c]
  · obtain ⟨a, b, c, rfl⟩ := hn
    have sv3 : svs [a, b, c] = [[sv a], [sv b], [sv c]] := rfl
    rw [sv3] at hS
    obtain ⟨x, ex, hx, a1⟩ := pAtoi_any (a := a) (hmem a (by simp))
    obtain ⟨y, ey, hy, a2⟩ := pAtoi_any (a := b) (hmem b (by simp))
    obtain ⟨z, ez, hz, a3⟩ := pAtoi_any (a := c) (hmem c (by simp))
    rcases hx with rfl | rfl
    · rcases hy with rfl | rfl
      · rcases hz with rfl | rfl
        · refine ⟨⟨o, 0, 0, 0, FloatKind.f64.nearest x, FloatKind.f64.nearest y, FloatKind.f64.nearest z⟩, ans_V rfl rfl ?_⟩
          simp [c155, p37, hS, hN, hI, allLen]
          rw [V_loop]
          simp [L155_0, p50, a1, c1, nq, allLen, w1, w2, w3]
          rw [V_loop]
          simp [L155_0, p50, a2, c1, nq, allLen, w1, w2, w3]
          rw [V_loop]
          simp [L155_0, p50, a3, c1, nq, allLen, w1, w2, w3]
          rw [V_loop]
          simp [L155_0, SI.cells]
        · refine ⟨⟨0, 0, 0, 0, 0, 0, 0⟩, ans_V rfl rfl ?_⟩
          simp [c155, p37, hS, hN, hI, allLen]
          rw [V_loop]
          simp [L155_0, p50, a1, c1, nq, allLen, w1, w2, w3]
          rw [V_loop]
          simp [L155_0, p50, a2, c1, nq, allLen, w1, w2, w3]
          rw [V_loop]
          simp [L155_0, p50, a3, c1, nq2, allLen, w1, w2, w3, SI.cells]
      · refine ⟨⟨0, 0, 0, 0, 0, 0, 0⟩, ans_V rfl rfl ?_⟩
        simp [c155, p37, hS, hN, hI, allLen]
        rw [V_loop]
        simp [L155_0, p50, a1, c1, nq, allLen, w1, w2, w3]
        rw [V_loop]
        simp [L155_0, p50, a2, c1, nq2, allLen, w1, w2, w3, SI.cells]
    · refine ⟨⟨0, 0, 0, 0, 0, 0, 0⟩, ans_V rfl rfl ?_⟩
      simp [c155, p37, hS, hN, hI, allLen]
      rw [V_loop]
      simp [L155_0, p50, a1, c1, nq2, allLen, w1, w2, w3, SI.cells]
  · have hln : ¬ ((wt.length : Int) + 1 = 4) := by
      intro e
      have : wt.length = 3 := by omega
      match wt, this with
      | [a, b, c], _ => exact hn ⟨a, b, c, rfl⟩
    refine ⟨⟨o, 0, 0, 0, 0, 0, 0⟩, ans_V rfl rfl ?_⟩
    simp [c155, p37, hS, hN, hI, SI.cells, allLen, hln]
end Go.Evl.Zone

namespace Go.Evl.Zone
open Go Go.Evl Go.Evl.Fl
variable {P : Program}
theorem parse_W (T : Typed P) {L : List (List UInt8 × SI)} (hp : ∀ p ∈ L, ans (env P) 155 [sv p.1] = some (.agg p.2.cells)) {s W : List UInt8} (hT : ans (env P) 39 [.im (stepsV (stp L)) false] = some (sv W)) (hs : splitL 44 s = L.map Prod.fst) (hlen : s.length < 4294967281) (hL : L.length ≤ most) (hno : ¬ (W = s ∧ s ≠ [])) :
    ans (env P) 107 [sv s] = some (.tup [.im [] false, .val (.bool false)]) := by
  have p37 := fun {dst : Option Nat} {rest : List CI} {i slot slot' : Nat} {log : Log} {d : Option (Nat × List (Nat × Nat))} {K : Ex → St → Prop} {st : St} {ks : List Fr'} {xs : List O} => VA_prim (E := env P) (f := 107) (g := 154) (p := pSplit) (dst := dst) (rest := rest) (i := i) (slot := slot) (slot' := slot') (log := log) (d := d) (K := K) (st := st) (ks := ks) (xs := xs) rfl
  have hS := pSplit_ok (c := 44) hlen
  rw [hs] at hS
  refine ans_V rfl rfl ?_
  simp [c107, p37, hS]
  refine loop23 hp hL L 0 _ _ rfl (by omega) (by simp) (by simp) (by simp) rfl (by simp; exact Lst.nil) ?_
  intro st' v h0 h4 hl
  simp at h0
  have hl0 := hl.grow (m := 0)
  obtain ⟨is, he⟩ := expAs_lst hl0 (plainss_si _)
  have n1 := fun t cx cy => evBin_sneq (P := P) (t := t) (cx := cx) (cy := cy) W s
  have n2 : ∀ (t : TypeId) (cx cy : Bool), evBin P .eql t cx cy (sv s) (.val (.string ⟨#[]⟩)) = some (.val (.bool (decide (s = [])))) := fun t cx cy => evBin_seql (P := P) (t := t) (cx := cx) (cy := cy) s []
  by_cases hw : W = s
  · subst hw
    have h : W = [] := by
      apply Classical.byContradiction
      intro h; exact hno ⟨rfl, h⟩
    have n1' : ∀ (t : TypeId) (cx cy : Bool), evBin P .neq t cx cy (sv W) (sv W) = some (.val (.bool false)) := fun t cx cy => by rw [n1]; simp
    have n2' : ∀ (t : TypeId) (cx cy : Bool), evBin P .eql t cx cy (sv W) (.val (.string ⟨#[]⟩)) = some (.val (.bool true)) := fun t cx cy => by rw [n2]; simp [h]
    simp [-expA, expA_bool, expA_im, he, hT, n1', n2', h4, h0, resV_two]
  · have n1' : ∀ (t : TypeId) (cx cy : Bool), evBin P .neq t cx cy (sv W) (sv s) = some (.val (.bool true)) := fun t cx cy => by rw [n1]; simp [hw]
    simp [-expA, expA_bool, expA_im, he, hT, n1', n2, hw, h4, h0, resV_two]
theorem pairs_of (T : Typed P) : ∀ (ws : List (List UInt8)), (∀ w ∈ ws, w.length ≤ 2000) → ∃ L : List (List UInt8 × SI), ws = L.map Prod.fst ∧ ∀ p ∈ L, ans (env P) 155 [sv p.1] = some (.agg p.2.cells)
  | [], _ => ⟨[], rfl, by simp⟩
  | w :: ws, h => by
    have hw := h w (by simp)
    obtain ⟨q, hq⟩ := parsed_any (P := P) T (w := w) (by omega) (fun x hx => by have := splitL_mem w x hx; omega)
    obtain ⟨L, e1, e2⟩ := pairs_of T ws fun x hx => h x (by simp [hx])
    refine ⟨(w, q) :: L, by simp [e1], ?_⟩
    intro p hp
    rcases List.mem_cons.1 hp with rfl | hp
    · exact hq
    · exact e2 p hp
theorem parse_none (T : Typed P) {s : List UInt8} (hs : s.length ≤ 2000) (hno : ∀ l : List RS, zoneRight (toSI l) = true → s ≠ textL l) : ans (env P) 107 [sv s] = some (.tup [.im [] false, .val (.bool false)]) := by
  obtain ⟨L, e1, e2⟩ := pairs_of T (splitL 44 s) (fun w hw => by have := splitL_mem s w hw; omega)
  obtain ⟨W, hW, hc⟩ := text_any (P := P) T (stp L)
  have hlen := splitL_len (c := 44) s
  rw [e1] at hlen
  simp at hlen
  refine parse_W T e2 hW e1 (by omega) (by unfold most; omega) ?_
  rintro ⟨rfl, h0⟩
  rcases hc with rfl | ⟨l, h1, h2⟩
  · exact h0 rfl
  · exact hno l h1 h2
end Go.Evl.Zone

namespace Go.Evl.Zone
open Go Go.Evl
variable {P : Program}
theorem pparse_ans (T : Typed P) {s : Bytes} (hs : s.length ≤ 2000) : ans (env P) 107 [sv s] = some (match refParse s with | some z => .tup [.im (stepsV (toSI z)) false, bv true] | none => .tup [.im [] false, bv false]) := by
  cases h : refParse s with
  | none =>
    refine parse_none T hs fun l hz he => ?_
    rw [he, refParse_text hz] at h
    cases h
  | some z =>
    obtain ⟨hz, rfl⟩ := refParse_inv h
    have := back_ans T (l := z)
    rw [if_pos hz, if_pos hz] at this
    exact this
theorem rItems_bad {q : Src} (h : q.bad ≠ 0) : rItems q = (some [], q) := by
  have : rNum 32 q = (0, q) := by simp [rNum, h]
  unfold rItems
  rw [this]
  rfl
theorem cLoop_i : ∀ (n : Nat) (L : List Item) (q : Src), (cLoop stepI n L q false).2.2 = (rILoop n q).1.isNone ∧ (cLoop stepI n L q false).2.1 = (rILoop n q).2 ∧ ((rILoop n q).2.bad = 0 → ∀ l, (rILoop n q).1 = some l → (cLoop stepI n L q false).1 = L ++ l)
  | 0, L, q => by simp [cLoop, rILoop]
  | n + 1, L, q => by
    by_cases h : q.bad = 0
    · have e1 : cLoop stepI (n + 1) L q false = cLoop stepI n (stepI L q).1 (stepI L q).2.1 (stepI L q).2.2 := by
        simp only [cLoop]
        rw [if_neg (by simp [h])]
      rw [e1]
      have e2 : rILoop (n + 1) q = (match rItem q with | (none, r) => if r.bad = 0 then (none, r) else (some [], r) | (some a, r) => match rILoop n r with | (some l, r) => (some (a :: l), r) | (none, r) => (none, r)) := by
        simp only [rILoop]
        rw [if_neg (by simp [h])]
        rfl
      rw [e2]
      have es : stepI L q = (L ++ [((rItem q).1).getD item0], (rItem q).2, (rItem q).1.isNone && decide ((rItem q).2.bad = 0)) := rfl
      rw [es]
      cases hx : rItem q with
      | mk o r =>
        cases o with
        | none =>
          simp only [Option.getD_none, Option.isNone_none, Bool.true_and]
          by_cases hb : r.bad = 0
          · simp only [hb, decide_true, if_true]
            have : cLoop stepI n (L ++ [item0]) r true = (L ++ [item0], r, true) := by cases n <;> simp [cLoop]
            rw [this]
            simp
          · simp only [hb, decide_false, if_false]
            have : cLoop stepI n (L ++ [item0]) r false = (L ++ [item0], r, false) := by cases n <;> simp [cLoop, hb]
            rw [this]
            simp [hb]
        | some a =>
          simp only [Option.getD_some, Option.isNone_some, Bool.false_and]
          obtain ⟨i1, i2, i3⟩ := cLoop_i n (L ++ [a]) r
          rw [i1, i2]
          cases hy : rILoop n r with
          | mk o2 r2 =>
            rw [hy] at i3
            cases o2 with
            | none => simp
            | some l2 =>
              simp only [Option.some.injEq, Option.isNone_some]
              refine ⟨trivial, trivial, fun hb l hl => ?_⟩
              rw [i3 hb l2 rfl, ← hl]
              simp
    · simp only [cLoop, rILoop]
      rw [if_pos (by simp [h]), if_pos (by simpa using h)]
      simp [h]
structure GTk (H : Heap) (t r f a b : Nat) (v : PV) (B : Bytes) (q : Src) (nn : Bool) (cs : List PV) (h : Heap) : Prop where
  tk : TkS h t r v B q nn
  y : BeyW (fun i => i = r ∨ i = f ∨ i = t) H h
  F : h.at_ f = .box cs
  A : h.at_ a = .box [.ptr t 0]
  D : h.at_ b = .box [.ptr f 0]
  an : a < h.n
  bn : b < h.n
  fn : f < h.n
  ft : f ≠ t
  fr : f ≠ r
  ar : a ≠ r
  af : a ≠ f
  at' : a ≠ t
  br : b ≠ r
  bf : b ≠ f
  bt : b ≠ t
  ab : a ≠ b
section
variable {H S h h' : Heap} {t r f a b k i : Nat} {v : PV} {B : Bytes} {q q' : Src} {nn nn' : Bool} {cs cs' : List PV} {m : Nat} {cells : PV → List PV} {ys : List (List PV)}
theorem GTk.grow (c : GTk H t r f a b v B q nn cs h) : GTk H t r f a b v B q nn cs (h.grow m) := by
  have h1 := c.an
  have h2 := c.bn
  have h3 := c.fn
  have h4 := c.y.n
  refine ⟨c.tk.grow, ⟨by simp; omega, fun i hi hw => ?_⟩, by simp [h3, c.F], by simp [h1, c.A], by simp [h2, c.D], by simp; omega, by simp; omega, by simp; omega, c.ft, c.fr, c.ar, c.af, c.at', c.br, c.bf, c.bt, c.ab⟩
  simp only [at_grow]
  rw [if_pos (by omega), c.y.at_ i hi hw]
theorem GTk.oth (c : GTk H t r f a b v B q nn cs h) (o : Oth h r h') (s : RdS h' r v B q') : GTk H t r f a b v B q' nn cs h' := by
  refine ⟨c.tk.oth o s, ⟨by rw [o.n]; exact c.y.n, fun i hi hw => ?_⟩, by rw [o.at_ f c.fn c.fr, c.F], by rw [o.at_ a c.an c.ar, c.A], by rw [o.at_ b c.bn c.br, c.D], by rw [o.n]; exact c.an, by rw [o.n]; exact c.bn, by rw [o.n]; exact c.fn, c.ft, c.fr, c.ar, c.af, c.at', c.br, c.bf, c.bt, c.ab⟩
  rw [o.at_ i (Nat.lt_of_lt_of_le hi c.y.n) (fun q => hw (.inl q)), c.y.at_ i hi hw]
theorem GTk.base (c : GTk H t r f a b v B q nn cs h) : GTk h t r f a b v B q nn cs h := ⟨c.tk, ⟨Nat.le_refl _, fun _ _ _ => rfl⟩, c.F, c.A, c.D, c.an, c.bn, c.fn, c.ft, c.fr, c.ar, c.af, c.at', c.br, c.bf, c.bt, c.ab⟩
theorem GTk.boxes (c : GTk H t r f a b v B q nn cs h) : ∀ i, i = r ∨ i = f ∨ i = t → ∃ cs, h.at_ i = .box cs := by
  obtain ⟨a0, _, _, hb⟩ := c.tk.S.at_
  rintro i (rfl | rfl | rfl)
  · exact ⟨_, hb⟩
  · exact ⟨_, c.F⟩
  · exact ⟨_, c.tk.T⟩
theorem GTk.putf (hv : Bf H v B) (hb : ∀ i, i = r ∨ i = f ∨ i = t → ∃ cs, H.at_ i = .box cs) (c : GTk H t r f a b v B q nn cs h) : GTk H t r f a b v B q nn cs' (h.put f (.box cs')) := by
  obtain ⟨a0, x1, x2, x3⟩ := c.tk.S.at_
  have y2 : BeyW (fun i => i = r ∨ i = f ∨ i = t) H (h.put f (.box cs')) := ⟨by simpa using c.y.n, fun i hi hw => by
    simp only [at_put]
    rw [if_neg (fun q => hw (.inr (.inl q))), c.y.at_ i hi hw]⟩
  exact ⟨⟨⟨by simpa using c.tk.S.hr, hv.w y2 hb, a0, x1, x2, by simp [Ne.symm c.fr, x3]⟩, by simp [Ne.symm c.ft, c.tk.T], by simpa using c.tk.tn, c.tk.ne⟩, y2, by simp, by simp [c.af, c.A], by simp [c.bf, c.D], by simpa using c.an, by simpa using c.bn, by simpa using c.fn, c.ft, c.fr, c.ar, c.af, c.at', c.br, c.bf, c.bt, c.ab⟩
theorem GTk.putt (hv : Bf H v B) (hb : ∀ i, i = r ∨ i = f ∨ i = t → ∃ cs, H.at_ i = .box cs) (c : GTk H t r f a b v B q nn cs h) : GTk H t r f a b v B q nn' cs (h.put t (.box [.ptr r 0, bv nn'])) := by
  obtain ⟨a0, x1, x2, x3⟩ := c.tk.S.at_
  have y2 : BeyW (fun i => i = r ∨ i = f ∨ i = t) H (h.put t (.box [.ptr r 0, bv nn'])) := ⟨by simpa using c.y.n, fun i hi hw => by
    simp only [at_put]
    rw [if_neg (fun q => hw (.inr (.inr q))), c.y.at_ i hi hw]⟩
  exact ⟨⟨⟨by simpa using c.tk.S.hr, hv.w y2 hb, a0, x1, x2, by simp [Ne.symm c.tk.ne, x3]⟩, by simp, by simpa using c.tk.tn, c.tk.ne⟩, y2, by simp [c.ft, c.F], by simp [c.at', c.A], by simp [c.bt, c.D], by simpa using c.an, by simpa using c.bn, by simpa using c.fn, c.ft, c.fr, c.ar, c.af, c.at', c.br, c.bf, c.bt, c.ab⟩
theorem BeyW.trans {W : Nat → Prop} (a : BeyW W H S) (b : BeyW W S h) : BeyW W H h := ⟨Nat.le_trans a.n b.n, fun i hi hw => by rw [b.at_ i (Nat.lt_of_lt_of_le hi a.n) hw, a.at_ i hi hw]⟩
theorem GTk.toAI (c : GTk H t r f a b v B q nn (cells (.im [] true)) h) : AI h t r v B a [.ptr t 0] f k cells 0 [] q nn h :=
  ⟨c.tk, ⟨Nat.le_refl _, fun _ _ _ => rfl⟩, c.A, c.an, ⟨_, c.F, LN.nil⟩, c.fn, c.fn, by simp, c.ft, c.fr, c.ar, c.af, c.at', c.tk.S.hr, c.tk.tn, c.tk.S.b, c.boxes⟩
theorem GTk.ofAI (c : GTk H t r f a b v B q nn cs S) (d : AI S t r v B a [.ptr t 0] f k cells i ys q' nn' h) : ∃ x, GTk S t r f a b v B q' nn' (cells x) h ∧ LN S.n h k x ys := by
  obtain ⟨x, e1, e2⟩ := d.E
  have hb := d.other c.bn ⟨c.br, c.bf, c.bt⟩
  exact ⟨x, ⟨d.tk, d.y, e1, d.A, by rw [hb.1, c.D], d.an, hb.2, d.en, c.ft, c.fr, c.ar, c.af, c.at', c.br, c.bf, c.bt, c.ab⟩, e2⟩
end
end Go.Evl.Zone

namespace Go.Evl.Zone
open Go Go.Evl
variable {P : Program}
theorem ex_of {α : Sort _} {p : α → Prop} {x : α} (h : p x) : ∃ y, y = x ∧ p y := ⟨x, rfl, h⟩
theorem WI.toWJ {H : Heap} {r e t j : Nat} (h : WI H r e j) : WJ H r e t j := by
  rcases h with (h | h) | h
  · exact .inl (.inl h)
  · exact .inl (.inr (.inl h))
  · exact .inr h
theorem WJ.mono {H S : Heap} {r e t j : Nat} (n : H.n ≤ S.n) (h : WJ S r e t j) : WJ H r e t j := h.imp id (Nat.le_trans n)
theorem GTk.eqh {H h h' : Heap} {t r f a b : Nat} {v : PV} {B : Bytes} {q : Src} {nn : Bool} {cs : List PV} (c : GTk H t r f a b v B q nn cs h) (E : EqH h h') : GTk H t r f a b v B q nn cs h' :=
  ⟨⟨c.tk.S.eqh E, by rw [E.at_ t c.tk.tn, c.tk.T], by rw [E.n]; exact c.tk.tn, c.tk.ne⟩, ⟨by rw [E.n]; exact c.y.n, fun i hi hw => by rw [E.at_ i (Nat.lt_of_lt_of_le hi c.y.n), c.y.at_ i hi hw]⟩, by rw [E.at_ f c.fn, c.F], by rw [E.at_ a c.an, c.A], by rw [E.at_ b c.bn, c.D], by rw [E.n]; exact c.an, by rw [E.n]; exact c.bn, by rw [E.n]; exact c.fn, c.ft, c.fr, c.ar, c.af, c.at', c.br, c.bf, c.bt, c.ab⟩
theorem BeyW.eqh {W : Nat → Prop} {H h h' : Heap} (c : BeyW W H h) (E : EqH h h') : BeyW W H h' := ⟨by rw [E.n]; exact c.n, fun i hi hw => by rw [E.at_ i (Nat.lt_of_lt_of_le hi c.n), c.at_ i hi hw]⟩
set_option maxHeartbeats 6400000 in
theorem tlists_KC (T : TT P) {H : Heap} {t r f : Nat} {v : PV} {B : Bytes} {q : Src} {kind : Int} {c1 c2 c11 : PV} {K : PV → Heap → List Nat → Prop}
    (tk : TkS H t r v B q false) (hF : H.at_ f = .box [iv kind, c1, c2, .im [] true, iv 0, .im [] true, .im [] true, .im [] true, .im [] true, .im [] true, bv false, c11]) (fn : f < H.n) (ft : f ≠ t) (fr : f ≠ r)
    (hK : ∀ w H' wl q' nn x3 x5 x7 x8 x9 hd z l wh, nn = (rLists kind q).1.isNone → (nn = false → q' = (rLists kind q).2) → TkS H' t r v B q' nn → H'.at_ f = .box [iv kind, c1, c2, x3, iv hd.2.1, x5, lv hd.2.2.2.1, x7, x8, x9, bv wh, c11] → f < H'.n →
      LN H.n H' 3 x3 (En hd.1) → LN H.n H' 1 x5 (En hd.2.2.1) → LN H.n H' 2 x7 (En hd.2.2.2.2) → (∃ b, x8 = .im (stepsV (toSI z)) b) → LN H.n H' 8 x9 (EnP l) → (nn = false → q'.bad = 0 → (rLists kind q).1 = some (hd, z, l, wh)) → BeyW (fun i => i = r ∨ i = f ∨ i = t) H H' → (∀ j ∈ wl, WJ H r f t j) → K w H' wl) : KC (env P) 46 [.ptr t 0, .ptr f 0] H K := by
  have hr := tk.S.hr
  have ht := tk.tn
  obtain ⟨a0, x1, x2, x3⟩ := tk.S.at_
  refine KC_of (cf := c46) rfl rfl ?_
  simp [c46]
  obtain ⟨Hc, hHc⟩ : ∃ Hc, Hc = (((H.grow 2).put H.n (.box [.ptr t 0])).put (H.n + 1) (.box [.ptr f 0])).grow 0 := ⟨_, rfl⟩
  rw [← hHc]
  have hcn : Hc.n = H.n + 2 := by rw [hHc]; simp
  have hHc0 : H.n ≤ Hc.n := by omega
  have hlo : ∀ i, i < H.n → Hc.at_ i = H.at_ i := fun i hi => by
    rw [hHc]
    have e1 : i ≠ H.n := by omega
    have e2 : i ≠ H.n + 1 := by omega
    have e3 : i < H.n + 2 := by omega
    simp [e1, e2, e3, hi]
  have hg : Gr H Hc := ⟨by omega, hlo⟩
  obtain ⟨a, ha⟩ : ∃ a, a = H.n := ⟨_, rfl⟩
  obtain ⟨b, hb⟩ : ∃ b, b = H.n + 1 := ⟨_, rfl⟩
  have hA : Hc.at_ a = .box [.ptr t 0] := by rw [hHc, ha]; simp
  have hD : Hc.at_ b = .box [.ptr f 0] := by rw [hHc, hb]; simp
  have hvc : Bf Hc v B := ⟨tk.S.b.l.ext hg, tk.S.b.m⟩
  have g0 : GTk Hc t r f a b v B q false [iv kind, c1, c2, .im [] true, iv 0, .im [] true, .im [] true, .im [] true, .im [] true, .im [] true, bv false, c11] Hc :=
    ⟨⟨⟨by omega, hvc, a0, x1, x2, by rw [hlo r hr, x3]⟩, by rw [hlo t ht, tk.T], by omega, tk.ne⟩, ⟨Nat.le_refl _, fun _ _ _ => rfl⟩, by rw [hlo f fn, hF], hA, hD, by omega, by omega, by omega, ft, fr, by omega, by omega, by omega, by omega, by omega, by omega, by omega⟩
  have Y0 : ∀ {h}, BeyW (fun i => i = r ∨ i = f ∨ i = t) Hc h → BeyW (fun i => i = r ∨ i = f ∨ i = t) H h := fun y => ⟨by have := y.n; omega, fun i hi hw => by rw [y.at_ i (by omega) hw, hlo i hi]⟩
  simp only [← ha]
  have hab : a + 1 = b := by omega
  simp only [hab]
  refine VA_keep (g := 100) (caps := []) rfl rfl ?_
  try simp
  refine count_KC T (B := B) (v := v) (r := r) (mo := 64) (fun (L : List KRow) q => (L ++ [(rKRow q).1], (rKRow q).2, false)) (fun i L q nn h => nn = false ∧ AI Hc t r v B a [.ptr t 0] f 3 (fun x => [iv kind, c1, c2, x, iv 0, .im [] true, .im [] true, .im [] true, .im [] true, .im [] true, bv false, c11]) i (En L) q nn h) (WJ Hc r f t)
    (fun i a q nn h c => c.2.tk) (fun i a q nn h m c => ⟨c.1, c.2.grow⟩) (fun i a q nn h h' q' c o s => ⟨c.1, c.2.oth o s⟩) (fun i a q nn h h' c e => ⟨c.1, c.2.eqh e⟩) rfl (.inl (.inl rfl))
    (fun i L q h K' c hi hb hK' => lists1_KC (nn := false) T c.2 g0.D g0.bn ⟨g0.br, g0.bf, g0.bt⟩ hi fun w h' wl c' w' => hK' w h' wl ⟨rfl, c'⟩ fun j hj => WI.toWJ (w' j hj)) (by omega) (a := []) (q := q) (nn := false) ⟨rfl, GTk.toAI (cells := fun x => [iv kind, c1, c2, x, iv 0, .im [] true, .im [] true, .im [] true, .im [] true, .im [] true, bv false, c11]) g0⟩ fun w1 h1 wl1 i1 hI1 hw1 => ?_
  rw [cLoop_r] at hI1
  obtain ⟨_, hI1⟩ := hI1
  simp only [List.nil_append] at hI1
  obtain ⟨x3, g1, l3⟩ := g0.ofAI hI1
  obtain ⟨kn, hkn⟩ : ∃ kn, kn = (rKnow q).1 := ⟨_, rfl⟩
  obtain ⟨q1, hq1⟩ : ∃ q1, q1 = (rKnow q).2 := ⟨_, rfl⟩
  have l3 : LN Hc.n h1 3 x3 (En kn) := by rw [hkn]; exact l3
  have g1 : GTk Hc t r f a b v B q1 false [iv kind, c1, c2, x3, iv 0, .im [] true, .im [] true, .im [] true, .im [] true, .im [] true, bv false, c11] h1 := by rw [hq1]; exact g1
  have A1 := g1.A
  have D1 := g1.D
  have an1 := g1.an
  have bn1 := g1.bn
  simp [A1, D1, an1, bn1]
  have e1 := g1.base
  refine VA_inl (g := 102) (caps := []) rfl rfl ?_
  try simp
  have e1g := (e1.grow (m := 0))
  refine tnum_IC T e1g.tk fun H2 wl2 s2 o2 w2 => ?_
  have e2' := e1g.oth o2 s2
  have F2 := e2'.F
  have fn2 := e2'.fn
  have hw2b : ∀ i ∈ wl2, ¬ i = b := fun i q z => g1.br (z.symm.trans (w2 i q))
  simp [F2, fn2, hw2b]
  try refine ⟨hw2b, ?_⟩
  obtain ⟨ck, hck⟩ : ∃ ck, ck = ((rNum 1048576 q1).1 : Int) := ⟨_, rfl⟩
  obtain ⟨q2, hq2⟩ : ∃ q2, q2 = (rNum 1048576 q1).2 := ⟨_, rfl⟩
  rw [← hq2] at e2'
  simp only [← hck]
  have e2 := (e2'.putf (cs' := [iv kind, c1, c2, x3, iv ck, .im [] true, .im [] true, .im [] true, .im [] true, .im [] true, bv false, c11]) g1.tk.S.b g1.boxes).grow (m := 0)
  have A2 := e2'.A
  have D2 := e2'.D
  have an2 := e2'.an
  have bn2 := e2'.bn
  have haf := g1.af
  have hbf := g1.bf
  try simp [A2, D2, an2, bn2, haf, hbf]
  obtain ⟨S2, hS2⟩ : ∃ S2, S2 = (H2.put f (.box [iv kind, c1, c2, x3, iv ck, .im [] true, .im [] true, .im [] true, .im [] true, .im [] true, bv false, c11])).grow 0 := ⟨_, rfl⟩
  rw [← hS2] at e2
  have b2 := e2.base
  rw [← hS2]
  have nS2 : H.n ≤ S2.n := by have := e2.y.n; have := g1.y.n; omega
  refine ⟨⟨by rw [o2.n]; simp, hw2b⟩, ?_⟩
  refine VA_keep (g := 100) (caps := []) rfl rfl ?_
  try simp
  refine count_KC T (B := B) (v := v) (r := r) (mo := 64) (fun (L : List Bytes) q => (L ++ [(rText 6 q).1], (rText 6 q).2, false)) (fun i L q nn h => nn = false ∧ AI S2 t r v B a [.ptr t 0] f 1 (fun x => [iv kind, c1, c2, x3, iv ck, x, .im [] true, .im [] true, .im [] true, .im [] true, bv false, c11]) i (En L) q nn h) (WJ S2 r f t)
    (fun i a q nn h c => c.2.tk) (fun i a q nn h m c => ⟨c.1, c.2.grow⟩) (fun i a q nn h h' q' c o s => ⟨c.1, c.2.oth o s⟩) (fun i a q nn h h' c e => ⟨c.1, c.2.eqh e⟩) rfl (.inl (.inl rfl))
    (fun i L q h K' c hi hb hK' => lists2_KC (nn := false) T c.2 b2.D b2.bn ⟨b2.br, b2.bf, b2.bt⟩ hi fun w h' wl c' w' => hK' w h' wl ⟨rfl, c'⟩ fun j hj => WI.toWJ (w' j hj)) (by omega) (a := []) (q := q2) (nn := false) ⟨rfl, GTk.toAI (cells := fun x => [iv kind, c1, c2, x3, iv ck, x, .im [] true, .im [] true, .im [] true, .im [] true, bv false, c11]) b2⟩ fun w3 h3 wl3 i3 hI3 hw3 => ?_
  rw [cLoop_r] at hI3
  obtain ⟨_, hI3⟩ := hI3
  simp only [List.nil_append] at hI3
  obtain ⟨x5, d3, l5⟩ := b2.ofAI hI3
  obtain ⟨mb, hmb⟩ : ∃ mb, mb = (rMem q2).1 := ⟨_, rfl⟩
  obtain ⟨q3, hq3⟩ : ∃ q3, q3 = (rMem q2).2 := ⟨_, rfl⟩
  have l5 : LN S2.n h3 1 x5 (En mb) := by rw [hmb]; exact l5
  have d3 : GTk S2 t r f a b v B q3 false [iv kind, c1, c2, x3, iv ck, x5, .im [] true, .im [] true, .im [] true, .im [] true, bv false, c11] h3 := by rw [hq3]; exact d3
  have A3 := d3.A
  have D3 := d3.D
  have an3 := d3.an
  have bn3 := d3.bn
  simp [A3, D3, an3, bn3]
  have e3 := d3.base
  refine VA_inl (g := 45) (caps := []) rfl rfl ?_
  try simp
  have e3g := (e3.grow (m := 0))
  refine tvec_IC T e3g.tk fun H4 wl4 s4 o4 w4 => ?_
  have e4' := e3g.oth o4 s4
  have F4 := e4'.F
  have fn4 := e4'.fn
  have hw4b : ∀ i ∈ wl4, ¬ i = b := fun i q z => g1.br (z.symm.trans (w4 i q))
  simp [F4, fn4, hw4b]
  try refine ⟨hw4b, ?_⟩
  obtain ⟨ce, hce⟩ : ∃ ce, ce = (rVec q3).1 := ⟨_, rfl⟩
  obtain ⟨q4, hq4⟩ : ∃ q4, q4 = (rVec q3).2 := ⟨_, rfl⟩
  rw [← hq4] at e4'
  simp only [← hce]
  have e4 := (e4'.putf (cs' := [iv kind, c1, c2, x3, iv ck, x5, lv ce, .im [] true, .im [] true, .im [] true, bv false, c11]) d3.tk.S.b d3.boxes).grow (m := 0)
  have A4 := e4'.A
  have D4 := e4'.D
  have an4 := e4'.an
  have bn4 := e4'.bn
  try simp [A4, D4, an4, bn4, haf, hbf]
  obtain ⟨S4, hS4⟩ : ∃ S4, S4 = (H4.put f (.box [iv kind, c1, c2, x3, iv ck, x5, lv ce, .im [] true, .im [] true, .im [] true, bv false, c11])).grow 0 := ⟨_, rfl⟩
  rw [← hS4] at e4
  have b4 := e4.base
  rw [← hS4]
  have nS4 : H.n ≤ S4.n := by have := e4.y.n; have := d3.y.n; omega
  refine ⟨⟨by rw [o4.n]; simp, hw4b⟩, ?_⟩
  refine VA_keep (g := 100) (caps := []) rfl rfl ?_
  try simp
  refine count_KC T (B := B) (v := v) (r := r) (mo := 64) (fun (L : List MRow) q => (L ++ [(rMRow q).1], (rMRow q).2, false)) (fun i L q nn h => nn = false ∧ AI S4 t r v B a [.ptr t 0] f 2 (fun x => [iv kind, c1, c2, x3, iv ck, x5, lv ce, x, .im [] true, .im [] true, bv false, c11]) i (En L) q nn h) (WJ S4 r f t)
    (fun i a q nn h c => c.2.tk) (fun i a q nn h m c => ⟨c.1, c.2.grow⟩) (fun i a q nn h h' q' c o s => ⟨c.1, c.2.oth o s⟩) (fun i a q nn h h' c e => ⟨c.1, c.2.eqh e⟩) rfl (.inl (.inl rfl))
    (fun i L q h K' c hi hb hK' => lists3_KC (nn := false) T c.2 b4.D b4.bn ⟨b4.br, b4.bf, b4.bt⟩ hi fun w h' wl c' w' => hK' w h' wl ⟨rfl, c'⟩ fun j hj => WI.toWJ (w' j hj)) (by omega) (a := []) (q := q4) (nn := false) ⟨rfl, GTk.toAI (cells := fun x => [iv kind, c1, c2, x3, iv ck, x5, lv ce, x, .im [] true, .im [] true, bv false, c11]) b4⟩ fun w5 h5 wl5 i5 hI5 hw5 => ?_
  rw [cLoop_r] at hI5
  obtain ⟨_, hI5⟩ := hI5
  simp only [List.nil_append] at hI5
  obtain ⟨x7, d5, l7⟩ := b4.ofAI hI5
  obtain ⟨ro, hro⟩ : ∃ ro, ro = (rRows q4).1 := ⟨_, rfl⟩
  obtain ⟨q5, hq5⟩ : ∃ q5, q5 = (rRows q4).2 := ⟨_, rfl⟩
  have l7 : LN S4.n h5 2 x7 (En ro) := by rw [hro]; exact l7
  have d5 : GTk S4 t r f a b v B q5 false [iv kind, c1, c2, x3, iv ck, x5, lv ce, x7, .im [] true, .im [] true, bv false, c11] h5 := by rw [hq5]; exact d5
  have A5 := d5.A
  have D5 := d5.D
  have F5 := d5.F
  have T5 := d5.tk.T
  have tn5 := d5.tk.tn
  have fn5 := d5.fn
  have an5 := d5.an
  have bn5 := d5.bn
  have e5 := d5.base
  have hq5' : (rHead q).2 = q5 := by rw [hq5, hq4, hq3, hq2, hq1]; rfl
  have hhd : (rHead q).1 = (kn, ck, mb, ce, ro) := by rw [hkn, hck, hmb, hce, hro, hq4, hq3, hq2, hq1]; rfl
  have u5 : ∀ j ∈ wl5, WJ H r f t j := fun j hj => WJ.mono nS4 (hw5 j hj)
  have u3 : ∀ j ∈ wl3, WJ H r f t j := fun j hj => WJ.mono nS2 (hw3 j hj)
  have u1 : ∀ j ∈ wl1, WJ H r f t j := fun j hj => WJ.mono hHc0 (hw1 j hj)
  have y35 := e4.y.trans d5.y
  have y15 := (e2.y.trans d3.y).trans y35
  have m3' := (l3.w y15 g1.boxes).mono hHc0
  have m5' := (l5.w y35 d3.boxes).mono nS2
  have m7' := l7.mono nS4
  have Y5 := Y0 (g1.y.trans y15)
  by_cases hk : kind = 1
  · have hk2 : ¬ kind = 2 := by omega
    simp [A5, D5, F5, fn5, an5, bn5, T5, tn5, hk]
    refine VA_inl (g := 99) (caps := []) rfl rfl ?_
    try simp [T5, tn5]
    refine wtext_IC (m := 2000) T (e5.grow (m := 0)).tk.S (by omega) fun Ht wlt st ot wt => ?_
    have et' := (e5.grow (m := 0)).oth ot st
    obtain ⟨s, hs1⟩ : ∃ s, s = (rText 2000 q5).1 := ⟨_, rfl⟩
    obtain ⟨q6, hq6⟩ : ∃ q6, q6 = (rText 2000 q5).2 := ⟨_, rfl⟩
    have hsl : s.length ≤ 2000 := by rw [hs1]; exact rText_len
    have hp := pparse_ans T.ty hsl
    rw [← hq6] at et'
    rw [← hs1]
    have At := et'.A
    have Dt := et'.D
    have Ft := et'.F
    have Tt := et'.tk.T
    have ant := et'.an
    have bnt := et'.bn
    have fnt := et'.fn
    have tnt := et'.tk.tn
    have htf : ¬ t = f := fun q => g1.ft q.symm
    have hta : ¬ t = a := fun q => g1.at' q.symm
    have htb : ¬ t = b := fun q => g1.bt q.symm
    have hft := g1.ft
    have hat := g1.at'
    have hbt := g1.bt
    have hzz : rLists kind q = (match (if q6.bad ≠ 0 then (some [], q6) else (refParse s, q6)) with | (none, r) => (none, r) | (some z, r) => match rItems r with | (none, r) => (none, r) | (some l, r) => (some ((rHead q).1, z, l, if kind = 2 then decide ((rNum 1 r).1 = 1) else false), if kind = 2 then (rNum 1 r).2 else r)) := by
      simp only [rLists, if_pos hk, hq5']
      rw [hs1, hq6]
      unfold rZone
      by_cases hb : (rText 2000 q5).2.bad = 0
      · rw [if_neg (by simpa using hb)]
        cases refParse (rText 2000 q5).1 with
        | none => rfl
        | some z =>
          simp only
          cases rItems (rText 2000 q5).2 with
          | mk o2 r2 => cases o2 <;> rfl
      · rw [if_pos (by simpa using hb)]
        simp only
        cases rItems (rText 2000 q5).2 with
        | mk o2 r2 => cases o2 <;> rfl
    have hw : ∀ j ∈ wlt, WJ H r f t j := WJ.one wt
    cases hz : refParse s with
    | none =>
      rw [hz] at hp
      simp only at hp
      simp [hp, At, Dt, Ft, Tt, ant, bnt, fnt, tnt, haf, hbf, htf, hft, hat, hbt, hta, htb]
      have ef := (((et'.grow (m := 0)).putf (cs' := [iv kind, c1, c2, x3, iv ck, x5, lv ce, x7, .im [] false, .im [] true, bv false, c11]) d5.tk.S.b d5.boxes).grow (m := 0))
      refine VA_inl (g := 43) (caps := []) rfl rfl ?_
      try simp
      refine werr_IC T ef.tk.S ?_
      by_cases hb6 : q6.bad = 0
      · have hr1 : (rLists kind q).1 = none := by
          rw [hzz, if_neg (by simpa using hb6), hz]
        have eg := (ef.putt (nn' := true) d5.tk.S.b d5.boxes)
        simp [hb6, hp, At, Dt, Ft, Tt, ant, bnt, fnt, tnt, haf, hbf, htf, hft, hat, hbt, hta, htb]
        refine VA_inl (g := 108) (caps := []) rfl rfl ?_
        try simp
        refine tover_IC T (eg.grow (m := 0)).tk ?_
        simp [hb6, resV, resP]
        have hp2 : ∀ hh, EqH _ hh → ∀ ww wl, (∀ j ∈ wl, WJ H r f t j) → K ww hh wl := fun hh E ww wl hwl => by
          have e9 := eg.eqh E
          have yy := eg.y
          exact hK ww hh wl q6 true x3 x5 x7 (.im [] false) (.im [] true) (kn, ck, mb, ce, ro) [] [] false (by rw [hr1]; rfl) (fun h => by cases h) e9.tk e9.F e9.fn ((m3'.w yy d5.boxes).eqh E) ((m5'.w yy d5.boxes).eqh E) ((m7'.w yy d5.boxes).eqh E) ⟨_, rfl⟩ LN.nil (fun h => by cases h) ((Y5.trans yy).eqh E) hwl
        simp only [ha]
        first | exact hp2 _ EqH.keep _ _ (by repeat' (first | exact WJ.nil | exact u5 | exact hw | exact u3 | exact u1 | exact WJ.one w4 | exact WJ.one w2 | refine WJ.app ?_ ?_ | refine WJ.cn (by omega) ?_ | refine WJ.ce ?_ | refine WJ.ct ?_)) | exact hp2 _ (EqH.keepC (by simp)) _ _ (by repeat' (first | exact WJ.nil | exact u5 | exact hw | exact u3 | exact u1 | exact WJ.one w4 | exact WJ.one w2 | refine WJ.app ?_ ?_ | refine WJ.cn (by omega) ?_ | refine WJ.ce ?_ | refine WJ.ct ?_)) | exact hp2 _ (EqH.keepD (by simp)) _ _ (by repeat' (first | exact WJ.nil | exact u5 | exact hw | exact u3 | exact u1 | exact WJ.one w4 | exact WJ.one w2 | refine WJ.app ?_ ?_ | refine WJ.cn (by omega) ?_ | refine WJ.ce ?_ | refine WJ.ct ?_)) | done
      · have eg := (ef.putt (nn' := false) d5.tk.S.b d5.boxes)
        simp [hb6, hp, At, Dt, Ft, Tt, ant, bnt, fnt, tnt, haf, hbf, htf, hft, hat, hbt, hta, htb]
        refine VA_inl (g := 108) (caps := []) rfl rfl ?_
        try simp
        refine tover_IC T (eg.grow (m := 0)).tk ?_
        simp [hb6, resV, resP]
        rw [if_pos (by simpa using hb6)] at hzz
        simp only [rItems_bad hb6, hhd, if_neg hk2] at hzz
        rw [hzz] at hK
        have hp2 : ∀ hh, EqH _ hh → ∀ ww wl, (∀ j ∈ wl, WJ H r f t j) → K ww hh wl := fun hh E ww wl hwl => by
          have e9 := eg.eqh E
          have yy := eg.y
          exact hK ww hh wl q6 false x3 x5 x7 (.im [] false) (.im [] true) (kn, ck, mb, ce, ro) [] [] false rfl (fun _ => rfl) e9.tk e9.F e9.fn ((m3'.w yy d5.boxes).eqh E) ((m5'.w yy d5.boxes).eqh E) ((m7'.w yy d5.boxes).eqh E) ⟨_, rfl⟩ LN.nil (fun _ hb => (hb6 hb).elim) ((Y5.trans yy).eqh E) hwl
        simp only [ha]
        first | exact hp2 _ EqH.keep _ _ (by repeat' (first | exact WJ.nil | exact u5 | exact hw | exact u3 | exact u1 | exact WJ.one w4 | exact WJ.one w2 | refine WJ.app ?_ ?_ | refine WJ.cn (by omega) ?_ | refine WJ.ce ?_ | refine WJ.ct ?_)) | exact hp2 _ (EqH.keepC (by simp)) _ _ (by repeat' (first | exact WJ.nil | exact u5 | exact hw | exact u3 | exact u1 | exact WJ.one w4 | exact WJ.one w2 | refine WJ.app ?_ ?_ | refine WJ.cn (by omega) ?_ | refine WJ.ce ?_ | refine WJ.ct ?_)) | exact hp2 _ (EqH.keepD (by simp)) _ _ (by repeat' (first | exact WJ.nil | exact u5 | exact hw | exact u3 | exact u1 | exact WJ.one w4 | exact WJ.one w2 | refine WJ.app ?_ ?_ | refine WJ.cn (by omega) ?_ | refine WJ.ce ?_ | refine WJ.ct ?_)) | done
    | some z =>
      rw [hz] at hp
      simp only at hp
      simp [hp, At, Dt, Ft, Tt, ant, bnt, fnt, tnt, haf, hbf, htf, hft, hat, hbt, hta, htb]
      have ef := (((et'.grow (m := 0)).putf (cs' := [iv kind, c1, c2, x3, iv ck, x5, lv ce, x7, .im (stepsV (toSI z)) false, .im [] true, bv false, c11]) d5.tk.S.b d5.boxes).grow (m := 0))
      have eg := (ef.putt (nn' := false) d5.tk.S.b d5.boxes)
      refine VA_inl (g := 108) (caps := []) rfl rfl ?_
      try simp
      refine tover_IC T (eg.grow (m := 0)).tk ?_
      by_cases hb6 : q6.bad = 0
      · simp [hb6, hp, At, Dt, Ft, Tt, ant, bnt, fnt, tnt, haf, hbf, htf, hft, hat, hbt, hta, htb]
        have hzw : rLists kind q = (match rItems q6 with | (none, r) => (none, r) | (some l, r) => (some ((rHead q).1, z, l, if kind = 2 then decide ((rNum 1 r).1 = 1) else false), if kind = 2 then (rNum 1 r).2 else r)) := by
          rw [hzz, if_neg (by simpa using hb6), hz]
        have e6' := (eg.grow (m := 0))
        obtain ⟨S6, hS6, e6⟩ := ex_of e6'
        have b6 := e6.base
        try rw [← hS6]
        refine VA_keep (g := 100) (caps := []) rfl rfl ?_
        try simp
        refine count_KC T (B := B) (v := v) (r := r) (mo := 32) stepI (fun i L q nn h => AI S6 t r v B a [.ptr t 0] f 8 (fun x => [iv kind, c1, c2, x3, iv ck, x5, lv ce, x7, .im (stepsV (toSI z)) false, x, bv false, c11]) i (EnP L) q nn h) (WJ S6 r f t)
          (fun i a q nn h c => c.tk) (fun i a q nn h m c => c.grow) (fun i a q nn h h' q' c o s => c.oth o s) (fun i a q nn h h' c e => c.eqh e) rfl (.inl (.inl rfl))
          (fun i L q h K' c hi hb hK' => lists4_KC T c b6.D b6.bn ⟨b6.br, b6.bf, b6.bt⟩ hi hK') (by omega) (a := []) (q := q6) (nn := false) (GTk.toAI (cells := fun x => [iv kind, c1, c2, x3, iv ck, x5, lv ce, x7, .im (stepsV (toSI z)) false, x, bv false, c11]) b6) fun w7 h7 wl7 i7 hI7 hw7 => ?_
        obtain ⟨j1, j2, j3⟩ := cLoop_i (rNum 32 q6).1 [] (rNum 32 q6).2
        rw [j1, j2] at hI7
        simp only [List.nil_append] at j3
        obtain ⟨l9, hl9⟩ : ∃ l9, l9 = (cLoop stepI (rNum 32 q6).1 [] (rNum 32 q6).2 false).1 := ⟨_, rfl⟩
        rw [← hl9] at hI7 j3
        have hri : rILoop (rNum 32 q6).1 (rNum 32 q6).2 = rItems q6 := rfl
        rw [hri] at hI7 j3
        obtain ⟨x9, d7, L9⟩ := b6.ofAI hI7
        have y57 := e6.y.trans d7.y
        have y37 := (e4.y.trans d5.y).trans y57
        have y17 := (e2.y.trans d3.y).trans y37
        have l3' := (l3.w y17 g1.boxes).mono hHc0
        have l5' := (l5.w y37 d3.boxes).mono nS2
        have l7' := (l7.w y57 d5.boxes).mono nS4
        have nS6 : H.n ≤ S6.n := by have := e6.y.n; have := d5.y.n; have := e4.y.n; omega
        have l9' : LN H.n h7 8 x9 (EnP l9) := L9.mono nS6
        have Y7 := Y0 (g1.y.trans y17)
        have W7 : ∀ j ∈ wl7, WJ H r f t j := fun j hj => WJ.mono nS6 (hw7 j hj)
        have A7 := d7.A
        have D7 := d7.D
        have F7 := d7.F
        have T7 := d7.tk.T
        have an7 := d7.an
        have bn7 := d7.bn
        have fn7 := d7.fn
        have tn7 := d7.tk.tn
        cases ho : (rItems q6).1 with
        | none =>
          rw [ho] at d7 T7 hI7
          have hr1 : (rLists kind q).1 = none := by
            rw [hzw]
            have : rItems q6 = (none, (rItems q6).2) := Prod.ext ho rfl
            rw [this]
          have hp : ∀ hh, EqH h7 hh → ∀ ww wl, (∀ j ∈ wl, WJ H r f t j) → K ww hh wl := fun hh E ww wl hwl => by
            have e9 := d7.eqh E
            exact hK ww hh wl (rItems q6).2 true x3 x5 x7 (.im (stepsV (toSI z)) false) x9 (kn, ck, mb, ce, ro) z l9 false (by rw [hr1]; rfl) (fun h => by cases h) e9.tk e9.F e9.fn (l3'.eqh E) (l5'.eqh E) (l7'.eqh E) ⟨_, rfl⟩ (l9'.eqh E) (fun h => by cases h) (Y7.eqh E) hwl
          simp [A7, D7, F7, an7, bn7, fn7, hk2, resV, resP]
          simp only [ha]
          first | exact hp _ EqH.keep _ _ (by repeat' (first | exact WJ.nil | exact W7 | exact u5 | exact u3 | exact u1 | exact WJ.one w9 | exact WJ.one w4 | exact WJ.one w2 | exact WJ.one wt | refine WJ.app ?_ ?_ | refine WJ.cn (by omega) ?_ | refine WJ.ce ?_ | refine WJ.ct ?_)) | exact hp _ (EqH.keepC rfl) _ _ (by repeat' (first | exact WJ.nil | exact W7 | exact u5 | exact u3 | exact u1 | exact WJ.one w9 | exact WJ.one w4 | exact WJ.one w2 | exact WJ.one wt | refine WJ.app ?_ ?_ | refine WJ.cn (by omega) ?_ | refine WJ.ce ?_ | refine WJ.ct ?_)) | done
        | some l =>
          rw [ho] at d7 T7 hI7
          have hx : rItems q6 = (some l, (rItems q6).2) := Prod.ext ho rfl
          obtain ⟨q9, hq9⟩ : ∃ q9, q9 = (rItems q6).2 := ⟨_, rfl⟩
          rw [← hq9] at d7 hx
          have hL : rLists kind q = (some ((kn, ck, mb, ce, ro), z, l, if kind = 2 then decide ((rNum 1 q9).1 = 1) else false), if kind = 2 then (rNum 1 q9).2 else q9) := by
            rw [hzw, hx, hhd]
          have j3' : q9.bad = 0 → l9 = l := fun hb => j3 (by rw [← hq9]; exact hb) l ho
          have hp : ∀ hh, EqH h7 hh → ∀ ww wl, (∀ j ∈ wl, WJ H r f t j) → K ww hh wl := fun hh E ww wl hwl => by
            have e9 := d7.eqh E
            rw [hL, if_neg hk2, if_neg hk2] at hK
            exact hK ww hh wl q9 false x3 x5 x7 (.im (stepsV (toSI z)) false) x9 (kn, ck, mb, ce, ro) z l9 false rfl (fun _ => rfl) e9.tk e9.F e9.fn (l3'.eqh E) (l5'.eqh E) (l7'.eqh E) ⟨_, rfl⟩ (l9'.eqh E) (fun _ hb => by rw [j3' hb]) (Y7.eqh E) hwl
          simp [A7, D7, F7, an7, bn7, fn7, hk2, resV, resP]
          simp only [ha]
          first | exact hp _ EqH.keep _ _ (by repeat' (first | exact WJ.nil | exact W7 | exact u5 | exact u3 | exact u1 | exact WJ.one w9 | exact WJ.one w4 | exact WJ.one w2 | exact WJ.one wt | refine WJ.app ?_ ?_ | refine WJ.cn (by omega) ?_ | refine WJ.ce ?_ | refine WJ.ct ?_)) | exact hp _ (EqH.keepC rfl) _ _ (by repeat' (first | exact WJ.nil | exact W7 | exact u5 | exact u3 | exact u1 | exact WJ.one w9 | exact WJ.one w4 | exact WJ.one w2 | exact WJ.one wt | refine WJ.app ?_ ?_ | refine WJ.cn (by omega) ?_ | refine WJ.ce ?_ | refine WJ.ct ?_)) | done
      · simp [hb6, resV, resP]
        rw [if_pos (by simpa using hb6)] at hzz
        simp only [rItems_bad hb6, hhd, if_neg hk2] at hzz
        rw [hzz] at hK
        have hp2 : ∀ hh, EqH _ hh → ∀ ww wl, (∀ j ∈ wl, WJ H r f t j) → K ww hh wl := fun hh E ww wl hwl => by
          have e9 := eg.eqh E
          have yy := eg.y
          exact hK ww hh wl q6 false x3 x5 x7 (.im (stepsV (toSI z)) false) (.im [] true) (kn, ck, mb, ce, ro) z [] false rfl (fun _ => rfl) e9.tk e9.F e9.fn ((m3'.w yy d5.boxes).eqh E) ((m5'.w yy d5.boxes).eqh E) ((m7'.w yy d5.boxes).eqh E) ⟨_, rfl⟩ LN.nil (fun _ hb => (hb6 hb).elim) ((Y5.trans yy).eqh E) hwl
        simp only [ha]
        first | exact hp2 _ EqH.keep _ _ (by repeat' (first | exact WJ.nil | exact u5 | exact hw | exact u3 | exact u1 | exact WJ.one w4 | exact WJ.one w2 | refine WJ.app ?_ ?_ | refine WJ.cn (by omega) ?_ | refine WJ.ce ?_ | refine WJ.ct ?_)) | exact hp2 _ (EqH.keepC (by simp)) _ _ (by repeat' (first | exact WJ.nil | exact u5 | exact hw | exact u3 | exact u1 | exact WJ.one w4 | exact WJ.one w2 | refine WJ.app ?_ ?_ | refine WJ.cn (by omega) ?_ | refine WJ.ce ?_ | refine WJ.ct ?_)) | exact hp2 _ (EqH.keepD (by simp)) _ _ (by repeat' (first | exact WJ.nil | exact u5 | exact hw | exact u3 | exact u1 | exact WJ.one w4 | exact WJ.one w2 | refine WJ.app ?_ ?_ | refine WJ.cn (by omega) ?_ | refine WJ.ce ?_ | refine WJ.ct ?_)) | done
  · have hzl : rLists kind q = (match rItems q5 with | (none, r) => (none, r) | (some l, r) => (some ((rHead q).1, [], l, if kind = 2 then decide ((rNum 1 r).1 = 1) else false), if kind = 2 then (rNum 1 r).2 else r)) := by
      simp only [rLists, if_neg hk, hq5']
      cases rItems q5 with
      | mk o2 r2 => cases o2 <;> rfl
    simp [A5, D5, F5, fn5, an5, bn5, hk]
    refine VA_inl (g := 108) (caps := []) rfl rfl ?_
    try simp
    refine tover_IC T (e5.grow (m := 0)).tk ?_
    by_cases hb5 : q5.bad = 0
    · simp [A5, D5, F5, fn5, an5, bn5, hk, hb5]
      have e6' := (e5.grow (m := 0))
      obtain ⟨S6, hS6, e6⟩ := ex_of e6'
      have b6 := e6.base
      try rw [← hS6]
      refine VA_keep (g := 100) (caps := []) rfl rfl ?_
      try simp
      refine count_KC T (B := B) (v := v) (r := r) (mo := 32) stepI (fun i L q nn h => AI S6 t r v B a [.ptr t 0] f 8 (fun x => [iv kind, c1, c2, x3, iv ck, x5, lv ce, x7, .im [] true, x, bv false, c11]) i (EnP L) q nn h) (WJ S6 r f t)
        (fun i a q nn h c => c.tk) (fun i a q nn h m c => c.grow) (fun i a q nn h h' q' c o s => c.oth o s) (fun i a q nn h h' c e => c.eqh e) rfl (.inl (.inl rfl))
        (fun i L q h K' c hi hb hK' => lists4_KC T c b6.D b6.bn ⟨b6.br, b6.bf, b6.bt⟩ hi hK') (by omega) (a := []) (q := q5) (nn := false) (GTk.toAI (cells := fun x => [iv kind, c1, c2, x3, iv ck, x5, lv ce, x7, .im [] true, x, bv false, c11]) b6) fun w7 h7 wl7 i7 hI7 hw7 => ?_
      obtain ⟨j1, j2, j3⟩ := cLoop_i (rNum 32 q5).1 [] (rNum 32 q5).2
      rw [j1, j2] at hI7
      simp only [List.nil_append] at j3
      obtain ⟨l9, hl9⟩ : ∃ l9, l9 = (cLoop stepI (rNum 32 q5).1 [] (rNum 32 q5).2 false).1 := ⟨_, rfl⟩
      rw [← hl9] at hI7 j3
      have hri : rILoop (rNum 32 q5).1 (rNum 32 q5).2 = rItems q5 := rfl
      rw [hri] at hI7 j3
      obtain ⟨x9, d7, L9⟩ := b6.ofAI hI7
      have y57 := e6.y.trans d7.y
      have y37 := (e4.y.trans d5.y).trans y57
      have y17 := (e2.y.trans d3.y).trans y37
      have l3' := (l3.w y17 g1.boxes).mono hHc0
      have l5' := (l5.w y37 d3.boxes).mono nS2
      have l7' := (l7.w y57 d5.boxes).mono nS4
      have nS6 : H.n ≤ S6.n := by have := e6.y.n; have := d5.y.n; have := e4.y.n; omega
      have l9' : LN H.n h7 8 x9 (EnP l9) := L9.mono nS6
      have Y7 := Y0 (g1.y.trans y17)
      have W7 : ∀ j ∈ wl7, WJ H r f t j := fun j hj => WJ.mono nS6 (hw7 j hj)
      have A7 := d7.A
      have D7 := d7.D
      have F7 := d7.F
      have T7 := d7.tk.T
      have an7 := d7.an
      have bn7 := d7.bn
      have fn7 := d7.fn
      have tn7 := d7.tk.tn
      cases ho : (rItems q5).1 with
      | none =>
        rw [ho] at d7 T7 hI7
        have hr1 : (rLists kind q).1 = none := by
          rw [hzl]
          have : rItems q5 = (none, (rItems q5).2) := Prod.ext ho rfl
          rw [this]
        have hp : ∀ hh, EqH h7 hh → ∀ ww wl, (∀ j ∈ wl, WJ H r f t j) → K ww hh wl := fun hh E ww wl hwl => by
          have e9 := d7.eqh E
          exact hK ww hh wl (rItems q5).2 true x3 x5 x7 (.im [] true) x9 (kn, ck, mb, ce, ro) [] l9 false (by rw [hr1]; rfl) (fun h => by cases h) e9.tk e9.F e9.fn (l3'.eqh E) (l5'.eqh E) (l7'.eqh E) ⟨_, rfl⟩ (l9'.eqh E) (fun h => by cases h) (Y7.eqh E) hwl
        by_cases hk2 : kind = 2
        · simp [A7, D7, F7, an7, bn7, fn7, hk2]
          refine VA_inl (g := 108) (caps := []) rfl rfl ?_
          try simp
          refine tover_IC T (d7.grow (m := 0)).tk ?_
          simp [A7, D7, F7, an7, bn7, fn7, hk2, resV, resP]
          simp only [ha]
          first | exact hp _ EqH.keep _ _ (by repeat' (first | exact WJ.nil | exact W7 | exact u5 | exact u3 | exact u1 | exact WJ.one w9 | exact WJ.one w4 | exact WJ.one w2 | exact WJ.one wt | refine WJ.app ?_ ?_ | refine WJ.cn (by omega) ?_ | refine WJ.ce ?_ | refine WJ.ct ?_)) | exact hp _ (EqH.keepC rfl) _ _ (by repeat' (first | exact WJ.nil | exact W7 | exact u5 | exact u3 | exact u1 | exact WJ.one w9 | exact WJ.one w4 | exact WJ.one w2 | exact WJ.one wt | refine WJ.app ?_ ?_ | refine WJ.cn (by omega) ?_ | refine WJ.ce ?_ | refine WJ.ct ?_)) | done
        · simp [A7, D7, F7, an7, bn7, fn7, hk2, resV, resP]
          simp only [ha]
          first | exact hp _ EqH.keep _ _ (by repeat' (first | exact WJ.nil | exact W7 | exact u5 | exact u3 | exact u1 | exact WJ.one w9 | exact WJ.one w4 | exact WJ.one w2 | exact WJ.one wt | refine WJ.app ?_ ?_ | refine WJ.cn (by omega) ?_ | refine WJ.ce ?_ | refine WJ.ct ?_)) | exact hp _ (EqH.keepC rfl) _ _ (by repeat' (first | exact WJ.nil | exact W7 | exact u5 | exact u3 | exact u1 | exact WJ.one w9 | exact WJ.one w4 | exact WJ.one w2 | exact WJ.one wt | refine WJ.app ?_ ?_ | refine WJ.cn (by omega) ?_ | refine WJ.ce ?_ | refine WJ.ct ?_)) | done
      | some l =>
        rw [ho] at d7 T7 hI7
        have hx : rItems q5 = (some l, (rItems q5).2) := Prod.ext ho rfl
        obtain ⟨q9, hq9⟩ : ∃ q9, q9 = (rItems q5).2 := ⟨_, rfl⟩
        rw [← hq9] at d7 hx
        have hL : rLists kind q = (some ((kn, ck, mb, ce, ro), [], l, if kind = 2 then decide ((rNum 1 q9).1 = 1) else false), if kind = 2 then (rNum 1 q9).2 else q9) := by
          rw [hzl, hx, hhd]
        have j3' : q9.bad = 0 → l9 = l := fun hb => j3 (by rw [← hq9]; exact hb) l ho
        by_cases hk2 : kind = 2
        · simp [A7, D7, F7, an7, bn7, fn7, hk2]
          refine VA_inl (g := 108) (caps := []) rfl rfl ?_
          try simp
          refine tover_IC T (d7.grow (m := 0)).tk ?_
          rw [hL, if_pos hk2, if_pos hk2] at hK
          by_cases hb9 : q9.bad = 0
          · simp [A7, D7, F7, an7, bn7, fn7, hk2, hb9, T7, tn7]
            refine VA_inl (g := 42) (caps := []) rfl rfl ?_
            try simp
            refine wnum_IC (m := 1) T (d7.base.grow (m := 0)).tk.S (by omega) fun H9 wl9 s9 o9 w9 => ?_
            have e9 := (d7.base.grow (m := 0)).oth o9 s9
            have e11 : (((rNum 1 q9).1 : Int) = 1) = ((rNum 1 q9).1 = 1) := propext (by omega)
            have F9 := e9.F
            have D9 := e9.D
            have fn9 := e9.fn
            have bn9 := e9.bn
            have hw9f : ∀ i ∈ wl9, ¬ i = f := fun i q z => d7.fr (z.symm.trans (w9 i q))
            have hw9b : ∀ i ∈ wl9, ¬ i = b := fun i q z => d7.br (z.symm.trans (w9 i q))
            have e10 := e9.putf (cs' := [iv kind, c1, c2, x3, iv ck, x5, lv ce, x7, .im [] true, x9, bv (decide ((rNum 1 q9).1 = 1)), c11]) d7.tk.S.b d7.boxes
            simp [F9, D9, fn9, bn9, e11, hw9f, hw9b, hk2, resV, resP]
            refine ⟨⟨by rw [o9.n]; simp, hw9b⟩, ?_⟩
            subst hk2
            simp only [ha]
            have E := EqH.keepD (h := H9.put f (.box [iv 2, c1, c2, x3, iv ck, x5, lv ce, x7, .im [] true, x9, bv (decide ((rNum 1 q9).1 = 1)), c11])) (H := H) (n := H9.n) (by simp)
            have e12 := e10.eqh E
            have y9 := e10.y
            exact hK _ _ _ (rNum 1 q9).2 false x3 x5 x7 (.im [] true) x9 (kn, ck, mb, ce, ro) [] l9 (decide ((rNum 1 q9).1 = 1)) rfl (fun _ => rfl) e12.tk e12.F e12.fn ((l3'.w y9 d7.boxes).eqh E) ((l5'.w y9 d7.boxes).eqh E) ((l7'.w y9 d7.boxes).eqh E) ⟨_, rfl⟩ ((l9'.w y9 d7.boxes).eqh E) (fun _ hb => by rw [j3' hb9]) ((Y7.trans y9).eqh E) (by repeat' (first | exact WJ.nil | exact W7 | exact u5 | exact u3 | exact u1 | exact WJ.one w9 | exact WJ.one w4 | exact WJ.one w2 | exact WJ.one wt | refine WJ.app ?_ ?_ | refine WJ.cn (by omega) ?_ | refine WJ.ce ?_ | refine WJ.ct ?_))
          · have hp : ∀ hh, EqH h7 hh → ∀ ww wl, (∀ j ∈ wl, WJ H r f t j) → K ww hh wl := fun hh E ww wl hwl => by
              have e9 := d7.eqh E
              have e1 : rNum 1 q9 = (0, q9) := by simp [rNum, hb9]
              exact hK ww hh wl q9 false x3 x5 x7 (.im [] true) x9 (kn, ck, mb, ce, ro) [] l9 false rfl (fun _ => by rw [e1]) e9.tk e9.F e9.fn (l3'.eqh E) (l5'.eqh E) (l7'.eqh E) ⟨_, rfl⟩ (l9'.eqh E) (fun _ hb => (hb9 hb).elim) (Y7.eqh E) hwl
            simp [A7, D7, F7, an7, bn7, fn7, hk2, hb9, resV, resP]
            simp only [ha]
            first | exact hp _ EqH.keep _ _ (by repeat' (first | exact WJ.nil | exact W7 | exact u5 | exact u3 | exact u1 | exact WJ.one w9 | exact WJ.one w4 | exact WJ.one w2 | exact WJ.one wt | refine WJ.app ?_ ?_ | refine WJ.cn (by omega) ?_ | refine WJ.ce ?_ | refine WJ.ct ?_)) | exact hp _ (EqH.keepC rfl) _ _ (by repeat' (first | exact WJ.nil | exact W7 | exact u5 | exact u3 | exact u1 | exact WJ.one w9 | exact WJ.one w4 | exact WJ.one w2 | exact WJ.one wt | refine WJ.app ?_ ?_ | refine WJ.cn (by omega) ?_ | refine WJ.ce ?_ | refine WJ.ct ?_)) | done
        · have hp : ∀ hh, EqH h7 hh → ∀ ww wl, (∀ j ∈ wl, WJ H r f t j) → K ww hh wl := fun hh E ww wl hwl => by
            have e9 := d7.eqh E
            rw [hL, if_neg hk2, if_neg hk2] at hK
            exact hK ww hh wl q9 false x3 x5 x7 (.im [] true) x9 (kn, ck, mb, ce, ro) [] l9 false rfl (fun _ => rfl) e9.tk e9.F e9.fn (l3'.eqh E) (l5'.eqh E) (l7'.eqh E) ⟨_, rfl⟩ (l9'.eqh E) (fun _ hb => by rw [j3' hb]) (Y7.eqh E) hwl
          simp [A7, D7, F7, an7, bn7, fn7, hk2, resV, resP]
          simp only [ha]
          first | exact hp _ EqH.keep _ _ (by repeat' (first | exact WJ.nil | exact W7 | exact u5 | exact u3 | exact u1 | exact WJ.one w9 | exact WJ.one w4 | exact WJ.one w2 | exact WJ.one wt | refine WJ.app ?_ ?_ | refine WJ.cn (by omega) ?_ | refine WJ.ce ?_ | refine WJ.ct ?_)) | exact hp _ (EqH.keepC rfl) _ _ (by repeat' (first | exact WJ.nil | exact W7 | exact u5 | exact u3 | exact u1 | exact WJ.one w9 | exact WJ.one w4 | exact WJ.one w2 | exact WJ.one wt | refine WJ.app ?_ ?_ | refine WJ.cn (by omega) ?_ | refine WJ.ce ?_ | refine WJ.ct ?_)) | done
    · have e1 : rNum 1 q5 = (0, q5) := by simp [rNum, hb5]
      have hp : ∀ hh, EqH h5 hh → ∀ ww wl, (∀ j ∈ wl, WJ H r f t j) → K ww hh wl := fun hh E ww wl hwl => by
        have e9 := d5.eqh E
        rw [hzl, rItems_bad hb5] at hK
        simp only [e1, hhd] at hK
        exact hK ww hh wl q5 false x3 x5 x7 (.im [] true) (.im [] true) (kn, ck, mb, ce, ro) [] [] false rfl (fun _ => by split <;> rfl) e9.tk e9.F e9.fn (m3'.eqh E) (m5'.eqh E) (m7'.eqh E) ⟨_, rfl⟩ LN.nil (fun _ hb => (hb5 hb).elim) (Y5.eqh E) hwl
      simp [A5, D5, F5, fn5, an5, bn5, hk, hb5, resV, resP]
      simp only [ha]
      first | exact hp _ EqH.keep _ _ (by repeat' (first | exact WJ.nil | exact u5 | exact hw | exact u3 | exact u1 | exact WJ.one w4 | exact WJ.one w2 | refine WJ.app ?_ ?_ | refine WJ.cn (by omega) ?_ | refine WJ.ce ?_ | refine WJ.ct ?_)) | exact hp _ (EqH.keepC rfl) _ _ (by repeat' (first | exact WJ.nil | exact u5 | exact hw | exact u3 | exact u1 | exact WJ.one w4 | exact WJ.one w2 | refine WJ.app ?_ ?_ | refine WJ.cn (by omega) ?_ | refine WJ.ce ?_ | refine WJ.ct ?_)) | done
end Go.Evl.Zone
