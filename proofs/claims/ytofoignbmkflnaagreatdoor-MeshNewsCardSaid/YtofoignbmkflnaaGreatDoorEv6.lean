/- The evaluator's texts CEnc to MT2, joined. -/
import Derived.Test.YtofoignbmkflnaaGreatDoorEv5
import Derived.Test.YtofoignbmkflnaaGreatDoorChecked
import Derived.WalkKit
import Derived.Stop.LaidErr
import Derived.Test.YtofoignbmkflnaaGreatDoorCards
import Derived.Test.YtofoignbmkflnaaGreatDoorTie
set_option linter.all false
set_option linter.deprecated false
set_option linter.unusedVariables false
set_option linter.unusedSimpArgs false
set_option linter.unnecessarySimpa false
namespace Go.Evl.Zone
open Go Go.Evl
variable {P : Program}
abbrev Bytes := List UInt8
section
end
end Go.Evl.Zone

namespace Go.Evl.Zone
open Go Go.Evl
variable {P : Program}
abbrev cmpB (a b : Bytes) : Int := Lib.compareBytes a b
theorem cmp_self : ∀ a : Bytes, cmpB a a = 0
  | [] => rfl
  | a :: as1 => by
    have : ¬ a < a := fun h => by have := UInt8.lt_iff_toNat_lt.1 h; omega
    simp only [cmpB, Lib.compareBytes, if_neg this]
    exact cmp_self as1
end Go.Evl.Zone

namespace Go.Evl.Zone
open Go Go.Evl
variable {P : Program}
end Go.Evl.Zone

namespace Go.Evl.Zone
open Go Go.Evl
theorem cmp_anti : ∀ a b : Bytes, 0 < cmpB a b → cmpB b a < 0
  | [], [], h => by simp [cmpB, Lib.compareBytes] at h
  | [], _ :: _, h => by simp [cmpB, Lib.compareBytes] at h
  | _ :: _, [], h => by simp [cmpB, Lib.compareBytes]
  | x :: a, y :: b, h => by
    simp only [cmpB, Lib.compareBytes] at h ⊢
    have ih := cmp_anti a b
    simp only [cmpB] at ih
    split at h
    · omega
    · split at h
      · rename_i h1 h2
        rw [if_pos (by assumption)]
        omega
      · rename_i h1 h2
        rw [if_neg (by assumption), if_neg (by assumption)]
        exact ih h
theorem cmp_zero : ∀ a b : Bytes, cmpB a b = 0 → a = b
  | [], [], h => rfl
  | [], _ :: _, h => by simp [cmpB, Lib.compareBytes] at h
  | _ :: _, [], h => by simp [cmpB, Lib.compareBytes] at h
  | x :: a, y :: b, h => by
    simp only [cmpB, Lib.compareBytes] at h
    split at h
    · omega
    · split at h
      · omega
      · rename_i h1 h2
        have e : x = y := by
          have h3 : ¬ x < y := by simpa using h1
          have h4 : ¬ y < x := by simpa using h2
          have h5 : ¬ x.toNat < y.toNat := h3
          have h6 : ¬ y.toNat < x.toNat := h4
          exact UInt8.toNat_inj.1 (by omega)
        rw [e, cmp_zero a b h]
theorem cmp_trans : ∀ a b c : Bytes, cmpB a b < 0 → cmpB b c < 0 → cmpB a c < 0
  | a, [], c, h, k => by cases a <;> simp [cmpB, Lib.compareBytes] at h
  | [], y :: b, [], h, k => by simp [cmpB, Lib.compareBytes] at k
  | [], y :: b, z :: c, h, k => by simp [cmpB, Lib.compareBytes]
  | x :: a, y :: b, [], h, k => by simp [cmpB, Lib.compareBytes] at k
  | x :: a, y :: b, z :: c, h, k => by
    have ih := cmp_trans a b c
    simp only [cmpB] at ih
    simp only [cmpB, Lib.compareBytes] at h k ⊢
    have e1 : (x < y) = (x.toNat < y.toNat) := rfl
    have e2 : (y < z) = (y.toNat < z.toNat) := rfl
    have e3 : (x < z) = (x.toNat < z.toNat) := rfl
    have e4 : (y < x) = (y.toNat < x.toNat) := rfl
    have e5 : (z < y) = (z.toNat < y.toNat) := rfl
    have e6 : (z < x) = (z.toNat < x.toNat) := rfl
    simp only [e1, e2, e3, e4, e5, e6] at h k ⊢
    by_cases h1 : x.toNat < y.toNat
    · by_cases k1 : y.toNat < z.toNat
      · rw [if_pos (by omega)]; omega
      · rw [if_neg k1] at k
        by_cases k2 : z.toNat < y.toNat
        · rw [if_pos k2] at k; omega
        · rw [if_pos (by omega)]; omega
    · rw [if_neg h1] at h
      by_cases h2 : y.toNat < x.toNat
      · rw [if_pos h2] at h; omega
      · rw [if_neg h2] at h
        by_cases k1 : y.toNat < z.toNat
        · rw [if_pos (by omega)]; omega
        · rw [if_neg k1] at k
          by_cases k2 : z.toNat < y.toNat
          · rw [if_pos k2] at k; omega
          · rw [if_neg k2] at k
            rw [if_neg (by omega), if_neg (by omega)]
            exact ih h k
end Go.Evl.Zone

namespace Go.Evl.Zone
open Go Go.Evl
theorem cmp_neg {a b : Bytes} (h : cmpB a b < 0) : 0 < cmpB b a := by
  rcases Int.lt_trichotomy (cmpB b a) 0 with k | k | k
  · have := cmp_trans _ _ _ h k
    rw [cmp_self] at this
    omega
  · obtain rfl := cmp_zero _ _ k
    rw [cmp_self] at h; omega
  · exact k
theorem insB_perm (a : Bytes) : ∀ l, (insB a l).Perm (a :: l)
  | [] => List.Perm.refl _
  | b :: l => by
    unfold insB
    split
    · exact (List.Perm.cons b (insB_perm a l)).trans (List.Perm.swap a b l)
    · exact List.Perm.refl _
theorem sortB_perm : ∀ l, (sortB l).Perm l
  | [] => List.Perm.refl _
  | a :: l => (insB_perm a _).trans (List.Perm.cons a (sortB_perm l))
def leB (a b : Bytes) : Prop := ¬ cmpB b a < 0
theorem insB_sorted (a : Bytes) : ∀ l, l.Pairwise leB → (insB a l).Pairwise leB
  | [], h => by simp [insB]
  | b :: l, h => by
    have h1 := List.pairwise_cons.1 h
    unfold insB
    split
    · rename_i hb
      refine List.pairwise_cons.2 ⟨fun c hc => ?_, insB_sorted a l h1.2⟩
      rcases List.mem_cons.1 ((insB_perm a l).mem_iff.1 hc) with rfl | hc
      · intro k
        have h2 := cmp_neg hb
        have h3 : cmpB b c < 0 := hb
        omega
      · exact h1.1 c hc
    · rename_i hb
      refine List.pairwise_cons.2 ⟨fun c hc => ?_, h⟩
      rcases List.mem_cons.1 hc with rfl | hc
      · exact hb
      · intro k
        have h2 := h1.1 c hc
        refine h2 ?_
        rcases Int.lt_trichotomy (cmpB b a) 0 with q | q | q
        · exact (hb q).elim
        · obtain rfl := cmp_zero _ _ q; exact k
        · exact cmp_trans _ _ _ k (cmp_anti _ _ q)
theorem sortB_sorted : ∀ l, (sortB l).Pairwise leB
  | [] => List.Pairwise.nil
  | a :: l => insB_sorted a _ (sortB_sorted l)
theorem leB_anti {a b : Bytes} (h1 : leB a b) (h2 : leB b a) : a = b := by
  rcases Int.lt_trichotomy (cmpB a b) 0 with k | k | k
  · exact (h2 k).elim
  · exact cmp_zero _ _ k
  · exact (h1 (cmp_anti _ _ k)).elim
theorem perm_sorted {α : Type} {le : α → α → Prop} (ha : ∀ a b, le a b → le b a → a = b) : ∀ {l m : List α}, l.Perm m → l.Pairwise le → m.Pairwise le → l = m
  | [], m, h, _, _ => by have := h.length_eq; simp at this; exact (List.length_eq_zero_iff.1 this.symm).symm
  | a :: l, [], h, _, _ => by have := h.length_eq; simp at this
  | a :: l, b :: m, h, h1, h2 => by
    have h1' := List.pairwise_cons.1 h1
    have h2' := List.pairwise_cons.1 h2
    have e : a = b := by
      have ma : a ∈ b :: m := h.mem_iff.1 (by simp)
      have mb : b ∈ a :: l := h.mem_iff.2 (by simp)
      rcases List.mem_cons.1 ma with q | q
      · exact q
      · rcases List.mem_cons.1 mb with q' | q'
        · exact q'.symm
        · exact ha _ _ (h1'.1 _ q') (h2'.1 _ q)
    subst e
    rw [perm_sorted ha (List.Perm.cons_inv h) h1'.2 h2'.2]
theorem insZ_perm (a : Int) : ∀ l, (insZ a l).Perm (a :: l)
  | [] => List.Perm.refl _
  | b :: l => by
    unfold insZ
    split
    · exact (List.Perm.cons b (insZ_perm a l)).trans (List.Perm.swap a b l)
    · exact List.Perm.refl _
theorem sortZ_perm : ∀ l, (sortZ l).Perm l
  | [] => List.Perm.refl _
  | a :: l => (insZ_perm a _).trans (List.Perm.cons a (sortZ_perm l))
theorem insZ_sorted (a : Int) : ∀ l, l.Pairwise (· ≤ ·) → (insZ a l).Pairwise (· ≤ ·)
  | [], h => by simp [insZ]
  | b :: l, h => by
    have h1 := List.pairwise_cons.1 h
    unfold insZ
    split
    · refine List.pairwise_cons.2 ⟨fun c hc => ?_, insZ_sorted a l h1.2⟩
      rcases List.mem_cons.1 ((insZ_perm a l).mem_iff.1 hc) with rfl | hc
      · omega
      · exact h1.1 c hc
    · refine List.pairwise_cons.2 ⟨fun c hc => ?_, h⟩
      rcases List.mem_cons.1 hc with rfl | hc
      · omega
      · have := h1.1 c hc
        omega
theorem sortZ_sorted : ∀ l, (sortZ l).Pairwise (· ≤ ·)
  | [] => List.Pairwise.nil
  | a :: l => insZ_sorted a _ (sortZ_sorted l)
end Go.Evl.Zone

namespace Go.Evl
open Go Go.Proofs Go.RowKit
set_option maxHeartbeats 4000000 in
set_option maxRecDepth 100000 in
theorem insShiftS (b vb vo i n cap vcap : Nat) (c vc : Array Value) (t t2 : TypeId) (w : World) (hb : w.heap[b]? = some (.cells c t (0, 0))) (hvb : w.heap[vb]? = some (.cells vc t2 (0, 0))) (hne : vb ≠ b) (hi : i < n) (hroom : n + 1 ≤ cap) (h63 : n + 1 ≤ 68719476736)
    (hc : c.size = cap * 8) (cs vs C1 C2 : List Value) (hcs : cs = (c.toList.take (n * 8)).drop (i * 8)) (hvs : vs = (vc.toList.drop vo).take 8) (hvl : vs.length = 8) (h1c : ∀ v ∈ cs, v.oneCell' = true) (h1v : ∀ v ∈ vs, v.oneCell' = true)
    (hC1 : C1 = setL c.toList ((i + 1) * 8) cs) (hC2 : C2 = setL C1 (i * 8) vs) (hvk : vc.size ≠ 0) :
    Calls Tryz.prog 138 #[.slice (some ⟨b, 0, none⟩) n cap, .int .i64 i, .slice (some ⟨vb, vo, none⟩) 1 vcap] w fun e w' =>
      e = .returned (.slice (some ⟨b, 0, none⟩) (n + 1) cap) ∧ w' = (w.drew.setRow b C1.toArray).setRow b C2.toArray := by
  have hsz : szOf Tryz.prog 87 = some 8 := by kernel_rfl
  have hov : ∀ lb cb, (callFunc 190 #[.slice (some ⟨vb, vo, none⟩) 1 vcap, .slice (some ⟨b, (i + 1) * 8, none⟩) lb cb]).run Tryz.prog w = .ok (.value (.bool false)) w := fun lb cb => by
    rw [run_callFunc_extern Tryz.func190 (by kernel_rfl) (by kernel_rfl) (by kernel_rfl) (e := Extern.SlicesOverlaps.overlaps #[43, 43] #[4]) (by kernel_rfl),
      Lib.run_overlaps_apart w 43 4 87 Tryz.underlying43 8 (fun w => run_sz hsz w) ⟨vb, vo, none⟩ ⟨b, (i + 1) * 8, none⟩ 1 vcap lb cb hne t2 t vc.size c.size (by simp [World.shape?, hvb]) (by simp [World.shape?, hb]) (by omega) (frozen_cells hvb _) (frozen_cells hvb _)]
    rfl
  have hcl : cs.length = (n - i) * 8 := by
    rw [hcs]; simp; omega
  have hbd : w.drew.heap[b]? = some (.cells c t (0, 0)) := hb
  have hlC1 : C1.length = c.size := by rw [hC1, setL_length _ _ _ (by simp; omega)]; simp
  have hb1 : (w.drew.setRow b C1.toArray).heap[b]? = some (.cells C1.toArray t (0, 0)) := setRow_heap _ _ _ _ _ _ hbd
  have hvb1 : (w.drew.setRow b C1.toArray).heap[vb]? = some (.cells vc t2 (0, 0)) := by rw [setRow_other _ _ _ _ hne]; exact hvb
  have hcp1 : ∀ ty dc sc, (Builtin.copy_ #[44, 44] ty #[.slice (some ⟨b, (i + 1) * 8, none⟩) (n + 1 - (i + 1)) dc, .slice (some ⟨b, i * 8, none⟩) (n + 1 - i) sc]).run Tryz.prog w.drew = .ok (goInt (n - i : Nat)) (w.drew.setRow b C1.toArray) := fun ty dc sc => by
    rw [hC1]
    exact run_copyK w.drew _ _ ty 87 b _ _ dc b _ _ sc 8 (n - i) c t cs Tryz.underlying44 hsz (by simp only [Nat.min_def]; split <;> omega) hcl hbd (by omega)
      (fun j v hj => by
        rw [cell_of hbd, ← Array.getElem?_toList]
        rw [hcs, List.getElem?_drop, List.getElem?_take] at hj
        split at hj
        · exact hj
        · cases hj) h1c
  have hcp2 : ∀ (W : World), W = w.drew.setRow b C1.toArray → ∀ ty dc, (Builtin.copy_ #[44, 43] ty #[.slice (some ⟨b, i * 8, none⟩) (n + 1 - i) dc, .slice (some ⟨vb, vo, none⟩) 1 vcap]).run Tryz.prog W = .ok (goInt (1 : Nat)) (W.setRow b C2.toArray) := fun W hW ty dc => by
    subst hW
    rw [hC2]
    have := run_copyK (P := Tryz.prog) (w.drew.setRow b C1.toArray) 44 43 ty 87 b (i * 8) (n + 1 - i) dc vb vo 1 vcap 8 1 C1.toArray t vs Tryz.underlying44 hsz (by simp only [Nat.min_def]; split <;> omega) (by omega) hb1 (by simp; omega)
      (fun j v hj => by
        rw [cell_of hvb1, ← Array.getElem?_toList]
        rw [hvs, List.getElem?_take] at hj
        split at hj
        · rw [List.getElem?_drop] at hj; exact hj
        · cases hj) h1v
    simpa using this
  have mixed : Tryz.prog.follows .mixedOrders = true := by kernel_rfl
  have hw1 : IntKind.i64.wrap ((i : Int) + 1) = (i : Int) + 1 := by rw [IntKind.wrap_i64]; omega
  have hb1' : (0 : Int) ≤ (i : Int) + 1 := by omega
  have hin : i ≤ n := by omega
  have htn : ((i : Int) + 1).toNat = i + 1 := by omega
  have hb2 : ¬ (cap = i + 1) := by omega
  have hb3 : (i : Int) ≤ (n : Int) + 1 := by omega
  have hb4 : ¬ (cap = i) := by omega
  have hb5 : (i : Int) + 1 ≤ (n : Int) + 1 := by omega
  clear hcs hvs hC1 hC2 hlC1 hb1 hvb1 hbd hb hvb
  go_enter Tryz.func138, Tryz.ntmps138
  go_wp2_with (simp only [hov])
  go_region_law_o (refine step_copy_runI rfl _ _ 44 44 rfl (.slice (some ⟨b, (i + 1) * 8, none⟩) (n + 1 - (i + 1)) (cap - (i + 1))) (.slice (some ⟨b, i * 8, none⟩) (n + 1 - i) (cap - i)) (by simp [Act.eval, Act.put]) (by simp [Act.eval, Act.put]) (hcp1 _ _ _) ?_)
  go_wp2_with (at_builtin; refine wpList_copyI _ rfl _ _ 44 43 rfl _ _ rfl rfl (hcp2 _ rfl _ _) ?_)
  go_ret
  exact ⟨rfl, rfl⟩
set_option maxHeartbeats 4000000 in
set_option maxRecDepth 100000 in
theorem insGrowS (b vb vo i n cap vcap : Nat) (c vc : Array Value) (t t2 : TypeId) (w : World) (hb : w.heap[b]? = some (.cells c t (0, 0))) (hvb : w.heap[vb]? = some (.cells vc t2 (0, 0))) (hi : i < n) (hnc : n ≤ cap) (hroom : cap < n + 1) (hbig : n + 1 ≤ 68719476736)
    (hc : n * 8 ≤ c.size) (cs vs D1 D2 : List Value) (ROW : Array Value) (i0 : TypeInfo) (z : Value) (hi0 : Tryz.prog.info? 87 = some i0) (hz0 : i0.zero = some z) (hs0 : i0.size = 8) (hzs : z.cells.size = 8) (hbt : i0.bytes ≤ 1024) (hcs : cs = c.toList.take (n * 8)) (hvs : vs = (vc.toList.drop vo).take 8) (hvl : vs.length = 8) (h1c : ∀ v ∈ cs, v.oneCell' = true) (h1v : ∀ v ∈ vs, v.oneCell' = true)
    (hR : ROW = (cs.take (i * 8)).toArray ++ Builtin.zeroCells z.cells (n + 1 - i) ++ Builtin.zeroCells z.cells (grownCap w (n + 1) cap 87 - (n + 1))) (hD1 : D1 = setL ROW.toList (i * 8) vs) (hD2 : D2 = setL D1 ((i + 1) * 8) (cs.drop (i * 8))) :
    Calls Tryz.prog 138 #[.slice (some ⟨b, 0, none⟩) n cap, .int .i64 i, .slice (some ⟨vb, vo, none⟩) 1 vcap] w fun e w' =>
      e = .returned (.slice (some ⟨w.heap.size, 0, none⟩) (n + 1) (grownCap w (n + 1) cap 87)) ∧ w' = ((((w.alloc (.cells ROW 87)).drew).setRow w.heap.size D1.toArray).drew).setRow w.heap.size D2.toArray := by
  have hsz : szOf Tryz.prog 87 = some 8 := by simp [szOf, hi0, hs0]
  have hbw : b < w.heap.size := lt_of_heap hb
  have hvw : vb < w.heap.size := lt_of_heap hvb
  have hcl : cs.length = n * 8 := by rw [hcs]; simp; omega
  have hzc : (n : Int) + 1 - (i : Int) = ((n + 1 - i : Nat) : Int) := by omega
  have hik : i + (n + 1 - i) = n + 1 := by omega
  have hold : (Builtin.firstCells i0.size i (.slice (some ⟨b, 0, none⟩) i cap)).run Tryz.prog w.drew = .ok (cs.take (i * 8)).toArray w.drew := by
    rw [hs0]
    exact run_firstCells_some w.drew 8 i ⟨b, 0, none⟩ i cap (cs.take (i * 8)) (by rw [List.length_take]; omega) (fun j v hj => by
      rw [List.getElem?_take] at hj
      split at hj
      · rw [hcs, List.getElem?_take] at hj
        split at hj
        · rw [add_none, World.cell?_drew, cell_of hb, Nat.zero_add, ← Array.getElem?_toList]; exact hj
        · cases hj
      · cases hj)
  have hby : (n + 1) * i0.bytes ≤ 68719476736 * 1024 := Nat.mul_le_mul hbig hbt
  have hby2 : (n + 1 - i) * i0.bytes ≤ (n + 1) * i0.bytes := Nat.mul_le_mul_right _ (by omega)
  have hrz : ∀ ty, (Builtin.append_ #[44, 3] ty #[.slice (some ⟨b, 0, none⟩) i cap, .int .i64 ((n : Int) + 1 - (i : Int))]).run Tryz.prog w = .ok (.slice (some ⟨w.heap.size, 0, none⟩) (n + 1) (grownCap w (n + 1) cap 87)) (w.drew.alloc (.cells ROW 87)) := fun ty => by
    have h := Lib.run_append_grow_zeros w 44 3 ty 87 i0 z .i64 .i64 Tryz.underlying44 Tryz.underlying3 hi0 hz0 (some ⟨b, 0, none⟩) i cap (cs.take (i * 8)) hold (n + 1 - i) (by omega) (by omega) (by omega) (by omega) (by omega) (by rw [hik]; exact growslice_fits hroom (by omega))
    rw [hik] at h
    rw [hzc, hR]
    exact h
  obtain ⟨G, hG⟩ : ∃ G, G = grownCap w (n + 1) cap 87 := ⟨_, rfl⟩
  rw [← hG] at hrz hR ⊢
  have hGn : n + 1 ≤ G := by rw [hG]; exact grownCap_ge w _ _ _
  have hG63 : G ≤ 9223372036854775807 := by
    have := grownCap_le_maxLen w (n + 1) cap 87 (by unfold maxLen; omega)
    rw [← hG] at this
    unfold maxLen at this
    omega
  have hRs : ROW.size = G * 8 := by
    rw [hR]
    simp only [Array.size_append, size_zeroCells, hzs, List.size_toArray, List.length_take, hcl]
    rw [Nat.min_eq_left (by omega)]
    omega
  obtain ⟨W1, hW1⟩ : ∃ W1, W1 = w.drew.alloc (.cells ROW 87) := ⟨_, rfl⟩
  have hN : W1.heap[w.heap.size]? = some (.cells ROW 87 (0, 0)) := by rw [hW1]; exact heap_alloc_new w.drew _
  have hOv : W1.heap[vb]? = some (.cells vc t2 (0, 0)) := by rw [hW1, heap_alloc_old _ _ (show vb < w.drew.heap.size from hvw)]; exact hvb
  have hOb : W1.heap[b]? = some (.cells c t (0, 0)) := by rw [hW1, heap_alloc_old _ _ (show b < w.drew.heap.size from hbw)]; exact hb
  have hlD1 : D1.length = G * 8 := by rw [hD1, setL_length _ _ _ (by simp; omega)]; simp [hRs]
  have hN2 : (W1.setRow w.heap.size D1.toArray).heap[w.heap.size]? = some (.cells D1.toArray 87 (0, 0)) := setRow_heap _ _ _ _ _ _ hN
  have hOb2 : (W1.setRow w.heap.size D1.toArray).heap[b]? = some (.cells c t (0, 0)) := by rw [setRow_other _ _ _ _ (by omega)]; exact hOb
  have hcpA : ∀ (W : World), W.heap = W1.heap → ∀ ty dc, (Builtin.copy_ #[44, 43] ty #[.slice (some ⟨w.heap.size, i * 8, none⟩) (n + 1 - i) dc, .slice (some ⟨vb, vo, none⟩) 1 vcap]).run Tryz.prog W = .ok (goInt (1 : Nat)) (W.setRow w.heap.size D1.toArray) := fun W hW ty dc => by
    rw [hD1]
    exact run_copyK W 44 43 ty 87 w.heap.size (i * 8) (n + 1 - i) dc vb vo 1 vcap 8 1 ROW 87 vs Tryz.underlying44 hsz (by simp only [Nat.min_def]; split <;> omega) (by omega) (by rw [hW]; exact hN) (by omega)
      (fun j v hj => by
        rw [cell_of (by rw [hW]; exact hOv), ← Array.getElem?_toList]
        rw [hvs, List.getElem?_take] at hj
        split at hj
        · rw [List.getElem?_drop] at hj; exact hj
        · cases hj) h1v
  have hdl : (cs.drop (i * 8)).length = (n - i) * 8 := by rw [List.length_drop, hcl]; omega
  have hcpB : ∀ (W : World), W.heap = (W1.setRow w.heap.size D1.toArray).heap → ∀ ty dc sc, (Builtin.copy_ #[44, 44] ty #[.slice (some ⟨w.heap.size, (i + 1) * 8, none⟩) (n + 1 - (i + 1)) dc, .slice (some ⟨b, i * 8, none⟩) (n - i) sc]).run Tryz.prog W = .ok (goInt (n - i : Nat)) (W.setRow w.heap.size D2.toArray) := fun W hW ty dc sc => by
    rw [hD2]
    exact run_copyK W 44 44 ty 87 w.heap.size ((i + 1) * 8) (n + 1 - (i + 1)) dc b (i * 8) (n - i) sc 8 (n - i) D1.toArray 87 (cs.drop (i * 8)) Tryz.underlying44 hsz (by simp only [Nat.min_def]; split <;> omega) hdl (by rw [hW]; exact hN2) (by simp only [List.size_toArray]; omega)
      (fun j v hj => by
        rw [cell_of (by rw [hW]; exact hOb2), ← Array.getElem?_toList]
        rw [List.getElem?_drop, hcs, List.getElem?_take] at hj
        split at hj
        · exact hj
        · cases hj) (fun v hv => h1c v (List.mem_of_mem_drop hv))
  have hGi : ¬ (G = i) := by omega
  have hGim : ¬ (G = i + 1) := by omega
  have hci : ¬ (cap = i) := by omega
  have hz2 : ¬ ((i : Int) = (n : Int)) := by omega
  have hz3 : (cap : Int) < (n : Int) + 1 := by omega
  have mixed : Tryz.prog.follows .mixedOrders = true := by kernel_rfl
  have hw1 : IntKind.i64.wrap ((i : Int) + 1) = (i : Int) + 1 := by rw [IntKind.wrap_i64]; omega
  have hb1' : (0 : Int) ≤ (i : Int) + 1 := by omega
  have hin : i ≤ n := by omega
  have htn : ((i : Int) + 1).toNat = i + 1 := by omega
  have hb3 : (i : Int) ≤ (n : Int) := by omega
  have hb3' : (i : Int) ≤ (n : Int) + 1 := by omega
  have hb5 : (i : Int) + 1 ≤ (n : Int) + 1 := by omega
  rw [← hW1] at hrz
  subst hW1
  have hF1 : (((w.alloc (.cells ROW 87)).drew.setRow w.heap.size D1.toArray).drew).heap = ((w.drew.alloc (.cells ROW 87)).setRow w.heap.size D1.toArray).heap := rfl
  have hE1 : ((w.alloc (.cells ROW 87)).drew).heap = (w.drew.alloc (.cells ROW 87)).heap := rfl
  clear hG hold hR hcs hvs hD1 hD2 hN hOv hOb hN2 hOb2 hlD1 hb hvb hzc hik
  go_enter Tryz.func138, Tryz.ntmps138
  go_wp2_with (first
    | (at_builtin; refine Lib.wpList_append_run _ rfl _ _ _ _ rfl _ _ rfl rfl _ _ (hrz _) ?_)
    | (at_builtin; refine wpList_copyI _ rfl _ _ 44 43 rfl _ _ rfl rfl (hcpA _ hE1 _ _) ?_))
  go_region_law_o (refine step_copy_runI rfl _ _ 44 44 rfl (.slice (some ⟨w.heap.size, (i + 1) * 8, none⟩) (n + 1 - (i + 1)) (G - (i + 1))) (.slice (some ⟨b, i * 8, none⟩) (n - i) (cap - i)) (by simp [Act.eval, Act.put]) (by simp [Act.eval, Act.put]) (hcpB _ hF1 3 (G - (i + 1)) (cap - i)) ?_)
  go_wp2
  go_ret
  exact ⟨rfl, rfl⟩
set_option maxHeartbeats 4000000 in
set_option maxRecDepth 100000 in
theorem insEndS (base : Option Addr) (n cap vb vo vcap : Nat) (w w' : World) (u : Value) (h63 : n ≤ 68719476736) (hr : ∀ ty, (Builtin.append_ #[44, 43] ty #[.slice base n cap, .slice (some ⟨vb, vo, none⟩) 1 vcap]).run Tryz.prog w = .ok u w') :
    Calls Tryz.prog 138 #[.slice base n cap, .int .i64 n, .slice (some ⟨vb, vo, none⟩) 1 vcap] w fun e w2 => e = .returned u ∧ w2 = w' := by
  go_enter Tryz.func138, Tryz.ntmps138
  go_wp2_with (at_builtin; refine Lib.wpList_append_run _ rfl _ _ _ _ rfl _ _ rfl rfl _ _ (hr _) ?_)
  all_goals (go_ret; exact ⟨rfl, rfl⟩)
theorem insCS : InsC Tryz.prog 138 8 87 44 43 := ⟨insShiftS, insGrowS, insEndS⟩
end Go.Evl

namespace Go.Evl
open Go Go.Proofs Go.RowKit
set_option maxHeartbeats 4000000 in
set_option maxRecDepth 100000 in
theorem insShiftK (b vb vo i n cap vcap : Nat) (c vc : Array Value) (t t2 : TypeId) (w : World) (hb : w.heap[b]? = some (.cells c t (0, 0))) (hvb : w.heap[vb]? = some (.cells vc t2 (0, 0))) (hne : vb ≠ b) (hi : i < n) (hroom : n + 1 ≤ cap) (h63 : n + 1 ≤ 68719476736)
    (hc : c.size = cap * 3) (cs vs C1 C2 : List Value) (hcs : cs = (c.toList.take (n * 3)).drop (i * 3)) (hvs : vs = (vc.toList.drop vo).take 3) (hvl : vs.length = 3) (h1c : ∀ v ∈ cs, v.oneCell' = true) (h1v : ∀ v ∈ vs, v.oneCell' = true)
    (hC1 : C1 = setL c.toList ((i + 1) * 3) cs) (hC2 : C2 = setL C1 (i * 3) vs) (hvk : vc.size ≠ 0) :
    Calls Tryz.prog 205 #[.slice (some ⟨b, 0, none⟩) n cap, .int .i64 i, .slice (some ⟨vb, vo, none⟩) 1 vcap] w fun e w' =>
      e = .returned (.slice (some ⟨b, 0, none⟩) (n + 1) cap) ∧ w' = (w.drew.setRow b C1.toArray).setRow b C2.toArray := by
  have hsz : szOf Tryz.prog 158 = some 3 := by kernel_rfl
  have hov : ∀ lb cb, (callFunc 254 #[.slice (some ⟨vb, vo, none⟩) 1 vcap, .slice (some ⟨b, (i + 1) * 3, none⟩) lb cb]).run Tryz.prog w = .ok (.value (.bool false)) w := fun lb cb => by
    rw [run_callFunc_extern Tryz.func254 (by kernel_rfl) (by kernel_rfl) (by kernel_rfl) (e := Extern.SlicesOverlaps.overlaps #[39, 39] #[4]) (by kernel_rfl),
      Lib.run_overlaps_apart w 39 4 158 Tryz.underlying39 3 (fun w => run_sz hsz w) ⟨vb, vo, none⟩ ⟨b, (i + 1) * 3, none⟩ 1 vcap lb cb hne t2 t vc.size c.size (by simp [World.shape?, hvb]) (by simp [World.shape?, hb]) (by omega) (frozen_cells hvb _) (frozen_cells hvb _)]
    rfl
  have hcl : cs.length = (n - i) * 3 := by
    rw [hcs]; simp; omega
  have hbd : w.drew.heap[b]? = some (.cells c t (0, 0)) := hb
  have hlC1 : C1.length = c.size := by rw [hC1, setL_length _ _ _ (by simp; omega)]; simp
  have hb1 : (w.drew.setRow b C1.toArray).heap[b]? = some (.cells C1.toArray t (0, 0)) := setRow_heap _ _ _ _ _ _ hbd
  have hvb1 : (w.drew.setRow b C1.toArray).heap[vb]? = some (.cells vc t2 (0, 0)) := by rw [setRow_other _ _ _ _ hne]; exact hvb
  have hcp1 : ∀ ty dc sc, (Builtin.copy_ #[40, 40] ty #[.slice (some ⟨b, (i + 1) * 3, none⟩) (n + 1 - (i + 1)) dc, .slice (some ⟨b, i * 3, none⟩) (n + 1 - i) sc]).run Tryz.prog w.drew = .ok (goInt (n - i : Nat)) (w.drew.setRow b C1.toArray) := fun ty dc sc => by
    rw [hC1]
    exact run_copyK w.drew _ _ ty 158 b _ _ dc b _ _ sc 3 (n - i) c t cs Tryz.underlying40 hsz (by simp only [Nat.min_def]; split <;> omega) hcl hbd (by omega)
      (fun j v hj => by
        rw [cell_of hbd, ← Array.getElem?_toList]
        rw [hcs, List.getElem?_drop, List.getElem?_take] at hj
        split at hj
        · exact hj
        · cases hj) h1c
  have hcp2 : ∀ (W : World), W = w.drew.setRow b C1.toArray → ∀ ty dc, (Builtin.copy_ #[40, 39] ty #[.slice (some ⟨b, i * 3, none⟩) (n + 1 - i) dc, .slice (some ⟨vb, vo, none⟩) 1 vcap]).run Tryz.prog W = .ok (goInt (1 : Nat)) (W.setRow b C2.toArray) := fun W hW ty dc => by
    subst hW
    rw [hC2]
    have := run_copyK (P := Tryz.prog) (w.drew.setRow b C1.toArray) 40 39 ty 158 b (i * 3) (n + 1 - i) dc vb vo 1 vcap 3 1 C1.toArray t vs Tryz.underlying40 hsz (by simp only [Nat.min_def]; split <;> omega) (by omega) hb1 (by simp; omega)
      (fun j v hj => by
        rw [cell_of hvb1, ← Array.getElem?_toList]
        rw [hvs, List.getElem?_take] at hj
        split at hj
        · rw [List.getElem?_drop] at hj; exact hj
        · cases hj) h1v
    simpa using this
  have mixed : Tryz.prog.follows .mixedOrders = true := by kernel_rfl
  have hw1 : IntKind.i64.wrap ((i : Int) + 1) = (i : Int) + 1 := by rw [IntKind.wrap_i64]; omega
  have hb1' : (0 : Int) ≤ (i : Int) + 1 := by omega
  have hin : i ≤ n := by omega
  have htn : ((i : Int) + 1).toNat = i + 1 := by omega
  have hb2 : ¬ (cap = i + 1) := by omega
  have hb3 : (i : Int) ≤ (n : Int) + 1 := by omega
  have hb4 : ¬ (cap = i) := by omega
  have hb5 : (i : Int) + 1 ≤ (n : Int) + 1 := by omega
  clear hcs hvs hC1 hC2 hlC1 hb1 hvb1 hbd hb hvb
  go_enter Tryz.func205, Tryz.ntmps205
  go_wp2_with (simp only [hov])
  go_region_law_o (refine step_copy_runI rfl _ _ 40 40 rfl (.slice (some ⟨b, (i + 1) * 3, none⟩) (n + 1 - (i + 1)) (cap - (i + 1))) (.slice (some ⟨b, i * 3, none⟩) (n + 1 - i) (cap - i)) (by simp [Act.eval, Act.put]) (by simp [Act.eval, Act.put]) (hcp1 _ _ _) ?_)
  go_wp2_with (at_builtin; refine wpList_copyI _ rfl _ _ 40 39 rfl _ _ rfl rfl (hcp2 _ rfl _ _) ?_)
  go_ret
  exact ⟨rfl, rfl⟩
set_option maxHeartbeats 4000000 in
set_option maxRecDepth 100000 in
theorem insGrowK (b vb vo i n cap vcap : Nat) (c vc : Array Value) (t t2 : TypeId) (w : World) (hb : w.heap[b]? = some (.cells c t (0, 0))) (hvb : w.heap[vb]? = some (.cells vc t2 (0, 0))) (hi : i < n) (hnc : n ≤ cap) (hroom : cap < n + 1) (hbig : n + 1 ≤ 68719476736)
    (hc : n * 3 ≤ c.size) (cs vs D1 D2 : List Value) (ROW : Array Value) (i0 : TypeInfo) (z : Value) (hi0 : Tryz.prog.info? 158 = some i0) (hz0 : i0.zero = some z) (hs0 : i0.size = 3) (hzs : z.cells.size = 3) (hbt : i0.bytes ≤ 1024) (hcs : cs = c.toList.take (n * 3)) (hvs : vs = (vc.toList.drop vo).take 3) (hvl : vs.length = 3) (h1c : ∀ v ∈ cs, v.oneCell' = true) (h1v : ∀ v ∈ vs, v.oneCell' = true)
    (hR : ROW = (cs.take (i * 3)).toArray ++ Builtin.zeroCells z.cells (n + 1 - i) ++ Builtin.zeroCells z.cells (grownCap w (n + 1) cap 158 - (n + 1))) (hD1 : D1 = setL ROW.toList (i * 3) vs) (hD2 : D2 = setL D1 ((i + 1) * 3) (cs.drop (i * 3))) :
    Calls Tryz.prog 205 #[.slice (some ⟨b, 0, none⟩) n cap, .int .i64 i, .slice (some ⟨vb, vo, none⟩) 1 vcap] w fun e w' =>
      e = .returned (.slice (some ⟨w.heap.size, 0, none⟩) (n + 1) (grownCap w (n + 1) cap 158)) ∧ w' = ((((w.alloc (.cells ROW 158)).drew).setRow w.heap.size D1.toArray).drew).setRow w.heap.size D2.toArray := by
  have hsz : szOf Tryz.prog 158 = some 3 := by simp [szOf, hi0, hs0]
  have hbw : b < w.heap.size := lt_of_heap hb
  have hvw : vb < w.heap.size := lt_of_heap hvb
  have hcl : cs.length = n * 3 := by rw [hcs]; simp; omega
  have hzc : (n : Int) + 1 - (i : Int) = ((n + 1 - i : Nat) : Int) := by omega
  have hik : i + (n + 1 - i) = n + 1 := by omega
  have hold : (Builtin.firstCells i0.size i (.slice (some ⟨b, 0, none⟩) i cap)).run Tryz.prog w.drew = .ok (cs.take (i * 3)).toArray w.drew := by
    rw [hs0]
    exact run_firstCells_some w.drew 3 i ⟨b, 0, none⟩ i cap (cs.take (i * 3)) (by rw [List.length_take]; omega) (fun j v hj => by
      rw [List.getElem?_take] at hj
      split at hj
      · rw [hcs, List.getElem?_take] at hj
        split at hj
        · rw [add_none, World.cell?_drew, cell_of hb, Nat.zero_add, ← Array.getElem?_toList]; exact hj
        · cases hj
      · cases hj)
  have hby : (n + 1) * i0.bytes ≤ 68719476736 * 1024 := Nat.mul_le_mul hbig hbt
  have hby2 : (n + 1 - i) * i0.bytes ≤ (n + 1) * i0.bytes := Nat.mul_le_mul_right _ (by omega)
  have hrz : ∀ ty, (Builtin.append_ #[40, 3] ty #[.slice (some ⟨b, 0, none⟩) i cap, .int .i64 ((n : Int) + 1 - (i : Int))]).run Tryz.prog w = .ok (.slice (some ⟨w.heap.size, 0, none⟩) (n + 1) (grownCap w (n + 1) cap 158)) (w.drew.alloc (.cells ROW 158)) := fun ty => by
    have h := Lib.run_append_grow_zeros w 40 3 ty 158 i0 z .i64 .i64 Tryz.underlying40 Tryz.underlying3 hi0 hz0 (some ⟨b, 0, none⟩) i cap (cs.take (i * 3)) hold (n + 1 - i) (by omega) (by omega) (by omega) (by omega) (by omega) (by rw [hik]; exact growslice_fits hroom (by omega))
    rw [hik] at h
    rw [hzc, hR]
    exact h
  obtain ⟨G, hG⟩ : ∃ G, G = grownCap w (n + 1) cap 158 := ⟨_, rfl⟩
  rw [← hG] at hrz hR ⊢
  have hGn : n + 1 ≤ G := by rw [hG]; exact grownCap_ge w _ _ _
  have hG63 : G ≤ 9223372036854775807 := by
    have := grownCap_le_maxLen w (n + 1) cap 158 (by unfold maxLen; omega)
    rw [← hG] at this
    unfold maxLen at this
    omega
  have hRs : ROW.size = G * 3 := by
    rw [hR]
    simp only [Array.size_append, size_zeroCells, hzs, List.size_toArray, List.length_take, hcl]
    rw [Nat.min_eq_left (by omega)]
    omega
  obtain ⟨W1, hW1⟩ : ∃ W1, W1 = w.drew.alloc (.cells ROW 158) := ⟨_, rfl⟩
  have hN : W1.heap[w.heap.size]? = some (.cells ROW 158 (0, 0)) := by rw [hW1]; exact heap_alloc_new w.drew _
  have hOv : W1.heap[vb]? = some (.cells vc t2 (0, 0)) := by rw [hW1, heap_alloc_old _ _ (show vb < w.drew.heap.size from hvw)]; exact hvb
  have hOb : W1.heap[b]? = some (.cells c t (0, 0)) := by rw [hW1, heap_alloc_old _ _ (show b < w.drew.heap.size from hbw)]; exact hb
  have hlD1 : D1.length = G * 3 := by rw [hD1, setL_length _ _ _ (by simp; omega)]; simp [hRs]
  have hN2 : (W1.setRow w.heap.size D1.toArray).heap[w.heap.size]? = some (.cells D1.toArray 158 (0, 0)) := setRow_heap _ _ _ _ _ _ hN
  have hOb2 : (W1.setRow w.heap.size D1.toArray).heap[b]? = some (.cells c t (0, 0)) := by rw [setRow_other _ _ _ _ (by omega)]; exact hOb
  have hcpA : ∀ (W : World), W.heap = W1.heap → ∀ ty dc, (Builtin.copy_ #[40, 39] ty #[.slice (some ⟨w.heap.size, i * 3, none⟩) (n + 1 - i) dc, .slice (some ⟨vb, vo, none⟩) 1 vcap]).run Tryz.prog W = .ok (goInt (1 : Nat)) (W.setRow w.heap.size D1.toArray) := fun W hW ty dc => by
    rw [hD1]
    exact run_copyK W 40 39 ty 158 w.heap.size (i * 3) (n + 1 - i) dc vb vo 1 vcap 3 1 ROW 158 vs Tryz.underlying40 hsz (by simp only [Nat.min_def]; split <;> omega) (by omega) (by rw [hW]; exact hN) (by omega)
      (fun j v hj => by
        rw [cell_of (by rw [hW]; exact hOv), ← Array.getElem?_toList]
        rw [hvs, List.getElem?_take] at hj
        split at hj
        · rw [List.getElem?_drop] at hj; exact hj
        · cases hj) h1v
  have hdl : (cs.drop (i * 3)).length = (n - i) * 3 := by rw [List.length_drop, hcl]; omega
  have hcpB : ∀ (W : World), W.heap = (W1.setRow w.heap.size D1.toArray).heap → ∀ ty dc sc, (Builtin.copy_ #[40, 40] ty #[.slice (some ⟨w.heap.size, (i + 1) * 3, none⟩) (n + 1 - (i + 1)) dc, .slice (some ⟨b, i * 3, none⟩) (n - i) sc]).run Tryz.prog W = .ok (goInt (n - i : Nat)) (W.setRow w.heap.size D2.toArray) := fun W hW ty dc sc => by
    rw [hD2]
    exact run_copyK W 40 40 ty 158 w.heap.size ((i + 1) * 3) (n + 1 - (i + 1)) dc b (i * 3) (n - i) sc 3 (n - i) D1.toArray 158 (cs.drop (i * 3)) Tryz.underlying40 hsz (by simp only [Nat.min_def]; split <;> omega) hdl (by rw [hW]; exact hN2) (by simp only [List.size_toArray]; omega)
      (fun j v hj => by
        rw [cell_of (by rw [hW]; exact hOb2), ← Array.getElem?_toList]
        rw [List.getElem?_drop, hcs, List.getElem?_take] at hj
        split at hj
        · exact hj
        · cases hj) (fun v hv => h1c v (List.mem_of_mem_drop hv))
  have hGi : ¬ (G = i) := by omega
  have hGim : ¬ (G = i + 1) := by omega
  have hci : ¬ (cap = i) := by omega
  have hz2 : ¬ ((i : Int) = (n : Int)) := by omega
  have hz3 : (cap : Int) < (n : Int) + 1 := by omega
  have mixed : Tryz.prog.follows .mixedOrders = true := by kernel_rfl
  have hw1 : IntKind.i64.wrap ((i : Int) + 1) = (i : Int) + 1 := by rw [IntKind.wrap_i64]; omega
  have hb1' : (0 : Int) ≤ (i : Int) + 1 := by omega
  have hin : i ≤ n := by omega
  have htn : ((i : Int) + 1).toNat = i + 1 := by omega
  have hb3 : (i : Int) ≤ (n : Int) := by omega
  have hb3' : (i : Int) ≤ (n : Int) + 1 := by omega
  have hb5 : (i : Int) + 1 ≤ (n : Int) + 1 := by omega
  rw [← hW1] at hrz
  subst hW1
  have hF1 : (((w.alloc (.cells ROW 158)).drew.setRow w.heap.size D1.toArray).drew).heap = ((w.drew.alloc (.cells ROW 158)).setRow w.heap.size D1.toArray).heap := rfl
  have hE1 : ((w.alloc (.cells ROW 158)).drew).heap = (w.drew.alloc (.cells ROW 158)).heap := rfl
  clear hG hold hR hcs hvs hD1 hD2 hN hOv hOb hN2 hOb2 hlD1 hb hvb hzc hik
  go_enter Tryz.func205, Tryz.ntmps205
  go_wp2_with (first
    | (at_builtin; refine Lib.wpList_append_run _ rfl _ _ _ _ rfl _ _ rfl rfl _ _ (hrz _) ?_)
    | (at_builtin; refine wpList_copyI _ rfl _ _ 40 39 rfl _ _ rfl rfl (hcpA _ hE1 _ _) ?_))
  go_region_law_o (refine step_copy_runI rfl _ _ 40 40 rfl (.slice (some ⟨w.heap.size, (i + 1) * 3, none⟩) (n + 1 - (i + 1)) (G - (i + 1))) (.slice (some ⟨b, i * 3, none⟩) (n - i) (cap - i)) (by simp [Act.eval, Act.put]) (by simp [Act.eval, Act.put]) (hcpB _ hF1 3 (G - (i + 1)) (cap - i)) ?_)
  go_wp2
  go_ret
  exact ⟨rfl, rfl⟩
set_option maxHeartbeats 4000000 in
set_option maxRecDepth 100000 in
theorem insEndK (base : Option Addr) (n cap vb vo vcap : Nat) (w w' : World) (u : Value) (h63 : n ≤ 68719476736) (hr : ∀ ty, (Builtin.append_ #[40, 39] ty #[.slice base n cap, .slice (some ⟨vb, vo, none⟩) 1 vcap]).run Tryz.prog w = .ok u w') :
    Calls Tryz.prog 205 #[.slice base n cap, .int .i64 n, .slice (some ⟨vb, vo, none⟩) 1 vcap] w fun e w2 => e = .returned u ∧ w2 = w' := by
  go_enter Tryz.func205, Tryz.ntmps205
  go_wp2_with (at_builtin; refine Lib.wpList_append_run _ rfl _ _ _ _ rfl _ _ rfl rfl _ _ (hr _) ?_)
  all_goals (go_ret; exact ⟨rfl, rfl⟩)
theorem insCK : InsC Tryz.prog 205 3 158 40 39 := ⟨insShiftK, insGrowK, insEndK⟩
end Go.Evl

namespace Go.Evl
open Go Go.Proofs Go.RowKit
set_option maxHeartbeats 4000000 in
set_option maxRecDepth 100000 in
theorem insShiftV (b vb vo i n cap vcap : Nat) (c vc : Array Value) (t t2 : TypeId) (w : World) (hb : w.heap[b]? = some (.cells c t (0, 0))) (hvb : w.heap[vb]? = some (.cells vc t2 (0, 0))) (hne : vb ≠ b) (hi : i < n) (hroom : n + 1 ≤ cap) (h63 : n + 1 ≤ 68719476736)
    (hc : c.size = cap * 2) (cs vs C1 C2 : List Value) (hcs : cs = (c.toList.take (n * 2)).drop (i * 2)) (hvs : vs = (vc.toList.drop vo).take 2) (hvl : vs.length = 2) (h1c : ∀ v ∈ cs, v.oneCell' = true) (h1v : ∀ v ∈ vs, v.oneCell' = true)
    (hC1 : C1 = setL c.toList ((i + 1) * 2) cs) (hC2 : C2 = setL C1 (i * 2) vs) (hvk : vc.size ≠ 0) :
    Calls Tryz.prog 159 #[.slice (some ⟨b, 0, none⟩) n cap, .int .i64 i, .slice (some ⟨vb, vo, none⟩) 1 vcap] w fun e w' =>
      e = .returned (.slice (some ⟨b, 0, none⟩) (n + 1) cap) ∧ w' = (w.drew.setRow b C1.toArray).setRow b C2.toArray := by
  have hsz : szOf Tryz.prog 161 = some 2 := by kernel_rfl
  have hov : ∀ lb cb, (callFunc 209 #[.slice (some ⟨vb, vo, none⟩) 1 vcap, .slice (some ⟨b, (i + 1) * 2, none⟩) lb cb]).run Tryz.prog w = .ok (.value (.bool false)) w := fun lb cb => by
    rw [run_callFunc_extern Tryz.func209 (by kernel_rfl) (by kernel_rfl) (by kernel_rfl) (e := Extern.SlicesOverlaps.overlaps #[41, 41] #[4]) (by kernel_rfl),
      Lib.run_overlaps_apart w 41 4 161 Tryz.underlying41 2 (fun w => run_sz hsz w) ⟨vb, vo, none⟩ ⟨b, (i + 1) * 2, none⟩ 1 vcap lb cb hne t2 t vc.size c.size (by simp [World.shape?, hvb]) (by simp [World.shape?, hb]) (by omega) (frozen_cells hvb _) (frozen_cells hvb _)]
    rfl
  have hcl : cs.length = (n - i) * 2 := by
    rw [hcs]; simp; omega
  have hbd : w.drew.heap[b]? = some (.cells c t (0, 0)) := hb
  have hlC1 : C1.length = c.size := by rw [hC1, setL_length _ _ _ (by simp; omega)]; simp
  have hb1 : (w.drew.setRow b C1.toArray).heap[b]? = some (.cells C1.toArray t (0, 0)) := setRow_heap _ _ _ _ _ _ hbd
  have hvb1 : (w.drew.setRow b C1.toArray).heap[vb]? = some (.cells vc t2 (0, 0)) := by rw [setRow_other _ _ _ _ hne]; exact hvb
  have hcp1 : ∀ ty dc sc, (Builtin.copy_ #[42, 42] ty #[.slice (some ⟨b, (i + 1) * 2, none⟩) (n + 1 - (i + 1)) dc, .slice (some ⟨b, i * 2, none⟩) (n + 1 - i) sc]).run Tryz.prog w.drew = .ok (goInt (n - i : Nat)) (w.drew.setRow b C1.toArray) := fun ty dc sc => by
    rw [hC1]
    exact run_copyK w.drew _ _ ty 161 b _ _ dc b _ _ sc 2 (n - i) c t cs Tryz.underlying42 hsz (by simp only [Nat.min_def]; split <;> omega) hcl hbd (by omega)
      (fun j v hj => by
        rw [cell_of hbd, ← Array.getElem?_toList]
        rw [hcs, List.getElem?_drop, List.getElem?_take] at hj
        split at hj
        · exact hj
        · cases hj) h1c
  have hcp2 : ∀ (W : World), W = w.drew.setRow b C1.toArray → ∀ ty dc, (Builtin.copy_ #[42, 41] ty #[.slice (some ⟨b, i * 2, none⟩) (n + 1 - i) dc, .slice (some ⟨vb, vo, none⟩) 1 vcap]).run Tryz.prog W = .ok (goInt (1 : Nat)) (W.setRow b C2.toArray) := fun W hW ty dc => by
    subst hW
    rw [hC2]
    have := run_copyK (P := Tryz.prog) (w.drew.setRow b C1.toArray) 42 41 ty 161 b (i * 2) (n + 1 - i) dc vb vo 1 vcap 2 1 C1.toArray t vs Tryz.underlying42 hsz (by simp only [Nat.min_def]; split <;> omega) (by omega) hb1 (by simp; omega)
      (fun j v hj => by
        rw [cell_of hvb1, ← Array.getElem?_toList]
        rw [hvs, List.getElem?_take] at hj
        split at hj
        · rw [List.getElem?_drop] at hj; exact hj
        · cases hj) h1v
    simpa using this
  have mixed : Tryz.prog.follows .mixedOrders = true := by kernel_rfl
  have hw1 : IntKind.i64.wrap ((i : Int) + 1) = (i : Int) + 1 := by rw [IntKind.wrap_i64]; omega
  have hb1' : (0 : Int) ≤ (i : Int) + 1 := by omega
  have hin : i ≤ n := by omega
  have htn : ((i : Int) + 1).toNat = i + 1 := by omega
  have hb2 : ¬ (cap = i + 1) := by omega
  have hb3 : (i : Int) ≤ (n : Int) + 1 := by omega
  have hb4 : ¬ (cap = i) := by omega
  have hb5 : (i : Int) + 1 ≤ (n : Int) + 1 := by omega
  clear hcs hvs hC1 hC2 hlC1 hb1 hvb1 hbd hb hvb
  go_enter Tryz.func159, Tryz.ntmps159
  go_wp2_with (simp only [hov])
  go_region_law_o (refine step_copy_runI rfl _ _ 42 42 rfl (.slice (some ⟨b, (i + 1) * 2, none⟩) (n + 1 - (i + 1)) (cap - (i + 1))) (.slice (some ⟨b, i * 2, none⟩) (n + 1 - i) (cap - i)) (by simp [Act.eval, Act.put]) (by simp [Act.eval, Act.put]) (hcp1 _ _ _) ?_)
  go_wp2_with (at_builtin; refine wpList_copyI _ rfl _ _ 42 41 rfl _ _ rfl rfl (hcp2 _ rfl _ _) ?_)
  go_ret
  exact ⟨rfl, rfl⟩
set_option maxHeartbeats 4000000 in
set_option maxRecDepth 100000 in
theorem insGrowV (b vb vo i n cap vcap : Nat) (c vc : Array Value) (t t2 : TypeId) (w : World) (hb : w.heap[b]? = some (.cells c t (0, 0))) (hvb : w.heap[vb]? = some (.cells vc t2 (0, 0))) (hi : i < n) (hnc : n ≤ cap) (hroom : cap < n + 1) (hbig : n + 1 ≤ 68719476736)
    (hc : n * 2 ≤ c.size) (cs vs D1 D2 : List Value) (ROW : Array Value) (i0 : TypeInfo) (z : Value) (hi0 : Tryz.prog.info? 161 = some i0) (hz0 : i0.zero = some z) (hs0 : i0.size = 2) (hzs : z.cells.size = 2) (hbt : i0.bytes ≤ 1024) (hcs : cs = c.toList.take (n * 2)) (hvs : vs = (vc.toList.drop vo).take 2) (hvl : vs.length = 2) (h1c : ∀ v ∈ cs, v.oneCell' = true) (h1v : ∀ v ∈ vs, v.oneCell' = true)
    (hR : ROW = (cs.take (i * 2)).toArray ++ Builtin.zeroCells z.cells (n + 1 - i) ++ Builtin.zeroCells z.cells (grownCap w (n + 1) cap 161 - (n + 1))) (hD1 : D1 = setL ROW.toList (i * 2) vs) (hD2 : D2 = setL D1 ((i + 1) * 2) (cs.drop (i * 2))) :
    Calls Tryz.prog 159 #[.slice (some ⟨b, 0, none⟩) n cap, .int .i64 i, .slice (some ⟨vb, vo, none⟩) 1 vcap] w fun e w' =>
      e = .returned (.slice (some ⟨w.heap.size, 0, none⟩) (n + 1) (grownCap w (n + 1) cap 161)) ∧ w' = ((((w.alloc (.cells ROW 161)).drew).setRow w.heap.size D1.toArray).drew).setRow w.heap.size D2.toArray := by
  have hsz : szOf Tryz.prog 161 = some 2 := by simp [szOf, hi0, hs0]
  have hbw : b < w.heap.size := lt_of_heap hb
  have hvw : vb < w.heap.size := lt_of_heap hvb
  have hcl : cs.length = n * 2 := by rw [hcs]; simp; omega
  have hzc : (n : Int) + 1 - (i : Int) = ((n + 1 - i : Nat) : Int) := by omega
  have hik : i + (n + 1 - i) = n + 1 := by omega
  have hold : (Builtin.firstCells i0.size i (.slice (some ⟨b, 0, none⟩) i cap)).run Tryz.prog w.drew = .ok (cs.take (i * 2)).toArray w.drew := by
    rw [hs0]
    exact run_firstCells_some w.drew 2 i ⟨b, 0, none⟩ i cap (cs.take (i * 2)) (by rw [List.length_take]; omega) (fun j v hj => by
      rw [List.getElem?_take] at hj
      split at hj
      · rw [hcs, List.getElem?_take] at hj
        split at hj
        · rw [add_none, World.cell?_drew, cell_of hb, Nat.zero_add, ← Array.getElem?_toList]; exact hj
        · cases hj
      · cases hj)
  have hby : (n + 1) * i0.bytes ≤ 68719476736 * 1024 := Nat.mul_le_mul hbig hbt
  have hby2 : (n + 1 - i) * i0.bytes ≤ (n + 1) * i0.bytes := Nat.mul_le_mul_right _ (by omega)
  have hrz : ∀ ty, (Builtin.append_ #[42, 3] ty #[.slice (some ⟨b, 0, none⟩) i cap, .int .i64 ((n : Int) + 1 - (i : Int))]).run Tryz.prog w = .ok (.slice (some ⟨w.heap.size, 0, none⟩) (n + 1) (grownCap w (n + 1) cap 161)) (w.drew.alloc (.cells ROW 161)) := fun ty => by
    have h := Lib.run_append_grow_zeros w 42 3 ty 161 i0 z .i64 .i64 Tryz.underlying42 Tryz.underlying3 hi0 hz0 (some ⟨b, 0, none⟩) i cap (cs.take (i * 2)) hold (n + 1 - i) (by omega) (by omega) (by omega) (by omega) (by omega) (by rw [hik]; exact growslice_fits hroom (by omega))
    rw [hik] at h
    rw [hzc, hR]
    exact h
  obtain ⟨G, hG⟩ : ∃ G, G = grownCap w (n + 1) cap 161 := ⟨_, rfl⟩
  rw [← hG] at hrz hR ⊢
  have hGn : n + 1 ≤ G := by rw [hG]; exact grownCap_ge w _ _ _
  have hG63 : G ≤ 9223372036854775807 := by
    have := grownCap_le_maxLen w (n + 1) cap 161 (by unfold maxLen; omega)
    rw [← hG] at this
    unfold maxLen at this
    omega
  have hRs : ROW.size = G * 2 := by
    rw [hR]
    simp only [Array.size_append, size_zeroCells, hzs, List.size_toArray, List.length_take, hcl]
    rw [Nat.min_eq_left (by omega)]
    omega
  obtain ⟨W1, hW1⟩ : ∃ W1, W1 = w.drew.alloc (.cells ROW 161) := ⟨_, rfl⟩
  have hN : W1.heap[w.heap.size]? = some (.cells ROW 161 (0, 0)) := by rw [hW1]; exact heap_alloc_new w.drew _
  have hOv : W1.heap[vb]? = some (.cells vc t2 (0, 0)) := by rw [hW1, heap_alloc_old _ _ (show vb < w.drew.heap.size from hvw)]; exact hvb
  have hOb : W1.heap[b]? = some (.cells c t (0, 0)) := by rw [hW1, heap_alloc_old _ _ (show b < w.drew.heap.size from hbw)]; exact hb
  have hlD1 : D1.length = G * 2 := by rw [hD1, setL_length _ _ _ (by simp; omega)]; simp [hRs]
  have hN2 : (W1.setRow w.heap.size D1.toArray).heap[w.heap.size]? = some (.cells D1.toArray 161 (0, 0)) := setRow_heap _ _ _ _ _ _ hN
  have hOb2 : (W1.setRow w.heap.size D1.toArray).heap[b]? = some (.cells c t (0, 0)) := by rw [setRow_other _ _ _ _ (by omega)]; exact hOb
  have hcpA : ∀ (W : World), W.heap = W1.heap → ∀ ty dc, (Builtin.copy_ #[42, 41] ty #[.slice (some ⟨w.heap.size, i * 2, none⟩) (n + 1 - i) dc, .slice (some ⟨vb, vo, none⟩) 1 vcap]).run Tryz.prog W = .ok (goInt (1 : Nat)) (W.setRow w.heap.size D1.toArray) := fun W hW ty dc => by
    rw [hD1]
    exact run_copyK W 42 41 ty 161 w.heap.size (i * 2) (n + 1 - i) dc vb vo 1 vcap 2 1 ROW 161 vs Tryz.underlying42 hsz (by simp only [Nat.min_def]; split <;> omega) (by omega) (by rw [hW]; exact hN) (by omega)
      (fun j v hj => by
        rw [cell_of (by rw [hW]; exact hOv), ← Array.getElem?_toList]
        rw [hvs, List.getElem?_take] at hj
        split at hj
        · rw [List.getElem?_drop] at hj; exact hj
        · cases hj) h1v
  have hdl : (cs.drop (i * 2)).length = (n - i) * 2 := by rw [List.length_drop, hcl]; omega
  have hcpB : ∀ (W : World), W.heap = (W1.setRow w.heap.size D1.toArray).heap → ∀ ty dc sc, (Builtin.copy_ #[42, 42] ty #[.slice (some ⟨w.heap.size, (i + 1) * 2, none⟩) (n + 1 - (i + 1)) dc, .slice (some ⟨b, i * 2, none⟩) (n - i) sc]).run Tryz.prog W = .ok (goInt (n - i : Nat)) (W.setRow w.heap.size D2.toArray) := fun W hW ty dc sc => by
    rw [hD2]
    exact run_copyK W 42 42 ty 161 w.heap.size ((i + 1) * 2) (n + 1 - (i + 1)) dc b (i * 2) (n - i) sc 2 (n - i) D1.toArray 161 (cs.drop (i * 2)) Tryz.underlying42 hsz (by simp only [Nat.min_def]; split <;> omega) hdl (by rw [hW]; exact hN2) (by simp only [List.size_toArray]; omega)
      (fun j v hj => by
        rw [cell_of (by rw [hW]; exact hOb2), ← Array.getElem?_toList]
        rw [List.getElem?_drop, hcs, List.getElem?_take] at hj
        split at hj
        · exact hj
        · cases hj) (fun v hv => h1c v (List.mem_of_mem_drop hv))
  have hGi : ¬ (G = i) := by omega
  have hGim : ¬ (G = i + 1) := by omega
  have hci : ¬ (cap = i) := by omega
  have hz2 : ¬ ((i : Int) = (n : Int)) := by omega
  have hz3 : (cap : Int) < (n : Int) + 1 := by omega
  have mixed : Tryz.prog.follows .mixedOrders = true := by kernel_rfl
  have hw1 : IntKind.i64.wrap ((i : Int) + 1) = (i : Int) + 1 := by rw [IntKind.wrap_i64]; omega
  have hb1' : (0 : Int) ≤ (i : Int) + 1 := by omega
  have hin : i ≤ n := by omega
  have htn : ((i : Int) + 1).toNat = i + 1 := by omega
  have hb3 : (i : Int) ≤ (n : Int) := by omega
  have hb3' : (i : Int) ≤ (n : Int) + 1 := by omega
  have hb5 : (i : Int) + 1 ≤ (n : Int) + 1 := by omega
  rw [← hW1] at hrz
  subst hW1
  have hF1 : (((w.alloc (.cells ROW 161)).drew.setRow w.heap.size D1.toArray).drew).heap = ((w.drew.alloc (.cells ROW 161)).setRow w.heap.size D1.toArray).heap := rfl
  have hE1 : ((w.alloc (.cells ROW 161)).drew).heap = (w.drew.alloc (.cells ROW 161)).heap := rfl
  clear hG hold hR hcs hvs hD1 hD2 hN hOv hOb hN2 hOb2 hlD1 hb hvb hzc hik
  go_enter Tryz.func159, Tryz.ntmps159
  go_wp2_with (first
    | (at_builtin; refine Lib.wpList_append_run _ rfl _ _ _ _ rfl _ _ rfl rfl _ _ (hrz _) ?_)
    | (at_builtin; refine wpList_copyI _ rfl _ _ 42 41 rfl _ _ rfl rfl (hcpA _ hE1 _ _) ?_))
  go_region_law_o (refine step_copy_runI rfl _ _ 42 42 rfl (.slice (some ⟨w.heap.size, (i + 1) * 2, none⟩) (n + 1 - (i + 1)) (G - (i + 1))) (.slice (some ⟨b, i * 2, none⟩) (n - i) (cap - i)) (by simp [Act.eval, Act.put]) (by simp [Act.eval, Act.put]) (hcpB _ hF1 3 (G - (i + 1)) (cap - i)) ?_)
  go_wp2
  go_ret
  exact ⟨rfl, rfl⟩
set_option maxHeartbeats 4000000 in
set_option maxRecDepth 100000 in
theorem insEndV (base : Option Addr) (n cap vb vo vcap : Nat) (w w' : World) (u : Value) (h63 : n ≤ 68719476736) (hr : ∀ ty, (Builtin.append_ #[42, 41] ty #[.slice base n cap, .slice (some ⟨vb, vo, none⟩) 1 vcap]).run Tryz.prog w = .ok u w') :
    Calls Tryz.prog 159 #[.slice base n cap, .int .i64 n, .slice (some ⟨vb, vo, none⟩) 1 vcap] w fun e w2 => e = .returned u ∧ w2 = w' := by
  go_enter Tryz.func159, Tryz.ntmps159
  go_wp2_with (at_builtin; refine Lib.wpList_append_run _ rfl _ _ _ _ rfl _ _ rfl rfl _ _ (hr _) ?_)
  all_goals (go_ret; exact ⟨rfl, rfl⟩)
theorem insCV : InsC Tryz.prog 159 2 161 42 41 := ⟨insShiftV, insGrowV, insEndV⟩
end Go.Evl

namespace Go.Evl
open Go Go.Proofs Go.RowKit
set_option maxHeartbeats 4000000 in
set_option maxRecDepth 100000 in
theorem insShiftM (b vb vo i n cap vcap : Nat) (c vc : Array Value) (t t2 : TypeId) (w : World) (hb : w.heap[b]? = some (.cells c t (0, 0))) (hvb : w.heap[vb]? = some (.cells vc t2 (0, 0))) (hne : vb ≠ b) (hi : i < n) (hroom : n + 1 ≤ cap) (h63 : n + 1 ≤ 68719476736)
    (hc : c.size = cap * 2) (cs vs C1 C2 : List Value) (hcs : cs = (c.toList.take (n * 2)).drop (i * 2)) (hvs : vs = (vc.toList.drop vo).take 2) (hvl : vs.length = 2) (h1c : ∀ v ∈ cs, v.oneCell' = true) (h1v : ∀ v ∈ vs, v.oneCell' = true)
    (hC1 : C1 = setL c.toList ((i + 1) * 2) cs) (hC2 : C2 = setL C1 (i * 2) vs) (hvk : vc.size ≠ 0) :
    Calls Tryz.prog 104 #[.slice (some ⟨b, 0, none⟩) n cap, .int .i64 i, .slice (some ⟨vb, vo, none⟩) 1 vcap] w fun e w' =>
      e = .returned (.slice (some ⟨b, 0, none⟩) (n + 1) cap) ∧ w' = (w.drew.setRow b C1.toArray).setRow b C2.toArray := by
  have hsz : szOf Tryz.prog 165 = some 2 := by kernel_rfl
  have hov : ∀ lb cb, (callFunc 156 #[.slice (some ⟨vb, vo, none⟩) 1 vcap, .slice (some ⟨b, (i + 1) * 2, none⟩) lb cb]).run Tryz.prog w = .ok (.value (.bool false)) w := fun lb cb => by
    rw [run_callFunc_extern Tryz.func156 (by kernel_rfl) (by kernel_rfl) (by kernel_rfl) (e := Extern.SlicesOverlaps.overlaps #[48, 48] #[4]) (by kernel_rfl),
      Lib.run_overlaps_apart w 48 4 165 Tryz.underlying48 2 (fun w => run_sz hsz w) ⟨vb, vo, none⟩ ⟨b, (i + 1) * 2, none⟩ 1 vcap lb cb hne t2 t vc.size c.size (by simp [World.shape?, hvb]) (by simp [World.shape?, hb]) (by omega) (frozen_cells hvb _) (frozen_cells hvb _)]
    rfl
  have hcl : cs.length = (n - i) * 2 := by
    rw [hcs]; simp; omega
  have hbd : w.drew.heap[b]? = some (.cells c t (0, 0)) := hb
  have hlC1 : C1.length = c.size := by rw [hC1, setL_length _ _ _ (by simp; omega)]; simp
  have hb1 : (w.drew.setRow b C1.toArray).heap[b]? = some (.cells C1.toArray t (0, 0)) := setRow_heap _ _ _ _ _ _ hbd
  have hvb1 : (w.drew.setRow b C1.toArray).heap[vb]? = some (.cells vc t2 (0, 0)) := by rw [setRow_other _ _ _ _ hne]; exact hvb
  have hcp1 : ∀ ty dc sc, (Builtin.copy_ #[49, 49] ty #[.slice (some ⟨b, (i + 1) * 2, none⟩) (n + 1 - (i + 1)) dc, .slice (some ⟨b, i * 2, none⟩) (n + 1 - i) sc]).run Tryz.prog w.drew = .ok (goInt (n - i : Nat)) (w.drew.setRow b C1.toArray) := fun ty dc sc => by
    rw [hC1]
    exact run_copyK w.drew _ _ ty 165 b _ _ dc b _ _ sc 2 (n - i) c t cs Tryz.underlying49 hsz (by simp only [Nat.min_def]; split <;> omega) hcl hbd (by omega)
      (fun j v hj => by
        rw [cell_of hbd, ← Array.getElem?_toList]
        rw [hcs, List.getElem?_drop, List.getElem?_take] at hj
        split at hj
        · exact hj
        · cases hj) h1c
  have hcp2 : ∀ (W : World), W = w.drew.setRow b C1.toArray → ∀ ty dc, (Builtin.copy_ #[49, 48] ty #[.slice (some ⟨b, i * 2, none⟩) (n + 1 - i) dc, .slice (some ⟨vb, vo, none⟩) 1 vcap]).run Tryz.prog W = .ok (goInt (1 : Nat)) (W.setRow b C2.toArray) := fun W hW ty dc => by
    subst hW
    rw [hC2]
    have := run_copyK (P := Tryz.prog) (w.drew.setRow b C1.toArray) 49 48 ty 165 b (i * 2) (n + 1 - i) dc vb vo 1 vcap 2 1 C1.toArray t vs Tryz.underlying49 hsz (by simp only [Nat.min_def]; split <;> omega) (by omega) hb1 (by simp; omega)
      (fun j v hj => by
        rw [cell_of hvb1, ← Array.getElem?_toList]
        rw [hvs, List.getElem?_take] at hj
        split at hj
        · rw [List.getElem?_drop] at hj; exact hj
        · cases hj) h1v
    simpa using this
  have mixed : Tryz.prog.follows .mixedOrders = true := by kernel_rfl
  have hw1 : IntKind.i64.wrap ((i : Int) + 1) = (i : Int) + 1 := by rw [IntKind.wrap_i64]; omega
  have hb1' : (0 : Int) ≤ (i : Int) + 1 := by omega
  have hin : i ≤ n := by omega
  have htn : ((i : Int) + 1).toNat = i + 1 := by omega
  have hb2 : ¬ (cap = i + 1) := by omega
  have hb3 : (i : Int) ≤ (n : Int) + 1 := by omega
  have hb4 : ¬ (cap = i) := by omega
  have hb5 : (i : Int) + 1 ≤ (n : Int) + 1 := by omega
  clear hcs hvs hC1 hC2 hlC1 hb1 hvb1 hbd hb hvb
  go_enter Tryz.func104, Tryz.ntmps104
  go_wp2_with (simp only [hov])
  go_region_law_o (refine step_copy_runI rfl _ _ 49 49 rfl (.slice (some ⟨b, (i + 1) * 2, none⟩) (n + 1 - (i + 1)) (cap - (i + 1))) (.slice (some ⟨b, i * 2, none⟩) (n + 1 - i) (cap - i)) (by simp [Act.eval, Act.put]) (by simp [Act.eval, Act.put]) (hcp1 _ _ _) ?_)
  go_wp2_with (at_builtin; refine wpList_copyI _ rfl _ _ 49 48 rfl _ _ rfl rfl (hcp2 _ rfl _ _) ?_)
  go_ret
  exact ⟨rfl, rfl⟩
set_option maxHeartbeats 4000000 in
set_option maxRecDepth 100000 in
theorem insGrowM (b vb vo i n cap vcap : Nat) (c vc : Array Value) (t t2 : TypeId) (w : World) (hb : w.heap[b]? = some (.cells c t (0, 0))) (hvb : w.heap[vb]? = some (.cells vc t2 (0, 0))) (hi : i < n) (hnc : n ≤ cap) (hroom : cap < n + 1) (hbig : n + 1 ≤ 68719476736)
    (hc : n * 2 ≤ c.size) (cs vs D1 D2 : List Value) (ROW : Array Value) (i0 : TypeInfo) (z : Value) (hi0 : Tryz.prog.info? 165 = some i0) (hz0 : i0.zero = some z) (hs0 : i0.size = 2) (hzs : z.cells.size = 2) (hbt : i0.bytes ≤ 1024) (hcs : cs = c.toList.take (n * 2)) (hvs : vs = (vc.toList.drop vo).take 2) (hvl : vs.length = 2) (h1c : ∀ v ∈ cs, v.oneCell' = true) (h1v : ∀ v ∈ vs, v.oneCell' = true)
    (hR : ROW = (cs.take (i * 2)).toArray ++ Builtin.zeroCells z.cells (n + 1 - i) ++ Builtin.zeroCells z.cells (grownCap w (n + 1) cap 165 - (n + 1))) (hD1 : D1 = setL ROW.toList (i * 2) vs) (hD2 : D2 = setL D1 ((i + 1) * 2) (cs.drop (i * 2))) :
    Calls Tryz.prog 104 #[.slice (some ⟨b, 0, none⟩) n cap, .int .i64 i, .slice (some ⟨vb, vo, none⟩) 1 vcap] w fun e w' =>
      e = .returned (.slice (some ⟨w.heap.size, 0, none⟩) (n + 1) (grownCap w (n + 1) cap 165)) ∧ w' = ((((w.alloc (.cells ROW 165)).drew).setRow w.heap.size D1.toArray).drew).setRow w.heap.size D2.toArray := by
  have hsz : szOf Tryz.prog 165 = some 2 := by simp [szOf, hi0, hs0]
  have hbw : b < w.heap.size := lt_of_heap hb
  have hvw : vb < w.heap.size := lt_of_heap hvb
  have hcl : cs.length = n * 2 := by rw [hcs]; simp; omega
  have hzc : (n : Int) + 1 - (i : Int) = ((n + 1 - i : Nat) : Int) := by omega
  have hik : i + (n + 1 - i) = n + 1 := by omega
  have hold : (Builtin.firstCells i0.size i (.slice (some ⟨b, 0, none⟩) i cap)).run Tryz.prog w.drew = .ok (cs.take (i * 2)).toArray w.drew := by
    rw [hs0]
    exact run_firstCells_some w.drew 2 i ⟨b, 0, none⟩ i cap (cs.take (i * 2)) (by rw [List.length_take]; omega) (fun j v hj => by
      rw [List.getElem?_take] at hj
      split at hj
      · rw [hcs, List.getElem?_take] at hj
        split at hj
        · rw [add_none, World.cell?_drew, cell_of hb, Nat.zero_add, ← Array.getElem?_toList]; exact hj
        · cases hj
      · cases hj)
  have hby : (n + 1) * i0.bytes ≤ 68719476736 * 1024 := Nat.mul_le_mul hbig hbt
  have hby2 : (n + 1 - i) * i0.bytes ≤ (n + 1) * i0.bytes := Nat.mul_le_mul_right _ (by omega)
  have hrz : ∀ ty, (Builtin.append_ #[49, 3] ty #[.slice (some ⟨b, 0, none⟩) i cap, .int .i64 ((n : Int) + 1 - (i : Int))]).run Tryz.prog w = .ok (.slice (some ⟨w.heap.size, 0, none⟩) (n + 1) (grownCap w (n + 1) cap 165)) (w.drew.alloc (.cells ROW 165)) := fun ty => by
    have h := Lib.run_append_grow_zeros w 49 3 ty 165 i0 z .i64 .i64 Tryz.underlying49 Tryz.underlying3 hi0 hz0 (some ⟨b, 0, none⟩) i cap (cs.take (i * 2)) hold (n + 1 - i) (by omega) (by omega) (by omega) (by omega) (by omega) (by rw [hik]; exact growslice_fits hroom (by omega))
    rw [hik] at h
    rw [hzc, hR]
    exact h
  obtain ⟨G, hG⟩ : ∃ G, G = grownCap w (n + 1) cap 165 := ⟨_, rfl⟩
  rw [← hG] at hrz hR ⊢
  have hGn : n + 1 ≤ G := by rw [hG]; exact grownCap_ge w _ _ _
  have hG63 : G ≤ 9223372036854775807 := by
    have := grownCap_le_maxLen w (n + 1) cap 165 (by unfold maxLen; omega)
    rw [← hG] at this
    unfold maxLen at this
    omega
  have hRs : ROW.size = G * 2 := by
    rw [hR]
    simp only [Array.size_append, size_zeroCells, hzs, List.size_toArray, List.length_take, hcl]
    rw [Nat.min_eq_left (by omega)]
    omega
  obtain ⟨W1, hW1⟩ : ∃ W1, W1 = w.drew.alloc (.cells ROW 165) := ⟨_, rfl⟩
  have hN : W1.heap[w.heap.size]? = some (.cells ROW 165 (0, 0)) := by rw [hW1]; exact heap_alloc_new w.drew _
  have hOv : W1.heap[vb]? = some (.cells vc t2 (0, 0)) := by rw [hW1, heap_alloc_old _ _ (show vb < w.drew.heap.size from hvw)]; exact hvb
  have hOb : W1.heap[b]? = some (.cells c t (0, 0)) := by rw [hW1, heap_alloc_old _ _ (show b < w.drew.heap.size from hbw)]; exact hb
  have hlD1 : D1.length = G * 2 := by rw [hD1, setL_length _ _ _ (by simp; omega)]; simp [hRs]
  have hN2 : (W1.setRow w.heap.size D1.toArray).heap[w.heap.size]? = some (.cells D1.toArray 165 (0, 0)) := setRow_heap _ _ _ _ _ _ hN
  have hOb2 : (W1.setRow w.heap.size D1.toArray).heap[b]? = some (.cells c t (0, 0)) := by rw [setRow_other _ _ _ _ (by omega)]; exact hOb
  have hcpA : ∀ (W : World), W.heap = W1.heap → ∀ ty dc, (Builtin.copy_ #[49, 48] ty #[.slice (some ⟨w.heap.size, i * 2, none⟩) (n + 1 - i) dc, .slice (some ⟨vb, vo, none⟩) 1 vcap]).run Tryz.prog W = .ok (goInt (1 : Nat)) (W.setRow w.heap.size D1.toArray) := fun W hW ty dc => by
    rw [hD1]
    exact run_copyK W 49 48 ty 165 w.heap.size (i * 2) (n + 1 - i) dc vb vo 1 vcap 2 1 ROW 165 vs Tryz.underlying49 hsz (by simp only [Nat.min_def]; split <;> omega) (by omega) (by rw [hW]; exact hN) (by omega)
      (fun j v hj => by
        rw [cell_of (by rw [hW]; exact hOv), ← Array.getElem?_toList]
        rw [hvs, List.getElem?_take] at hj
        split at hj
        · rw [List.getElem?_drop] at hj; exact hj
        · cases hj) h1v
  have hdl : (cs.drop (i * 2)).length = (n - i) * 2 := by rw [List.length_drop, hcl]; omega
  have hcpB : ∀ (W : World), W.heap = (W1.setRow w.heap.size D1.toArray).heap → ∀ ty dc sc, (Builtin.copy_ #[49, 49] ty #[.slice (some ⟨w.heap.size, (i + 1) * 2, none⟩) (n + 1 - (i + 1)) dc, .slice (some ⟨b, i * 2, none⟩) (n - i) sc]).run Tryz.prog W = .ok (goInt (n - i : Nat)) (W.setRow w.heap.size D2.toArray) := fun W hW ty dc sc => by
    rw [hD2]
    exact run_copyK W 49 49 ty 165 w.heap.size ((i + 1) * 2) (n + 1 - (i + 1)) dc b (i * 2) (n - i) sc 2 (n - i) D1.toArray 165 (cs.drop (i * 2)) Tryz.underlying49 hsz (by simp only [Nat.min_def]; split <;> omega) hdl (by rw [hW]; exact hN2) (by simp only [List.size_toArray]; omega)
      (fun j v hj => by
        rw [cell_of (by rw [hW]; exact hOb2), ← Array.getElem?_toList]
        rw [List.getElem?_drop, hcs, List.getElem?_take] at hj
        split at hj
        · exact hj
        · cases hj) (fun v hv => h1c v (List.mem_of_mem_drop hv))
  have hGi : ¬ (G = i) := by omega
  have hGim : ¬ (G = i + 1) := by omega
  have hci : ¬ (cap = i) := by omega
  have hz2 : ¬ ((i : Int) = (n : Int)) := by omega
  have hz3 : (cap : Int) < (n : Int) + 1 := by omega
  have mixed : Tryz.prog.follows .mixedOrders = true := by kernel_rfl
  have hw1 : IntKind.i64.wrap ((i : Int) + 1) = (i : Int) + 1 := by rw [IntKind.wrap_i64]; omega
  have hb1' : (0 : Int) ≤ (i : Int) + 1 := by omega
  have hin : i ≤ n := by omega
  have htn : ((i : Int) + 1).toNat = i + 1 := by omega
  have hb3 : (i : Int) ≤ (n : Int) := by omega
  have hb3' : (i : Int) ≤ (n : Int) + 1 := by omega
  have hb5 : (i : Int) + 1 ≤ (n : Int) + 1 := by omega
  rw [← hW1] at hrz
  subst hW1
  have hF1 : (((w.alloc (.cells ROW 165)).drew.setRow w.heap.size D1.toArray).drew).heap = ((w.drew.alloc (.cells ROW 165)).setRow w.heap.size D1.toArray).heap := rfl
  have hE1 : ((w.alloc (.cells ROW 165)).drew).heap = (w.drew.alloc (.cells ROW 165)).heap := rfl
  clear hG hold hR hcs hvs hD1 hD2 hN hOv hOb hN2 hOb2 hlD1 hb hvb hzc hik
  go_enter Tryz.func104, Tryz.ntmps104
  go_wp2_with (first
    | (at_builtin; refine Lib.wpList_append_run _ rfl _ _ _ _ rfl _ _ rfl rfl _ _ (hrz _) ?_)
    | (at_builtin; refine wpList_copyI _ rfl _ _ 49 48 rfl _ _ rfl rfl (hcpA _ hE1 _ _) ?_))
  go_region_law_o (refine step_copy_runI rfl _ _ 49 49 rfl (.slice (some ⟨w.heap.size, (i + 1) * 2, none⟩) (n + 1 - (i + 1)) (G - (i + 1))) (.slice (some ⟨b, i * 2, none⟩) (n - i) (cap - i)) (by simp [Act.eval, Act.put]) (by simp [Act.eval, Act.put]) (hcpB _ hF1 3 (G - (i + 1)) (cap - i)) ?_)
  go_wp2
  go_ret
  exact ⟨rfl, rfl⟩
set_option maxHeartbeats 4000000 in
set_option maxRecDepth 100000 in
theorem insEndM (base : Option Addr) (n cap vb vo vcap : Nat) (w w' : World) (u : Value) (h63 : n ≤ 68719476736) (hr : ∀ ty, (Builtin.append_ #[49, 48] ty #[.slice base n cap, .slice (some ⟨vb, vo, none⟩) 1 vcap]).run Tryz.prog w = .ok u w') :
    Calls Tryz.prog 104 #[.slice base n cap, .int .i64 n, .slice (some ⟨vb, vo, none⟩) 1 vcap] w fun e w2 => e = .returned u ∧ w2 = w' := by
  go_enter Tryz.func104, Tryz.ntmps104
  go_wp2_with (at_builtin; refine Lib.wpList_append_run _ rfl _ _ _ _ rfl _ _ rfl rfl _ _ (hr _) ?_)
  all_goals (go_ret; exact ⟨rfl, rfl⟩)
theorem insCM : InsC Tryz.prog 104 2 165 49 48 := ⟨insShiftM, insGrowM, insEndM⟩
end Go.Evl

namespace Go.Evl.Zone
open Go Go.Evl Go.Proofs Go.RowKit Go.Sort
set_option maxRecDepth 100000
theorem cmp_walk (a b : ByteArray) (w : World) : Calls P0 143 #[.string a, .string b] w fun e w' => e = .returned (.int .i64 (Lib.compareBytes a.data.toList b.data.toList)) ∧ w' = w := by
  have hcon := Tryz.strings_Compare a b w
  go_enter Tryz.func143, Tryz.ntmps143
  go_wp2_with (go_at_call 194; refine hcon.mono ?_; rintro e w' ⟨rfl, rfl⟩)
  go_ret
  exact ⟨rfl, rfl⟩
theorem lt_cmp (a b : Bytes) : ltOf cmpB a b = decide (cmpB a b < 0) := rfl
theorem cmp_swo : SWO (ltOf cmpB) where
  irrefl x := by rw [lt_cmp, cmp_self]; rfl
  trans x y z h1 h2 := by
    rw [lt_cmp, decide_eq_true_eq] at *
    exact cmp_trans _ _ _ h1 h2
  ntrans x y z h1 h2 := by
    rw [lt_cmp, decide_eq_false_iff_not] at *
    intro h3
    rcases Int.lt_trichotomy (cmpB x y) 0 with k | k | k
    · exact h1 k
    · obtain rfl := cmp_zero _ _ k; exact h2 h3
    · have k2 := cmp_anti _ _ k
      exact h2 (cmp_trans _ _ _ k2 h3)
theorem merge_sortB (l : List Bytes) : (l.mergeSort fun x y => !(ltOf cmpB) y x) = sortB l := by
  refine perm_sorted (le := leB) (fun _ _ => leB_anti) ((List.mergeSort_perm l _).trans (sortB_perm l).symm) ?_ (sortB_sorted l)
  have h := List.pairwise_mergeSort (le := fun x y => !(ltOf cmpB) y x) (fun a b c h1 h2 => ?_) (fun a b => ?_) l
  · refine h.imp fun {a b} hab => ?_
    simpa [lt_cmp, leB] using hab
  · simp only [Bool.not_eq_true', lt_cmp, decide_eq_false_iff_not] at *
    intro k
    rcases Int.lt_trichotomy (cmpB b a) 0 with q | q | q
    · exact h1 q
    · obtain rfl := cmp_zero _ _ q; exact h2 k
    · exact h2 (cmp_trans _ _ _ k (cmp_anti _ _ q))
  · simp only [Bool.or_eq_true, Bool.not_eq_true', lt_cmp, decide_eq_false_iff_not]
    by_cases k : cmpB b a < 0
    · right
      have := cmp_neg k
      omega
    · exact .inl k
theorem merge_sortZ (l : List Int) : (l.mergeSort fun x y => decide (x ≤ y)) = sortZ l := by
  refine perm_sorted (le := fun a b : Int => a ≤ b) (fun _ _ => Int.le_antisymm) ((List.mergeSort_perm l _).trans (sortZ_perm l).symm) ?_ (sortZ_sorted l)
  have h := List.pairwise_mergeSort (le := fun x y : Int => decide (x ≤ y)) (fun a b c h1 h2 => by simp at *; omega) (fun a b => by simp; omega) l
  exact h.imp fun {a b} hab => by simpa using hab
theorem entS : Proofs.Enters P0 168 := enters_of Tryz.func168 (by kernel_rfl) rfl
theorem entI : Proofs.Enters P0 243 := enters_of Tryz.func243 (by kernel_rfl) rfl
theorem entC : Proofs.Enters P0 143 := enters_of Tryz.func143 (by kernel_rfl) rfl
theorem sortSOK : PSound P0 InvW 168 (pSortS 143) := by
  intro args H r h g vs R hW hI hH ha hR
  unfold pSortS at h
  split at h
  · rename_i x q
    split at h
    · rename_i hq
      subst hq
      obtain ⟨v, u, rfl, h1, h2⟩ := cs_two ha
      obtain rfl : u = .func (.func 143) #[] #[] := by
        cases h2 with
        | fn f cs ps hl hh =>
          have : cs = [] := List.length_eq_zero_iff.1 hl
          subst this
          rfl
      refine sortRow_ok (α := Bytes) (fun x => .string ⟨x.toArray⟩) (fun _ => rfl) sortB (fun l => (sortB_perm l).length_eq) strs strs_map #[.func (.func 143) #[] #[]] entS
        (fun p cap w => AnyF.slices_SortFunc_none { Tryz.sortS with } p cap _ w) (fun b cap l w hH hb hl => ?_) h hW hH h1 hR
      have hc := Any.slices_SortFunc_total Tryz.sortS (fun x : Bytes => .string ⟨x.toArray⟩) (fun _ => rfl) cmpB cmp_swo 143 #[] b 0 cap l.toArray w entC
        (fun m os dk hs x y => (cmp_walk ⟨x.toArray⟩ ⟨y.toArray⟩ _).mono fun _ _ ⟨he, hw⟩ => ⟨he, 0, #[], by rw [hw, grow_empty]; rfl⟩) hH hb (by simpa using hl)
        (fun x y h1 h2 => by
          rw [lt_cmp, decide_eq_false_iff_not] at h1 h2
          exact leB_anti h2 h1)
      rw [merge_sortB] at hc
      exact hc
    · cases h
  · cases h
theorem sortIOK : PSound P0 InvW 243 pSortI := by
  intro args H r h g vs R hW hI hH ha hR
  unfold pSortI at h
  split at h
  · rename_i x
    obtain ⟨v, rfl, h1⟩ := cs_one ha
    refine sortRow_ok (α := Int) (fun x => .int .i64 x) (fun _ => rfl) sortZ (fun l => (sortZ_perm l).length_eq) ints ints_map #[] entI
      (fun p cap w => Tryz.slices_Sort_int_none p cap w) (fun b cap l w hH hb hl => ?_) h hW hH h1 hR
    have hc := Tryz.slices_Sort_int b 0 cap l w hH hb hl
    rw [merge_sortZ] at hc
    exact hc
  · cases h
theorem insOK {f : FuncId} {k : Nat} {te tS tV : TypeId} (hE : Go.Proofs.Enters P0 f) (C : InsC P0 f k te tS tV) (hS : P0.underlying tS = some (.slice te)) (hV : P0.underlying tV = some (.slice te)) (hz : ((zeroC P0 te).map fun z => z.length == k && z.all cellP) = some true) (hsm : small P0 te = true) (hsz : szOf P0 te = some k) : PSound P0 InvW f (pIns k) := by
  simp only [Option.map_eq_some_iff, Bool.and_eq_true, beq_iff_eq] at hz
  obtain ⟨z, h1, h2, h3⟩ := hz
  exact ins_ok hE C hS hV h1 h2 hsm hsz h3
theorem insSOK : PSound P0 InvW 138 (pIns 8) := insOK (enters_of Tryz.func138 (by kernel_rfl) rfl) insCS Tryz.underlying44 Tryz.underlying43 (by kernel_rfl) (by kernel_rfl) (by kernel_rfl)
theorem insKOK : PSound P0 InvW 205 (pIns 3) := insOK (enters_of Tryz.func205 (by kernel_rfl) rfl) insCK Tryz.underlying40 Tryz.underlying39 (by kernel_rfl) (by kernel_rfl) (by kernel_rfl)
theorem insVOK : PSound P0 InvW 159 (pIns 2) := insOK (enters_of Tryz.func159 (by kernel_rfl) rfl) insCV Tryz.underlying42 Tryz.underlying41 (by kernel_rfl) (by kernel_rfl) (by kernel_rfl)
theorem insMOK : PSound P0 InvW 104 (pIns 2) := insOK (enters_of Tryz.func104 (by kernel_rfl) rfl) insCM Tryz.underlying49 Tryz.underlying48 (by kernel_rfl) (by kernel_rfl) (by kernel_rfl)
end Go.Evl.Zone

namespace Go.Evl.Zone
open Go Go.Evl Go.Proofs Go.RowKit Go.ChangeShapes Go.WideShapes Go.ChangeAt Go.Proofs.YtofoignbmkflnaaGreatDoor
set_option maxRecDepth 100000
structure Wd (W : World) : Prop where
  m : ∃ m, W.cell? ⟨1, 0, none⟩ = some (.int .i64 m)
def InvM (W : World) (g : G) : Prop := ∀ b, b < W.heap.size → g.Z b ∧ g.w.heap[b]? = W.heap[b]?
theorem invM_ok (W : World) : InvOK (InvM W) where
  mono := fun g g' hW e h b hb => ⟨e.zin b (h b hb).1, (e.keepZ hW (h b hb).1).trans (h b hb).2⟩
  same := fun g g' hw hz h b hb => ⟨hz b (h b hb).1, by rw [hw]; exact (h b hb).2⟩
theorem invM_g0 (W : World) : InvM W (g0 W) := fun b hb => ⟨hb, rfl⟩
theorem InvM.cell {W : World} {g : G} (h : InvM W g) {a : Addr} (ha : a.block < W.heap.size) : g.w.cell? a = W.cell? a := World.cell?_of_block (w := W) (h a.block ha).2
theorem lt_of_cell {W : World} {a : Addr} {v : Value} (h : W.cell? a = some v) : a.block < W.heap.size := by
  unfold World.cell? at h
  cases hb : W.heap[a.block]? with
  | none => rw [hb] at h; simp at h
  | some o => exact lt_of_heap hb
theorem PSound.low {W : World} {f : FuncId} {p : List PV → Heap → Option ORes} (h : PSound P0 InvW f p) : PSound P0 (InvM W) f p := fun args H r hp g vs R hW _ hH hc hk => h args H r hp g vs R hW trivial hH hc hk
theorem ent37 : Proofs.Enters P0 299 := enters_of Tryz.func299 (by kernel_rfl) rfl
theorem ent42 : Proofs.Enters P0 177 := enters_of Tryz.func177 (by kernel_rfl) rfl
theorem uB : P0.underlying 74 = some (.slice 5) := by kernel_rfl
theorem uBag : P0.underlying 24 = some (.slice 74) := by kernel_rfl
theorem cell1 {t : TypeId} (h : ((P0.info? t).bind fun i => i.zero.map fun z => i.size == 1 && z.cells.size == 1 && decide (i.bytes ≤ 16)) = some true) : ∃ i z, P0.info? t = some i ∧ i.zero = some z ∧ i.size = 1 ∧ z.cells.size = 1 ∧ i.bytes ≤ 16 := by
  simp only [Option.bind_eq_some_iff, Option.map_eq_some_iff] at h
  obtain ⟨i, h1, z, h2, h3⟩ := h
  simp only [Bool.and_eq_true, beq_iff_eq, decide_eq_true_eq] at h3
  exact ⟨i, z, h1, h2, h3.1.1, h3.1.2, h3.2⟩
theorem iS : ∃ i z, P0.info? 38 = some i ∧ i.zero = some z ∧ i.size = 1 ∧ z.cells.size = 1 ∧ i.bytes ≤ 16 := cell1 (by kernel_rfl)
theorem iN : ∃ i z, P0.info? 3 = some i ∧ i.zero = some z ∧ i.size = 1 ∧ z.cells.size = 1 ∧ i.bytes ≤ 16 := cell1 (by kernel_rfl)
theorem growI : PSound P0 InvW 226 (pGrow 1) := let ⟨_, _, a, b, c, d, e⟩ := iS; growOK entH Tryz.grow226 rfl a b c d e
theorem growN : PSound P0 InvW 292 (pGrow 1) := let ⟨_, _, a, b, c, d, e⟩ := iN; growOK entG Tryz.grow292 rfl a b c d e
theorem prim_ok {W : World} (hw : Wd W) : PrimOK (env P0) (InvM W) where
  ok := by
    intro c f p hp
    change prim c f = some p at hp
    unfold prim at hp
    split at hp
    · cases hp
      refine split_ok (t := 9) ent37 fun g hg s sep h1 h2 => ?_
      obtain ⟨m, hm⟩ := hw.m
      exact Tryz.strings_Split s sep m g.w h1 ((hg.cell (lt_of_cell hm)).trans hm) h2
    · cases hp
      exact join_ok ent42 (fun g a c sep => Tryz.strings_Join_none a c sep g.w) fun g bk o c xs sep h1 h2 h3 h4 h5 => Tryz.strings_Join bk o c xs sep g.w h1 h2 h3 h4 h5
    · cases hp; exact (truncOK).low
    · cases hp; exact (compareOK).low
    · rcases cond_some hp with ⟨_, rfl⟩ | ⟨_, rfl⟩
      · exact (cFOK uB (by kernel_rfl)).low
      · exact (cOK uB (by kernel_rfl)).low
    · cases hp; exact (cOK uBag (by kernel_rfl)).low
    · rcases cond_some hp with ⟨_, rfl⟩ | ⟨_, rfl⟩
      · exact (cFOK uZ (by kernel_rfl)).low
      · exact (cOK uZ (by kernel_rfl)).low
    · rcases cond_some hp with ⟨_, rfl⟩ | ⟨_, rfl⟩
      · exact (cFOK uV (by kernel_rfl)).low
      · exact (cOK uV (by kernel_rfl)).low
    · rcases cond_some hp with ⟨_, rfl⟩ | ⟨_, rfl⟩
      · exact (cFOK uS (by kernel_rfl)).low
      · exact (cOK uS (by kernel_rfl)).low
    · rcases cond_some hp with ⟨_, rfl⟩ | ⟨_, rfl⟩
      · exact (cFOK uI (by kernel_rfl)).low
      · exact (cOK uI (by kernel_rfl)).low
    · cases hp; exact (cOK uK (by kernel_rfl)).low
    · cases hp; exact (cOK uM (by kernel_rfl)).low
    · rcases cond_some hp with ⟨_, rfl⟩ | ⟨_, rfl⟩
      · exact (cFOK uN (by kernel_rfl)).low
      · exact (cOK uN (by kernel_rfl)).low
    · cases hp; exact (insSOK).low
    · cases hp; exact (insKOK).low
    · cases hp; exact (insVOK).low
    · cases hp; exact (insMOK).low
    · cases hp; exact (sortSOK).low
    · cases hp; exact (sortIOK).low
    · cases hp; exact (growI).low
    · cases hp; exact (growN).low
    · cases hp
theorem zone_calls {W : World} (hw : Wd W) {f : FuncId} {vs : List Value} {aa : List PV} {v : Value} (ha : Cs (g0 W) vs aa) (h : ans (env P0) f aa = some (.val v)) :
    Calls P0 f vs.toArray W fun e W' => e = .returned v ∧ Below W.heap.size W W' :=
  door_calls (E := env P0) (invM_ok W) tab_ok prim_fr prim_dd (prim_ok hw) (invM_g0 W) ha h
theorem own : ownKnob P0.godebug = none := by kernel_rfl
theorem laidOut : laidOutB P0 = true := by kernel_rfl
abbrev laidL : List (String × DataW Unit) := Rows.meshNewsRow.laid
noncomputable def put (h : Array Obj) (g : Nat) (cs : Array Value) : Array Obj := h.modify g fun
  | .cells _ t frozen => .cells cs t frozen
  | o => o
noncomputable def laidWorld (os : Os) : World :=
  let N := (World.settled P0 os).heap.size
  let w0 := World.holding P0 os ⟨#[.cells #[.string ⟨#[105, 110, 118, 97, 108, 105, 100, 32, 115, 121, 110, 116, 97, 120]⟩] 442, .cells #[.string ⟨#[118, 97, 108, 117, 101, 32, 111, 117, 116, 32, 111, 102, 32, 114, 97, 110, 103, 101]⟩] 442], #[], []⟩
  let nums (k : IntKind) (l : List Nat) : Array Value := (l.map fun (z : Nat) => Value.int k (z : Int)).toArray
  let h1 := put w0.heap 3 #[.iface 440 (.pointer (some ⟨N, 0, none⟩))]
  let h2 := put h1 4 #[.iface 440 (.pointer (some ⟨N + 1, 0, none⟩))]
  let h3 := put h2 7 (nums .u8 Pinned.utf8FirstZ)
  let h4 := put h3 8 (nums .u8 [128, 191, 160, 191, 128, 159, 144, 191, 128, 143, 0, 0, 0, 0, 0, 0, 0, 0, 0, 0, 0, 0, 0, 0, 0, 0, 0, 0, 0, 0, 0, 0])
  let h5 := put h4 2 (Lib.pow10Tab.map fun z => Value.int .u64 z).toArray
  let h6 := put h5 5 (nums .u8 [0, 1, 28, 2, 29, 14, 24, 3, 30, 22, 20, 15, 25, 17, 4, 8, 31, 27, 13, 23, 21, 19, 16, 7, 26, 12, 18, 6, 11, 5, 10, 9])
  let h7 := put h6 6 (nums .u8 [0, 1, 56, 2, 57, 49, 28, 3, 61, 58, 42, 50, 38, 29, 17, 4, 62, 47, 59, 36, 45, 43, 51, 22, 53, 39, 33, 30, 24, 18, 12, 5, 63, 55, 48, 27, 60, 41, 37, 16, 46, 35, 44, 21, 52, 32, 23, 11, 54, 26, 40, 15, 34, 20, 31, 10, 25, 14, 19, 9, 13, 8, 7, 6])
  { w0 with heap := h7 }
theorem laid_met (os : Os) (args : Array Value) : laidMet P0 laidL ((laidWorld os).forCall (fun _ _ => 0) ⟨#[], args, []⟩).memory :=
  laidMet_of_run' 8 (by kernel_rfl) (by kernel_rfl)
def LawOK (k : FuncId) (ts : List TypeId) : Prop := ∀ aa, FitAll P0 12 ts aa → ans (env P0) k aa = some (.val (.bool true))
theorem lift {H : Type} {enc : TypeId × Value → H} {os : Os} (started : os.Started) {k : FuncId} {fn : Func} {s : ChangeSpec} {F : Stop.Interp} (hfn : P0.funcs[k]? = some fn) (noInit : P0.inits.idxOf? k = none) (hvars : s.vars = [])
    (hspec : ∀ ds : List (DataW H), ds.length = fn.params.toList.length → s.fn H ds = { results := [.lit (.bool true)], args := ds }) (hres : fn.resultTypes = #[4])
    (hrd : (fn.params.toList.all fun t => rdB P0 12 t && P0.readableRec t && decide (t < P0.types.size)) = true) (hlaw : LawOK k fn.params.toList) (wargs : Array Value)
    (hok : Input.okWideB P0 ((laidWorld os).forCall (fun _ _ => 0) ⟨#[], wargs, []⟩) k ⟨#[], wargs, []⟩ = true)
    (hvr : ((laidWorld os).forCall (fun _ _ => 0) ⟨#[], wargs, []⟩).variablesRefB P0 = true)
    (hhp : ((((laidWorld os).forCall (fun _ _ => 0) ⟨#[], wargs, []⟩).heap.toList.drop P0.globals.size).take ((begin P0 (fun _ _ => 0) default).world.heap.size - P0.globals.size) = (begin P0 (fun _ _ => 0) default).world.heap.toList.drop P0.globals.size))
    (hrow : (OpenSpec.ofChange s).preRow enc P0 fn [] false laidL ((laidWorld os).forCall (fun _ _ => 0) ⟨#[], wargs, []⟩).memory wargs) :
    ReturnsInHanded {} Tryz.checked os k .any ((OpenSpec.ofChange s).preRow enc P0 fn [] false laidL) (((OpenSpec.ofChange s).at F).post enc P0 fn false true false false) := by
  refine returnsInHanded_of_row (C := Tryz.checked) (s := OpenSpec.ofChange s) own started noInit hfn (witness_row_atRef (enc := enc) (C := Tryz.checked) false (laidWorld os) wargs rfl hvr hhp hok hrow) ?_
  intro W base args ds gs before hval hW _ _ _ hL hS _
  have hrd' : ∀ t ∈ fn.params.toList, rdB P0 12 t = true ∧ P0.readableRec t = true ∧ t < P0.types.size := fun t ht => by
    have := List.all_eq_true.1 hrd t ht
    simp only [Bool.and_eq_true, decide_eq_true_eq] at this
    exact ⟨this.1.1, this.1.2, this.2⟩
  have hW0 : DataW.Whole enc P0 fn.params.toList s.vars false W args.toList ds gs before := hW
  have hW1 := hW0
  obtain ⟨p, q, hA, hV, _, _, _⟩ := hW1
  rw [hvars] at hV
  obtain ⟨rfl, _⟩ := trodVars_none hV
  obtain ⟨aa, hc, hfit⟩ := args_read (fun t ht => (hrd' t ht).1) (fun j t v a b => hval j t v (by simpa using a) (by simpa using b)) hA
  have hlen : ∀ {ts : List TypeId} {vs : List Value} {ds : List (DataW H)} {ps : List MemPlace}, DataW.TrodAll enc P0 W 0 (fun _ => true) true ts vs ds ps → ds.length = ts.length := by
    intro ts
    induction ts with
    | nil => intro vs ds ps h; match vs, ds, h with | [], [], _ => rfl
    | cons t ts ih => intro vs ds ps h; match vs, ds, h with | _ :: _, _ :: _, ⟨_, _, _, h2, _⟩ => simp [ih h2]
  have hcall := zone_calls ⟨Tryz.laysM146.s1_3 W hS⟩ (f := k) (vs := args.toList) hc (hlaw aa hfit)
  rw [Array.toArray_toList] at hcall
  refine hcall.mono ?_
  rintro e W' ⟨rfl, hb⟩
  refine ⟨_, rfl, ?_⟩
  exact law_post (s := s) (tb := 4) laidOut hW0 hvars (by rw [List.append_nil]; exact hspec ds (hlen hA)) hres Tryz.underlying4 (fun t ht => ⟨(hrd' t ht).2.1, (hrd' t ht).2.2⟩) hb
end Go.Evl.Zone

namespace Go.Evl.Zone
open Go Go.Evl
variable {P : Program}
abbrev iv' (n : Int) : PV := .val (.int .i64 n)
abbrev bv' (b : Bool) : PV := .val (.bool b)
abbrev s0' : PV := .val (.string ⟨#[48]⟩)
abbrev nl' : PV := .im [] false
abbrev rootP : List PV := [s0', iv' 0, iv' 0, iv' 0, iv' 0, nl', nl', nl', nl', .im [[iv' 1, .val (.complex .f64 0 0), .val (.float .f64 0)]] false, .im [[s0']] false, nl', nl']
abbrev rootR : List PV := [s0', iv' 0, iv' 0, iv' 0, iv' 0, nl', nl', nl', nl', .im [[iv' 1, iv' 0, iv' 0, iv' 0]] false, .im [[s0']] false, nl', nl']
structure MC (P : Program) : Prop where
  told : ans (env P) 5 [] = some (bv' true)
  pR : ans (env P) 9 [] = some (.agg rootP)
  from_ : ∀ n, ans (env P) 7 [.agg [.im [rootP] false, nl', iv' n]] = some (.agg [.im [rootR] false, nl', iv' n])
  new_ : ∀ n, ans (env P) 8 [iv' n] = some (.agg [.im [rootR] false, nl', iv' n])
  same : ∀ k : Nat, k < 33 → ans (env P) 6 [.agg [.im [rootR] false, nl', iv' (k : Int)], .agg [.im [rootR] false, nl', iv' (k : Int)]] = some (bv' true)
theorem new_in {n : Int} (C : MC P) (h1 : ¬ n < 1) (h2 : ¬ 32 < n) : ans (env P) 4 [iv' n] = some (.tup [.agg [.im [rootP] false, nl', iv' n], iv' 0]) := by
  have hR := C.pR
  refine ans_V rfl rfl ?_
  simp [c4, resV, resP, freeze, chunks, elems, plainss, plains, plain, allLen, h1, h2, hR]
theorem new_out {n : Int} (h : n < 1 ∨ 32 < n) : ans (env P) 4 [iv' n] = some (.tup [.agg [nl', nl', iv' 0], iv' 1]) := by
  refine ans_V rfl rfl ?_
  by_cases h1 : n < 1
  · simp [c4, resV, resP, freeze, chunks, elems, plainss, plains, plain, allLen, h1]
  · have h2 : 32 < n := by omega
    simp [c4, resV, resP, freeze, chunks, elems, plainss, plains, plain, allLen, h1, h2]
theorem meshNews_ans (C : MC P) {n : Int} : ans (env P) 3 [iv' n] = some (bv' true) := by
  have ht := C.told
  refine ans_V rfl rfl ?_
  by_cases h : n < 1 ∨ 32 < n
  · have hn := new_out (P := P) h
    by_cases h1 : n < 1
    · simp [c3, resV, resP, freeze, chunks, elems, plainss, plains, plain, allLen, h1, hn, ht]
    · have h2 : 32 < n := by omega
      simp [c3, resV, resP, freeze, chunks, elems, plainss, plains, plain, allLen, h1, h2, hn, ht]
  · have h1 : ¬ n < 1 := by omega
    have h2 : ¬ 32 < n := by omega
    have hn := new_in C h1 h2
    obtain ⟨k, rfl⟩ : ∃ k : Nat, n = (k : Int) := ⟨n.toNat, by omega⟩
    have hk : k < 33 := by omega
    have hF := C.from_ (k : Int)
    have hW := C.new_ (k : Int)
    have hS := C.same k hk
    generalize (k : Int) = m at *
    simp [c3, resV, resP, freeze, chunks, elems, plainss, plains, plain, allLen, h1, h2, hn, ht, hF, hW, hS]
end Go.Evl.Zone

namespace Go.Evl.Zone
open Go Go.Evl
set_option maxRecDepth 1000000
noncomputable def runF (f : FuncId) (cf : CF) (args : List PV) : Option (Option PV) := (ev (env Proofs.Tryz.prog) 3000 f cf.body ⟨start args, Heap.empty, []⟩).map fun q => ((resV q.2 cf.res).bind (expV q.2.h)).map (·.1)
theorem ans_run {f : FuncId} {cf : CF} {args : List PV} {v : PV} (hc : tab f = some cf) (h : runF f cf args = some (some v)) : ans (env Proofs.Tryz.prog) f args = some v := by
  unfold runF at h
  simp only [Option.map_eq_some_iff] at h
  obtain ⟨⟨e, st⟩, h1, ⟨v', is⟩, h2, h3⟩ := h
  simp only at h3
  subst h3
  exact ans_of ⟨cf, hc, rfl, 3000, e, st, is, h1, h2⟩
end Go.Evl.Zone

namespace Go.Evl.Zone
open Go Go.Evl
set_option maxRecDepth 1000000
theorem m_told : runF 5 c5 [] = some (some (bv' true)) := by kernel_rfl
theorem m_root : runF 9 c9 [] = some (some (.agg rootP)) := by kernel_rfl
theorem m_from (n : Int) : runF 7 c7 [.agg [.im [rootP] false, nl', iv' n]] = some (some (.agg [.im [rootR] false, nl', iv' n])) := by kernel_rfl
theorem m_new (n : Int) : runF 8 c8 [iv' n] = some (some (.agg [.im [rootR] false, nl', iv' n])) := by kernel_rfl
theorem m_same : (List.range 33).map (fun (k : Nat) => runF 6 c6 [.agg [.im [rootR] false, nl', iv' ((k : Nat) : Int)], .agg [.im [rootR] false, nl', iv' ((k : Nat) : Int)]]) = (List.range 33).map (fun _ => some (some (bv' true))) := by kernel_rfl
theorem mC : MC Proofs.Tryz.prog where
  told := ans_run rfl m_told
  pR := ans_run rfl m_root
  from_ := fun n => ans_run rfl (m_from n)
  new_ := fun n => ans_run rfl (m_new n)
  same := fun k hk => ans_run rfl (List.map_inj_left.1 m_same k (List.mem_range.2 hk))
end Go.Evl.Zone
