/- The evaluator's texts ZPl to ZPl, joined. -/
import Derived.Test.YtofoignbmkflnaaGreatDoorEv3
import Derived.Lib.SplitLaws
import Derived.Lib.Join
import Derived.Lib.ItoaNum
set_option linter.all false
set_option linter.deprecated false
set_option linter.unusedVariables false
set_option linter.unusedSimpArgs false
set_option linter.unnecessarySimpa false
namespace Go.Evl.Zone
open Go Go.Evl
theorem joinL_lib (sep : List UInt8) : ∀ l : List (List UInt8), joinL sep l = Lib.join l sep
  | [] => rfl
  | [x] => by rw [Lib.join_one]; rfl
  | x :: y :: r => by
    rw [joinL, joinL_lib sep (y :: r), Lib.join_cons, Lib.join_cons]
    simp [Lib.joinTail]
theorem digL_lib : ∀ (f n : Nat) (acc : List UInt8), n < 10 ^ f → 0 < f → digL f n acc = Lib.decDigits n ++ acc
  | 0, _, _, _, h => absurd h (by decide)
  | f + 1, n, acc, hn, _ => by
    rw [digL, Lib.decDigits]
    split
    · simp
    · rename_i hge
      have hf : 0 < f := by
        cases f with
        | zero => simp at hn; omega
        | succ f => omega
      rw [digL_lib f (n / 10) _ (by rw [Nat.pow_succ] at hn; omega) hf]
      simp
theorem itoaL_lib {n : Int} (h0 : -9223372036854775808 ≤ n) (h1 : n ≤ 9223372036854775807) : itoaL n = Lib.itoa n := by
  unfold itoaL Lib.itoa
  have hp : n.natAbs < 10 ^ 20 := by
    have : (10 : Nat) ^ 20 = 100000000000000000000 := by decide
    omega
  split
  · rw [digL_lib 20 _ _ hp (by decide)]; simp
  · rename_i hn
    rw [digL_lib 20 _ _ hp (by decide), show n.natAbs = n.toNat by omega]; simp
theorem splitK_skip (c b : UInt8) (h : b ≠ c) : ∀ (k : Nat) (l : List UInt8) (x : List UInt8) (xs : List (List UInt8)), Lib.splitK [c] 0 k l = x :: xs → Lib.splitK [c] 0 k (b :: l) = (b :: x) :: xs := by
  intro k l x xs hx
  cases k with
  | zero => simp [Lib.splitK] at hx ⊢; exact hx
  | succ k =>
    have hp : ([c] : List UInt8).isPrefixOf (b :: l) = false := by simp [List.isPrefixOf, Ne.symm h]
    have hix : Lib.index (b :: l) [c] = if Lib.index l [c] == -1 then -1 else Lib.index l [c] + 1 := by rw [Lib.index, hp]; simp
    unfold Lib.splitK at hx ⊢
    by_cases hm : Lib.index l [c] = -1
    · rw [if_pos (by simpa using hm)] at hx
      rw [if_pos (by rw [hix, if_pos (by simpa using hm)]; rfl)]
      simp at hx ⊢; exact hx
    · have hge := Lib.index_ge l [c]
      obtain ⟨j, hj⟩ : ∃ j : Nat, Lib.index l [c] = j := ⟨(Lib.index l [c]).toNat, by omega⟩
      rw [if_neg (by simpa using hm)] at hx
      have hix' : Lib.index (b :: l) [c] = ((j + 1 : Nat) : Int) := by rw [hix, if_neg (by simpa using hm), hj]; omega
      rw [if_neg (by rw [hix']; simp; omega), hix']
      rw [hj] at hx
      simp at hx ⊢
      exact ⟨hx.1, hx.2⟩
theorem splitL_ne (c : UInt8) : ∀ l : List UInt8, splitL c l ≠ []
  | [] => by simp [splitL]
  | b :: l => by
    unfold splitL
    split
    · simp
    · split <;> simp
theorem splitL_lib (c : UInt8) : ∀ l : List UInt8, Lib.splitK [c] 0 (Lib.count l [c]) l = splitL c l
  | [] => by rw [Lib.count_miss (by simp [Lib.index])]; rfl
  | b :: l => by
    by_cases h : b = c
    · subst h
      rw [Lib.count_cons_eq, Nat.add_comm, Lib.splitK]
      have hix : Lib.index (b :: l) [b] = 0 := by rw [Lib.index]; simp [List.isPrefixOf]
      rw [if_neg (by rw [hix]; decide), hix, splitL, if_pos rfl]
      simp
      exact splitL_lib b l
    · rw [Lib.count_cons_ne b c l h, splitL, if_neg h]
      have ih := splitL_lib c l
      cases hs : splitL c l with
      | nil => exact absurd hs (splitL_ne c l)
      | cons x xs =>
        rw [hs] at ih
        exact splitK_skip c b h _ l x xs ih
theorem splitB_lib {s p : ByteArray} {c : UInt8} (hp : p.data.toList = [c]) : (Lib.splitB p 0 (Lib.countB s p) s).map (·.data.toList) = splitL c s.data.toList := by
  rw [Lib.splitB_data, Lib.countB, hp, splitL_lib]
end Go.Evl.Zone
