/- The evaluator's texts ZPl to ZN8, joined. -/
import Derived.Test.YtmhcmcpijmogfaaGreatDoorEv3
import Derived.Lib.SplitLaws
import Derived.Lib.Join
import Derived.Lib.ItoaNum
import Derived.Lib.Strings
set_option linter.all false
set_option linter.deprecated false
set_option linter.unusedVariables false
set_option linter.unusedSimpArgs false
set_option linter.unnecessarySimpa false
namespace Go.Evl.Zone
open Go Go.Evl
theorem joinL_lib (sep : List UInt8) : ∀ l : List (List UInt8), joinL sep l = Lib.join l sep
  | [] => rfl
  | [x] => by rw [Lib.join_one]; rfl
  | x :: y :: r => by
    rw [joinL, joinL_lib sep (y :: r), Lib.join_cons, Lib.join_cons]
    simp [Lib.joinTail]
theorem digL_lib : ∀ (f n : Nat) (acc : List UInt8), n < 10 ^ f → 0 < f → digL f n acc = Lib.decDigits n ++ acc
  | 0, _, _, _, h => absurd h (by decide)
  | f + 1, n, acc, hn, _ => by
    rw [digL, Lib.decDigits]
    split
    · simp
    · rename_i hge
      have hf : 0 < f := by
        cases f with
        | zero => simp at hn; omega
        | succ f => omega
      rw [digL_lib f (n / 10) _ (by rw [Nat.pow_succ] at hn; omega) hf]
      simp
theorem itoaL_lib {n : Int} (h0 : -9223372036854775808 ≤ n) (h1 : n ≤ 9223372036854775807) : itoaL n = Lib.itoa n := by
  unfold itoaL Lib.itoa
  have hp : n.natAbs < 10 ^ 20 := by
    have : (10 : Nat) ^ 20 = 100000000000000000000 := by decide
    omega
  split
  · rw [digL_lib 20 _ _ hp (by decide)]; simp
  · rename_i hn
    rw [digL_lib 20 _ _ hp (by decide), show n.natAbs = n.toNat by omega]; simp
theorem splitK_skip (c b : UInt8) (h : b ≠ c) : ∀ (k : Nat) (l : List UInt8) (x : List UInt8) (xs : List (List UInt8)), Lib.splitK [c] 0 k l = x :: xs → Lib.splitK [c] 0 k (b :: l) = (b :: x) :: xs := by
  intro k l x xs hx
  cases k with
  | zero => simp [Lib.splitK] at hx ⊢; exact hx
  | succ k =>
    have hp : ([c] : List UInt8).isPrefixOf (b :: l) = false := by simp [List.isPrefixOf, Ne.symm h]
    have hix : Lib.index (b :: l) [c] = if Lib.index l [c] == -1 then -1 else Lib.index l [c] + 1 := by rw [Lib.index, hp]; simp
    unfold Lib.splitK at hx ⊢
    by_cases hm : Lib.index l [c] = -1
    · rw [if_pos (by simpa using hm)] at hx
      rw [if_pos (by rw [hix, if_pos (by simpa using hm)]; rfl)]
      simp at hx ⊢; exact hx
    · have hge := Lib.index_ge l [c]
      obtain ⟨j, hj⟩ : ∃ j : Nat, Lib.index l [c] = j := ⟨(Lib.index l [c]).toNat, by omega⟩
      rw [if_neg (by simpa using hm)] at hx
      have hix' : Lib.index (b :: l) [c] = ((j + 1 : Nat) : Int) := by rw [hix, if_neg (by simpa using hm), hj]; omega
      rw [if_neg (by rw [hix']; simp; omega), hix']
      rw [hj] at hx
      simp at hx ⊢
      exact ⟨hx.1, hx.2⟩
theorem splitL_ne (c : UInt8) : ∀ l : List UInt8, splitL c l ≠ []
  | [] => by simp [splitL]
  | b :: l => by
    unfold splitL
    split
    · simp
    · split <;> simp
theorem splitL_lib (c : UInt8) : ∀ l : List UInt8, Lib.splitK [c] 0 (Lib.count l [c]) l = splitL c l
  | [] => by rw [Lib.count_miss (by simp [Lib.index])]; rfl
  | b :: l => by
    by_cases h : b = c
    · subst h
      rw [Lib.count_cons_eq, Nat.add_comm, Lib.splitK]
      have hix : Lib.index (b :: l) [b] = 0 := by rw [Lib.index]; simp [List.isPrefixOf]
      rw [if_neg (by rw [hix]; decide), hix, splitL, if_pos rfl]
      simp
      exact splitL_lib b l
    · rw [Lib.count_cons_ne b c l h, splitL, if_neg h]
      have ih := splitL_lib c l
      cases hs : splitL c l with
      | nil => exact absurd hs (splitL_ne c l)
      | cons x xs =>
        rw [hs] at ih
        exact splitK_skip c b h _ l x xs ih
theorem splitB_lib {s p : ByteArray} {c : UInt8} (hp : p.data.toList = [c]) : (Lib.splitB p 0 (Lib.countB s p) s).map (·.data.toList) = splitL c s.data.toList := by
  rw [Lib.splitB_data, Lib.countB, hp, splitL_lib]
end Go.Evl.Zone

namespace Go.Evl.Zone
open Go Go.Evl Go.Evl.Fl
variable {P : Program}
abbrev sv (l : List UInt8) : PV := .val (.string ⟨l.toArray⟩)
theorem ba_append (a b : List UInt8) : (⟨a.toArray⟩ : ByteArray) ++ ⟨b.toArray⟩ = ⟨(a ++ b).toArray⟩ := by
  apply ByteArray.ext
  simp
theorem ba_toList (a : List UInt8) : (⟨a.toArray⟩ : ByteArray).toList = a := by
  rw [ByteArray.toList_eq]
theorem evBin_sadd {t : TypeId} {cx cy : Bool} {a b : List UInt8} (h : a.length + b.length < 9223372036854775808) : evBin P .add t cx cy (sv a) (sv b) = some (sv (a ++ b)) := by
  have : evBin P .add t cx cy (sv a) (sv b) = scal P (if ((((⟨a.toArray⟩ : ByteArray).size + (⟨b.toArray⟩ : ByteArray).size : Nat)) : Int) > IntKind.i64.max then unsupported (.resourceLimit "string concatenation: a sum of the lengths that is no int") else pure (.string ((⟨a.toArray⟩ : ByteArray) ++ ⟨b.toArray⟩))) := rfl
  rw [this, if_neg (by simp only [ByteArray.size, List.size_toArray]; show ¬ ((a.length + b.length : Nat) : Int) > 9223372036854775807; omega), ba_append]
  rfl
theorem evBin_seql {t : TypeId} {cx cy : Bool} (a b : List UInt8) : evBin P .eql t cx cy (sv a) (sv b) = some (.val (.bool (decide (a = b)))) := by
  have : evBin P .eql t cx cy (sv a) (sv b) = some (.val (.bool ((⟨a.toArray⟩ : ByteArray).toList == (⟨b.toArray⟩ : ByteArray).toList))) := rfl
  rw [this, ba_toList, ba_toList]
  congr 3
  rw [Bool.eq_iff_iff]
  simp
theorem evBin_sneq {t : TypeId} {cx cy : Bool} (a b : List UInt8) : evBin P .neq t cx cy (sv a) (sv b) = some (.val (.bool (decide (a ≠ b)))) := by
  have : evBin P .neq t cx cy (sv a) (sv b) = some (.val (.bool (!((⟨a.toArray⟩ : ByteArray).toList == (⟨b.toArray⟩ : ByteArray).toList)))) := rfl
  rw [this, ba_toList, ba_toList]
  congr 3
  rw [Bool.eq_iff_iff]
  simp
theorem slice_dig {H : Heap} {d : Nat} (h : d < 10) : sliceP H 0 (.val (.string ⟨#[48, 49, 50, 51, 52, 53, 54, 55, 56, 57]⟩)) (some d) (some (d + 1)) none = some (sv [UInt8.ofNat (48 + d)], []) := by
  have : d = 0 ∨ d = 1 ∨ d = 2 ∨ d = 3 ∨ d = 4 ∨ d = 5 ∨ d = 6 ∨ d = 7 ∨ d = 8 ∨ d = 9 := by omega
  rcases this with h | h | h | h | h | h | h | h | h | h <;> subst h <;> rfl
theorem max_int {t : TypeId} {ts : Array TypeId} {a b : Int} (hab : b ≤ a) : evFun P .max ts t [.int .i64 a, .int .i64 b] = some (.val (.int .i64 a)) := by
  have : evFun P .max ts t [.int .i64 a, .int .i64 b] = some (.val (.int .i64 (if b > a then b else a))) := rfl
  rw [this, if_neg (by omega)]
theorem dec_len : ∀ (u k : Nat), u < 10 ^ (k + 1) → (Lib.decDigits u).length ≤ k + 1
  | u, 0, h => by rw [Lib.decDigits, dif_pos (by simpa using h)]; simp
  | u, k + 1, h => by
    rw [Lib.decDigits]
    split
    · simp
    · simp
      exact dec_len (u / 10) k (by rw [Nat.pow_succ] at h; omega)
theorem num_nat : ∀ (n : Nat), n < 1000000000 → ans (env P) 115 [.val (.int .i64 n)] = some (sv (Lib.decDigits n)) := by
  intro n
  induction n using Nat.strongRecOn with
  | _ n IH =>
    intro hn
    refine ans_V rfl rfl ?_
    have h0 : ¬ ((n : Int) < 0) := by omega
    by_cases h : n < 10
    · have h' : (n : Int) < 10 := by omega
      have hw : IntKind.i64.wrap ((n : Int) + 1) = ((n + 1 : Nat) : Int) := by rw [wrap64_id (by omega)]; omega
      have hm : evFun P .max #[3, 3] 3 [.int .i64 n, .int .i64 0] = some (.val (.int .i64 n)) := max_int (by omega)
      have hp : (0 : Int) ≤ (n : Int) + 1 := by omega
      have hd := fun H => slice_dig (H := H) h
      rw [Lib.decDigits_one h]
      simp [c115, h0, h', hm, hw, hd, hp]
    · have h' : ¬ ((n : Int) < 10) := by omega
      have hq : IntKind.i64.wrap ((n : Int).tdiv 10) = ((n / 10 : Nat) : Int) := by rw [Int.tdiv_eq_ediv_of_nonneg (by omega), wrap64_id (by omega)]; omega
      have hr : (n : Int).tmod 10 = ((n % 10 : Nat) : Int) := by rw [Int.tmod_eq_emod_of_nonneg (by omega)]; omega
      have hq' : IntKind.i64.wrap ((n : Int) / 10) = ((n / 10 : Nat) : Int) := by rw [wrap64_id (by omega)]; omega
      have hr' : (n : Int) % 10 = ((n % 10 : Nat) : Int) := by omega
      have ih := IH (n / 10) (by omega) (by omega)
      have hl := dec_len (n / 10) 8 (by omega)
      have hd : n % 10 < 10 := by omega
      rw [Lib.decDigits, dif_neg h]
      generalize n / 10 = e at *
      generalize n % 10 = d at *
      have hw : IntKind.i64.wrap ((d : Int) + 1) = ((d + 1 : Nat) : Int) := by rw [wrap64_id (by omega)]; omega
      have hp : (0 : Int) ≤ (d : Int) + 1 := by omega
      have hd' := fun H => slice_dig (H := H) hd
      generalize UInt8.ofNat (48 + d) = c at *
      have hs : ∀ {t : TypeId} {cx cy : Bool}, evBin P .add t cx cy (sv (Lib.decDigits e)) (sv [c]) = some (sv (Lib.decDigits e ++ [c])) := by
        intro t cx cy
        refine evBin_sadd ?_
        simp; omega
      simp [c115, h0, h', hq, hr, hq', hr', hw, ih, evBin_quo, evBin_rem, hd', hp, hs]
theorem num_ans {n : Int} (h : -1000000000 < n ∧ n < 1000000000) : ans (env P) 115 [.val (.int .i64 n)] = some (sv (Lib.itoa n)) := by
  by_cases h0 : n < 0
  · refine ans_V rfl rfl ?_
    have hn := num_nat (P := P) n.natAbs (by omega)
    have hl := dec_len n.natAbs 8 (by omega)
    have hw : IntKind.i64.wrap (-n) = ((n.natAbs : Nat) : Int) := by rw [wrap64_id (by omega)]; omega
    have h1 := h.1
    rw [Lib.itoa, if_pos h0]
    generalize n.natAbs = e at *
    have hs : ∀ {t : TypeId} {cx cy : Bool}, evBin P .add t cx cy (.val (.string ⟨#[45]⟩)) (sv (Lib.decDigits e)) = some (sv (45 :: Lib.decDigits e)) := by
      intro t cx cy
      exact evBin_sadd (a := [45]) (by simp; omega)
    simp [c115, h0, h1, hw, hn, hs, un_neg]
  · obtain ⟨k, rfl⟩ : ∃ k : Nat, n = k := ⟨n.toNat, by omega⟩
    rw [num_nat k (by omega), Lib.itoa, if_neg h0]
    rfl
end Go.Evl.Zone

namespace Go.Evl.Zone
open Go Go.Evl Go.Evl.Fl
variable {P : Program}
def namesL : List (List UInt8) := [[], [97, 108, 108], [100, 105, 115, 99], [104, 97, 108, 102], [110, 111, 116], [97, 110, 100], [111, 114]]
def svs (l : List (List UInt8)) : List (List PV) := l.map fun x => [sv x]
@[simp] theorem svs_length (l : List (List UInt8)) : (svs l).length = l.length := by simp [svs]
@[simp] theorem svs_len : ∀ (l : List (List UInt8)), allLen 1 (svs l) = true
  | [] => rfl
  | q :: l => by simp only [svs, List.map_cons, allLen]; rw [show (List.map (fun x => [sv x]) l) = svs l from rfl, svs_len l]; rfl
theorem svs_at {l : List (List UInt8)} {i : Nat} {q : List UInt8} (h : l[i]? = some q) (h' : i < (svs l).length) : (svs l)[i] = [sv q] := by
  simp only [svs, List.getElem_map]
  rw [(List.getElem?_eq_some_iff.1 h).2]
theorem plainss_svs (l : List (List UInt8)) : plainss (svs l) = some (svs l) := plainss_ok (by intro y hy; simp [svs] at hy; obtain ⟨q, _, rfl⟩ := hy; rfl)
theorem names_ans : ans (env P) 93 [] = some (.im (svs namesL) false) := by
  refine ans_V rfl rfl ?_
  simp [c93, chunks, freeze, namesL, svs]
theorem number_ans (T : Typed P) {b : Nat} {n : Int} (h : Is b n) : ans (env P) 95 [.val (.float .f64 b)] = some (sv (Lib.itoa n)) := by
  refine ans_V rfl rfl ?_
  have hn := h.1
  have c1 : scal P (Go.convert 165 3 (.float .f64 b)) = some (.val (.int .i64 n)) := cv_fi (by rw [T.t41]; rfl) T.t3 h.toInt (by show -9223372036854775808 ≤ n ∧ n ≤ 9223372036854775807; omega)
  have c2 : ∀ H, pItoa [.val (.int .i64 n)] H = some ⟨sv (Lib.itoa n), H, [], some []⟩ := by
    intro H
    rw [← itoaL_lib (by omega) (by omega)]
    simp only [pItoa]
    rw [if_pos (by omega)]; rfl
  simp [c95, c1, VA_prim (E := env P) (g := 150) (p := pItoa) rfl, c2]
def idxFrom (w : List UInt8) : List (List UInt8) → Nat → Int
  | [], _ => -1
  | x :: r, i => if w = x then i else idxFrom w r (i + 1)
theorem loop49 {L : List (List UInt8)} {w : List UInt8} {ks : List Fr'} {K : Ex → St → Prop} (hL : L.length ≤ most) : ∀ (rest : List (List UInt8)) (i : Nat) (st : St), L.drop i = rest → i ≤ L.length → st.σ 0 = .im (svs L) false → st.σ 1 = sv w → st.σ 7 = .val (.int .i64 L.length) → st.σ 8 = .val (.int .i64 i) →
    (∀ st', idxFrom w rest i ≠ -1 → st'.σ 4 = .val (.int .i64 (idxFrom w rest i)) → K .ret st') → (∀ st', idxFrom w rest i = -1 → VN (env P) 183 st' ks K) → V (env P) 183 (.loop L183_0) st (.blk 0 :: ks) K
  | [], i, st, hr, hi, h0, h1, h7, h8, hret, hend => by
    obtain ⟨_, hlt, ht⟩ := drop_nil hr hi
    rw [V_loop]
    simp [L183_0, h0, h7, h8, hlt]
    exact hend _ rfl
  | q :: rest, i, st, hr, hi, h0, h1, h7, h8, hret, hend => by
    obtain ⟨hq, hlt, hr', ht⟩ := drop_cons hr
    have hc : ∀ h, (svs L)[i]'h = [sv q] := fun h => svs_at hq h
    have hw3 := wrapS (i := i) (by unfold most at hL; omega)
    have he := fun t cx cy => evBin_seql (P := P) (t := t) (cx := cx) (cy := cy) w q
    rw [V_loop]
    by_cases h : w = q
    · rw [decide_eq_true h] at he
      simp [L183_0, h0, h1, h7, h8, hlt, hc, he]
      refine hret _ ?_ ?_
      · rw [idxFrom, if_pos h]; omega
      · simp [idxFrom, h]
    · rw [decide_eq_false h] at he
      rw [idxFrom, if_neg h] at hret hend
      simp [L183_0, h0, h1, h7, h8, hlt, hc, he, hw3]
      refine loop49 hL rest (i + 1) _ hr' (by omega) ?_ ?_ ?_ ?_ hret hend
      · simp [h0]
      · simp [h1]
      · simp [h7]
      · simp
theorem index_ans {L : List (List UInt8)} {w : List UInt8} (hL : L.length ≤ most) : ans (env P) 183 [.im (svs L) false, sv w] = some (.val (.int .i64 (idxFrom w L 0))) := by
  refine ans_V rfl rfl ?_
  simp [c183]
  refine loop49 (w := w) hL L 0 _ rfl (by omega) ?_ ?_ ?_ ?_ ?_ ?_
  · simp
  · simp
  · simp
  · simp
  · intro st' _ h; simp [h]
  · intro st' h; simp [h]
end Go.Evl.Zone

namespace Go.Evl.Zone
open Go Go.Evl Go.Evl.Fl
variable {P : Program}
def nameOf (op : Int) : List UInt8 := namesL.getD op.toNat []
def textR (q : RS) : List UInt8 := if q.op = 2 ∨ q.op = 3 then joinL [32] [nameOf q.op, Lib.itoa q.x, Lib.itoa q.y, Lib.itoa q.s] else nameOf q.op
theorem strs_svs : ∀ l : List (List UInt8), strs (svs l) = some l
  | [] => rfl
  | x :: l => by
    rw [show svs (x :: l) = [sv x] :: svs l from rfl, strs, strs_svs l]
    simp
theorem pJoin_ok {v : PV} {H : Heap} {ys : List (List UInt8)} {c : UInt8} {is : List Nat} (hv : ∀ x, v ≠ .val x) (he : elems H 1 v = some (svs ys, is)) (hl : ys.length ≤ 140737488355328) (hj : (joinL [c] ys).length ≤ 140737488355328) :
    pJoin [v, .val (.string ⟨#[c]⟩)] H = some ⟨sv (joinL [c] ys), H, [], some is⟩ := by
  unfold pJoin
  split
  · rename_i x _ h; simp at h; exact absurd h.1 (hv _)
  · rename_i x p _ h
    simp at h
    obtain ⟨h1, h2⟩ := h
    subst h1 h2
    simp only [he, strs_svs]
    rw [if_pos ⟨hl, hj⟩]
    rfl
  · rename_i h1 h2
    exact absurd rfl (h2 v ⟨#[c]⟩)
theorem joinL_len {m : Nat} {c : UInt8} : ∀ l : List (List UInt8), (∀ x ∈ l, x.length ≤ m) → (joinL [c] l).length ≤ l.length * (m + 1)
  | [], _ => by simp [joinL]
  | [x], h => by have := h x (by simp); simp [joinL]; omega
  | x :: y :: r, h => by
    have h1 := h x (by simp)
    have h2 := joinL_len (c := c) (y :: r) (fun z hz => h z (by simp [hz]))
    rw [joinL]
    simp only [List.length_append, List.length_cons, List.length_nil] at h2 ⊢
    rw [Nat.add_mul _ 1 (m + 1)]
    omega
theorem itoa_len {n : Int} (h : n.natAbs < 1000000000) : (Lib.itoa n).length ≤ 10 := by
  unfold Lib.itoa
  split
  · have := dec_len n.natAbs 8 (by omega); simp; omega
  · have := dec_len n.toNat 8 (by omega); omega
def RS.okB (q : RS) : Prop := 1 ≤ q.op ∧ q.op ≤ 6 ∧ q.x.natAbs < 1000000000 ∧ q.y.natAbs < 1000000000 ∧ q.s.natAbs < 1000000000
theorem name_len (op : Int) : (nameOf op).length ≤ 4 := by
  unfold nameOf
  by_cases h : op.toNat < 7
  · have : op.toNat = 0 ∨ op.toNat = 1 ∨ op.toNat = 2 ∨ op.toNat = 3 ∨ op.toNat = 4 ∨ op.toNat = 5 ∨ op.toNat = 6 := by omega
    rcases this with h | h | h | h | h | h | h <;> rw [h] <;> decide
  · rw [List.getD_eq_getElem?_getD, List.getElem?_eq_none (by simp [namesL]; omega)]; simp
theorem text_len {q : RS} (h : q.okB) : (textR q).length ≤ 44 := by
  obtain ⟨_, _, hx, hy, hs⟩ := h
  have h1 := itoa_len hx
  have h2 := itoa_len hy
  have h3 := itoa_len hs
  have h4 := name_len q.op
  unfold textR
  split
  · refine Nat.le_trans (joinL_len (m := 10) _ ?_) (by simp)
    intro x hx
    simp at hx
    rcases hx with rfl | rfl | rfl | rfl <;> omega
  · omega
theorem names_at {op : Int} (h : 1 ≤ op ∧ op ≤ 6) : namesL[op.toNat]? = some (nameOf op) := by
  have hlt : op.toNat < namesL.length := by simp [namesL]; omega
  rw [nameOf, List.getD_eq_getElem?_getD, List.getElem?_eq_getElem hlt]; rfl
theorem right_okB {q : SI} (h : q.right = true) : q.rs.okB := by
  unfold SI.right rightB near at h
  unfold RS.okB SI.rs
  simp only
  split at h
  · simp at h; omega
  · split at h
    · simp at h; omega
    · split at h
      · simp at h; omega
      · simp at h
theorem foldS_right : ∀ (l : List SI) (n m : Int), foldR l n = some m → ∀ q ∈ l, q.right = true
  | [], _, _, _, _, hq => by simp at hq
  | p :: l, n, m, h, q, hq => by
    rw [foldR] at h
    split at h
    · simp at h
    · rename_i hno
      simp at hno
      rcases List.mem_cons.1 hq with rfl | hq
      · exact hno.1
      · exact foldS_right l _ m h q hq
theorem zoneRight_all {l : List SI} (h : zoneRight l = true) : l.length ≤ 32 ∧ l ≠ [] ∧ ∀ q ∈ l, q.right = true := by
  unfold zoneRight at h
  simp at h
  refine ⟨h.1, ?_, foldS_right l 0 1 h.2⟩
  rintro rfl
  simp [foldR] at h
set_option maxHeartbeats 4000000 in
theorem loop25 (T : Typed P) {L : List SI} (hok : ∀ q ∈ L, q.ok) (hri : ∀ q ∈ L, q.right = true) {ks : List Fr'} {K : Ex → St → Prop} (hL : L.length ≤ 32) : ∀ (rest : List SI) (i : Nat) (st : St) (v : PV), L.drop i = rest → i ≤ L.length → st.σ 10 = .im (stepsV L) false → st.σ 11 = .val (.int .i64 L.length) → st.σ 12 = .val (.int .i64 i) → st.σ 3 = v → Lst st.h 1 v (svs ((L.take i).map fun q => textR q.rs)) →
    (∀ st' v, st'.σ 3 = v → Lst st'.h 1 v (svs (L.map fun q => textR q.rs)) → VN (env P) 39 st' ks K) → V (env P) 39 (.loop L39_0) st (.blk 0 :: ks) K
  | [], i, st, v, hr, hi, h10, h11, h12, h3, hl, hend => by
    obtain ⟨_, hlt, ht⟩ := drop_nil hr hi
    rw [ht] at hl
    rw [V_loop]
    simp [L39_0, h10, h11, h12, hlt]
    exact hend _ v (by simp [h3]) (by simpa using hl.grow)
  | q :: rest, i, st, v, hr, hi, h10, h11, h12, h3, hl, hend => by
    obtain ⟨hq, hlt, hr', ht⟩ := drop_cons hr
    have hc : ∀ h, (stepsV L)[i]'h = q.cells := fun h => (List.getElem?_eq_some_iff.1 (stepsV_get hq)).2
    have hm := List.mem_of_getElem? hq
    obtain ⟨q1, q2, q3⟩ := hok q hm
    have hb := right_okB (hri q hm)
    obtain ⟨b1, b2, bx, bY, bs⟩ := hb
    simp only [SI.rs] at b1 b2 bx bY bs
    have hw3 := wrapS (i := i) (by omega)
    have hN : ans (env P) 93 [] = some (.im (svs namesL) false) := names_ans
    have hn : ∀ h, (svs namesL)[q.op.toNat]'h = [sv (nameOf q.op)] := fun h => svs_at (names_at ⟨b1, b2⟩) h
    have n1 := number_ans T q1
    have n2 := number_ans T q2
    have n3 := number_ans T q3
    have g0 : 0 ≤ q.op := by omega
    have g7 : q.op < 7 := by omega
    have gl : namesL.length = 7 := rfl
    have hj : ∀ H, pJoin [.im [[sv (nameOf q.op)], [sv (Lib.itoa q.x)], [sv (Lib.itoa q.y)], [sv (Lib.itoa q.s)]] true, .val (.string ⟨#[32]⟩)] H = some ⟨sv (joinL [32] [nameOf q.op, Lib.itoa q.x, Lib.itoa q.y, Lib.itoa q.s]), H, [], some []⟩ := by
      intro H
      refine pJoin_ok (by intro x h; cases h) ?_ (by simp) ?_
      · rfl
      · refine Nat.le_trans (joinL_len (m := 10) _ ?_) (by simp)
        intro x hx
        have h1 := itoa_len bx
        have h2 := itoa_len bY
        have h3 := itoa_len bs
        have h4 := name_len q.op
        simp at hx
        rcases hx with rfl | rfl | rfl | rfl <;> omega
    generalize hA : joinL [32] [nameOf q.op, Lib.itoa q.x, Lib.itoa q.y, Lib.itoa q.s] = A at hj
    have hJP := fun {dst : Option Nat} {rest : List CI} {i slot slot' : Nat} {log : Log} {d : Option (Nat × List (Nat × Nat))} {K : Ex → St → Prop} {st : St} {ks : List Fr'} {xs : List O} => VA_prim (E := env P) (f := 39) (g := 94) (p := pJoin) (dst := dst) (rest := rest) (i := i) (slot := slot) (slot' := slot') (log := log) (d := d) (K := K) (st := st) (ks := ks) (xs := xs) rfl
    rw [V_loop]
    have hS : ∀ C D : List SI, svs ((C ++ D).map fun q => textR q.rs) = svs (C.map fun q => textR q.rs) ++ svs (D.map fun q => textR q.rs) := fun C D => by simp [svs]
    by_cases o : q.op = 2 ∨ q.op = 3
    · have hx : textR q.rs = A := by rw [← hA]; simp [textR, SI.rs, o]
      have fin : ∀ (w : List UInt8), w = A → svs [w] = [[sv w]] := fun w _ => rfl
      obtain ⟨op, x, y, s, re, im, sz⟩ := q
      simp only at o b1 b2 bx bY bs hn n1 n2 n3 g0 g7 hj
      have hn' : (∀ h, (svs namesL)[2]'h = [sv (nameOf 2)]) ∧ (∀ h, (svs namesL)[3]'h = [sv (nameOf 3)]) := ⟨fun h => svs_at rfl h, fun h => svs_at rfl h⟩
      obtain ⟨hn2, hn3⟩ := hn'
      clear hn
      rcases o with o | o <;> subst o
      · simp [L39_0, h10, h11, h12, h3, hlt, hc, SI.cells, hN, hn2, gl, n1, n2, n3, hJP, hj, chunks, elems, allLen]
        refine VP_app (ys := svs ((L.take i).map fun q => textR q.rs)) (by repeat (first | exact hl | refine Lst.grow ?_ | refine Lst.putN ?_ (by simp))) (by simp) (by simp) rfl (by simp; unfold most; omega) fun v' H' wr rd e2 e3 _ => ?_
        simp [h10, h11, h12, hw3, e3]
        refine loop25 T hok hri hL rest (i + 1) _ v' hr' (by omega) ?_ ?_ ?_ ?_ ?_ hend
        · simp [h10]
        · simp [h11]
        · simp
        · simp
        · rw [ht, hS]
          simp only [List.map_cons, List.map_nil, hx]
          exact e2.grow
      · simp [L39_0, h10, h11, h12, h3, hlt, hc, SI.cells, hN, hn3, gl, n1, n2, n3, hJP, hj, chunks, elems, allLen]
        refine VP_app (ys := svs ((L.take i).map fun q => textR q.rs)) (by repeat (first | exact hl | refine Lst.grow ?_ | refine Lst.putN ?_ (by simp))) (by simp) (by simp) rfl (by simp; unfold most; omega) fun v' H' wr rd e2 e3 _ => ?_
        simp [h10, h11, h12, hw3, e3]
        refine loop25 T hok hri hL rest (i + 1) _ v' hr' (by omega) ?_ ?_ ?_ ?_ ?_ hend
        · simp [h10]
        · simp [h11]
        · simp
        · simp
        · rw [ht, hS]
          simp only [List.map_cons, List.map_nil, hx]
          exact e2.grow
    · have hx : textR q.rs = nameOf q.op := by simp [textR, SI.rs, o]
      obtain ⟨o2, o3⟩ := not_or.1 o
      simp [L39_0, h10, h11, h12, h3, hlt, hc, SI.cells, hN, hn, g0, g7, gl, o2, o3, chunks, elems, allLen]
      refine VP_app (ys := svs ((L.take i).map fun q => textR q.rs)) (by repeat (first | exact hl | refine Lst.grow ?_ | refine Lst.putN ?_ (by simp))) (by simp) (by simp) rfl (by simp; unfold most; omega) fun v' H' wr rd e2 e3 _ => ?_
      simp [h10, h11, h12, hw3, e3]
      refine loop25 T hok hri hL rest (i + 1) _ v' hr' (by omega) ?_ ?_ ?_ ?_ ?_ hend
      · simp [h10]
      · simp [h11]
      · simp
      · simp
      · rw [ht, hS]
        simp only [List.map_cons, List.map_nil, hx]
        exact e2.grow
def textL (l : List RS) : List UInt8 := joinL [44] (l.map textR)
theorem text_ans (T : Typed P) {l : List SI} (hok : ∀ q ∈ l, q.ok) : ans (env P) 39 [.im (stepsV l) false] = some (sv (if zoneRight l then textL (l.map SI.rs) else [])) := by
  have hr := zoneRight_ans (P := P) hok
  refine ans_V rfl rfl ?_
  cases hz : zoneRight l
  · rw [hz] at hr
    simp [c39, hr]
  · rw [hz] at hr
    obtain ⟨hl, _, hri⟩ := zoneRight_all hz
    have hJP := fun {dst : Option Nat} {rest : List CI} {i slot slot' : Nat} {log : Log} {d : Option (Nat × List (Nat × Nat))} {K : Ex → St → Prop} {st : St} {ks : List Fr'} {xs : List O} => VA_prim (E := env P) (f := 39) (g := 94) (p := pJoin) (dst := dst) (rest := rest) (i := i) (slot := slot) (slot' := slot') (log := log) (d := d) (K := K) (st := st) (ks := ks) (xs := xs) rfl
    simp [c39, hr]
    refine loop25 T hok hri hl l 0 _ _ rfl (by omega) (by simp) (by simp) (by simp) rfl ?_ ?_
    · simp; exact Lst.nil
    · intro st' v h3 hl'
      have hl'' := (hl'.grow (m := 0))
      obtain ⟨is, he⟩ := hl''.elems
      have hv : ∀ x, v ≠ .val x := by intro x h; cases hl' with
        | im hv _ => rw [hv] at h; cases h
        | row _ _ hv => rw [hv] at h; cases h
      have hj := pJoin_ok (c := 44) hv he (by simp; omega) (by
        refine Nat.le_trans (joinL_len (m := 44) _ ?_) (by simp; omega)
        intro x hx
        simp at hx
        obtain ⟨q, hq, rfl⟩ := hx
        exact text_len (right_okB (hri q hq)))
      have hT : joinL [44] (l.map fun q => textR q.rs) = textL (l.map SI.rs) := by rw [textL, List.map_map]; rfl
      rw [hT] at hj
      simp [h3, hJP, hj]
end Go.Evl.Zone

namespace Go.Evl.Zone
open Go Go.Evl Go.Evl.Fl
variable {P : Program}
theorem toSI_rs : ∀ l : List RS, (toSI l).map SI.rs = l
  | [] => rfl
  | q :: l => by
    have := toSI_rs l
    simp only [toSI, List.map_cons] at this ⊢
    rw [this]; rfl
theorem textL_len {l : List RS} (h : ∀ q ∈ l, q.okB) (hl : l.length ≤ 32) : (textL l).length ≤ 1440 := by
  refine Nat.le_trans (joinL_len (m := 44) _ ?_) (by simp; omega)
  intro x hx
  simp at hx
  obtain ⟨q, hq, rfl⟩ := hx
  exact text_len (h q hq)
end Go.Evl.Zone

namespace Go.Evl.Zone
open Go Go.Evl Go.Evl.Fl
variable {P : Program}
theorem splitL_one {c : UInt8} : ∀ {x : List UInt8}, c ∉ x → splitL c x = [x]
  | [], _ => rfl
  | b :: l, h => by
    simp only [List.mem_cons, not_or] at h
    rw [splitL, if_neg (fun e => h.1 e.symm), splitL_one h.2]
theorem splitL_app {c : UInt8} {r : List UInt8} : ∀ {x : List UInt8}, c ∉ x → splitL c (x ++ c :: r) = x :: splitL c r
  | [], _ => by simp [splitL]
  | b :: l, h => by
    simp only [List.mem_cons, not_or] at h
    rw [List.cons_append, splitL, if_neg (fun e => h.1 e.symm), splitL_app h.2]
theorem splitL_join {c : UInt8} : ∀ {l : List (List UInt8)}, l ≠ [] → (∀ x ∈ l, c ∉ x) → splitL c (joinL [c] l) = l
  | [], h, _ => absurd rfl h
  | [x], _, h => by rw [joinL]; exact splitL_one (h x (by simp))
  | x :: y :: r, _, h => by
    rw [joinL, List.append_assoc, show [c] ++ joinL [c] (y :: r) = c :: joinL [c] (y :: r) from rfl, splitL_app (h x (by simp)), splitL_join (by simp) fun z hz => h z (by simp [hz])]
theorem dec_dig : ∀ (u : Nat), ∀ c ∈ Lib.decDigits u, 48 ≤ c.toNat ∧ c.toNat ≤ 57 := by
  intro u
  induction u using Nat.strongRecOn with
  | _ u IH =>
    intro c hc
    have key : ∀ d, d < 10 → 48 ≤ (UInt8.ofNat (48 + d)).toNat ∧ (UInt8.ofNat (48 + d)).toNat ≤ 57 := by
      intro d hd
      have : (UInt8.ofNat (48 + d)).toNat = 48 + d := by rw [UInt8.toNat_ofNat']; omega
      omega
    rw [Lib.decDigits] at hc
    split at hc
    · rename_i h
      simp only [List.mem_singleton] at hc
      rw [hc]; exact key u h
    · rename_i h
      rcases List.mem_append.1 hc with hc | hc
      · exact IH (u / 10) (by omega) c hc
      · simp only [List.mem_singleton] at hc
        rw [hc]; exact key (u % 10) (by omega)
theorem itoa_ch {n : Int} : ∀ c ∈ Lib.itoa n, c.toNat = 45 ∨ (48 ≤ c.toNat ∧ c.toNat ≤ 57) := by
  intro c hc
  unfold Lib.itoa at hc
  split at hc
  · rcases List.mem_cons.1 hc with rfl | hc
    · exact .inl rfl
    · exact .inr (dec_dig _ c hc)
  · exact .inr (dec_dig _ c hc)
theorem itoa_no {n : Int} {c : UInt8} (h : c.toNat < 45) : c ∉ Lib.itoa n := by
  intro hc
  have := itoa_ch c hc
  omega
theorem parse_app {c : UInt8} : ∀ {l : List UInt8} {acc v : Nat}, Lib.parseUint10 acc l = .ok v → Lib.parseUint10 acc (l ++ [c]) = Lib.parseUint10 v [c]
  | [], acc, v, h => by
    simp only [Lib.parseUint10] at h
    injection h with h
    subst h; rfl
  | b :: l, acc, v, h => by
    rw [Lib.parseUint10] at h
    rw [List.cons_append, Lib.parseUint10]
    split at h
    · rename_i h1
      rw [if_pos h1]
      split at h
      · cases h
      · rename_i h2
        rw [if_neg h2]
        split at h
        · cases h
        · rename_i h3
          rw [if_neg h3]
          exact parse_app h
    · cases h
theorem parse_dec : ∀ (u : Nat), u < 1000000000 → Lib.parseUint10 0 (Lib.decDigits u) = .ok u := by
  intro u
  induction u using Nat.strongRecOn with
  | _ u IH =>
    intro hu
    have key : ∀ v d, d < 10 → v < 1000000000 → Lib.parseUint10 v [UInt8.ofNat (48 + d)] = .ok (v * 10 + d) := by
      intro v d hd hv
      have e : (UInt8.ofNat (48 + d)).toNat = 48 + d := by rw [UInt8.toNat_ofNat']; omega
      rw [Lib.parseUint10, e, if_pos (by omega), if_neg (by omega), if_neg (by omega), Lib.parseUint10]
      congr 1
      omega
    rw [Lib.decDigits]
    split
    · rename_i h
      rw [key 0 u h (by omega)]
      congr 1
      omega
    · rename_i h
      rw [parse_app (IH (u / 10) (by omega) (by omega)), key _ _ (by omega) (by omega)]
      congr 1
      omega
theorem dec_ne (u : Nat) : Lib.decDigits u ≠ [] := by
  rw [Lib.decDigits]
  split <;> simp
theorem atoi_itoa {n : Int} (h : n.natAbs < 1000000000) : Lib.atoiAll (Lib.itoa n) = .ok n := by
  unfold Lib.itoa
  split
  · rename_i h0
    simp only [Lib.atoiAll]
    have e : (45 : UInt8).toNat = 45 := rfl
    rw [e, if_pos (.inr rfl), Lib.parseMag, if_neg (dec_ne _), parse_dec _ h]
    simp only
    rw [if_neg (by simp), if_neg (by omega)]
    simp
    omega
  · rename_i h0
    cases hd : Lib.decDigits n.toNat with
    | nil => exact absurd hd (dec_ne _)
    | cons c r =>
      have hc := dec_dig n.toNat c (by rw [hd]; simp)
      have n43 : ¬ c.toNat = 43 := by omega
      have n45 : ¬ c.toNat = 45 := by omega
      simp only [Lib.atoiAll]
      rw [if_neg (by omega), Lib.parseMag, if_neg (by simp), ← hd, parse_dec _ (by omega)]
      simp only [n45]
      rw [if_neg (by omega), if_neg (by simp)]
      simp
      omega
theorem pAtoi_itoa {n : Int} (h : n.natAbs < 1000000000) (H : Heap) : pAtoi [sv (Lib.itoa n)] H = some ⟨.tup [.val (.int .i64 n), .val .nilIface], H, [], some []⟩ := by
  have hl := itoa_len h
  unfold pAtoi
  simp only
  rw [if_pos (by show (Lib.itoa n).length ≤ _; omega), atoi_itoa h]
theorem pSplit_ok {c : UInt8} {l : List UInt8} (h : l.length < 4294967281) (H : Heap) : pSplit [sv l, .val (.string ⟨#[c]⟩)] H = some ⟨.im (svs (splitL c l)) false, H, [], some []⟩ := by
  unfold pSplit
  simp only
  rw [if_pos (by show l.length < _; omega)]
  rfl
theorem name_no {op : Int} {c : UInt8} (h : c.toNat < 45) : c ∉ nameOf op := by
  have key : ∀ x ∈ namesL, ∀ d ∈ x, 97 ≤ d.toNat := by decide
  intro hc
  unfold nameOf at hc
  rw [List.getD_eq_getElem?_getD] at hc
  cases hx : namesL[op.toNat]? with
  | none => rw [hx] at hc; simp at hc
  | some x =>
    rw [hx] at hc
    have := key x (List.mem_of_getElem? hx) c hc
    omega
theorem text_no {q : RS} : (44 : UInt8) ∉ textR q := by
  unfold textR
  split
  · simp only [joinL]
    have a := name_no (op := q.op) (c := 44) (by decide)
    have b := itoa_no (n := q.x) (c := 44) (by decide)
    have d := itoa_no (n := q.y) (c := 44) (by decide)
    have e := itoa_no (n := q.s) (c := 44) (by decide)
    simp [a, b, d, e]
  · exact name_no (by decide)
end Go.Evl.Zone

namespace Go.Evl.Zone
open Go Go.Evl Go.Evl.Fl
variable {P : Program}
theorem words_text (q : RS) : splitL 32 (textR q) = if q.op = 2 ∨ q.op = 3 then [nameOf q.op, Lib.itoa q.x, Lib.itoa q.y, Lib.itoa q.s] else [nameOf q.op] := by
  have a := name_no (op := q.op) (c := 32) (by decide)
  have b := itoa_no (n := q.x) (c := 32) (by decide)
  have d := itoa_no (n := q.y) (c := 32) (by decide)
  have e := itoa_no (n := q.s) (c := 32) (by decide)
  unfold textR
  split
  · refine splitL_join (by simp) ?_
    intro x hx
    simp at hx
    rcases hx with rfl | rfl | rfl | rfl <;> assumption
  · exact splitL_one a
theorem idx_name {op : Int} (h : 1 ≤ op ∧ op ≤ 6) : idxFrom (nameOf op) namesL 0 = op := by
  have : op = 1 ∨ op = 2 ∨ op = 3 ∨ op = 4 ∨ op = 5 ∨ op = 6 := by omega
  rcases this with h | h | h | h | h | h <;> subst h <;> decide
theorem right_zero {q : RS} (h : q.si.right = true) (h2 : ¬ (q.op = 2 ∨ q.op = 3)) : q.x = 0 ∧ q.y = 0 ∧ q.s = 0 := by
  have h : rightB q.op q.x q.y q.s = true := h
  unfold rightB at h
  rw [if_neg (by omega), if_neg (by omega)] at h
  split at h
  · simp at h; omega
  · simp at h
theorem near0 : FloatKind.f64.nearest 0 = 0 := by decide +kernel
set_option maxHeartbeats 4000000 in
theorem parsed_ans (T : Typed P) {q : RS} (hr : q.si.right = true) : ans (env P) 155 [sv (textR q)] = some (.agg q.si.cells) := by
  have hb : q.okB := right_okB (q := q.si) hr
  have hlen := text_len hb
  obtain ⟨b1, b2, bx, bY, bs⟩ := hb
  have hz := right_zero hr
  have hw := words_text q
  have hS := pSplit_ok (c := 32) (l := textR q) (by omega)
  have hN : ans (env P) 93 [] = some (.im (svs namesL) false) := names_ans
  have hI := index_ans (P := P) (L := namesL) (w := nameOf q.op) (by decide)
  rw [idx_name ⟨b1, b2⟩] at hI
  rw [hw] at hS
  have a1 := pAtoi_itoa bx
  have a2 := pAtoi_itoa bY
  have a3 := pAtoi_itoa bs
  have c1 : ∀ n, scal P (Go.convert 3 165 (.int .i64 n)) = some (.val (.float .f64 (FloatKind.f64.nearest n))) := fun n => cv_if (by rw [T.t3]; rfl) T.t41
  have p37 := fun {dst : Option Nat} {rest : List CI} {i slot slot' : Nat} {log : Log} {d : Option (Nat × List (Nat × Nat))} {K : Ex → St → Prop} {st : St} {ks : List Fr'} {xs : List O} => VA_prim (E := env P) (f := 155) (g := 154) (p := pSplit) (dst := dst) (rest := rest) (i := i) (slot := slot) (slot' := slot') (log := log) (d := d) (K := K) (st := st) (ks := ks) (xs := xs) rfl
  have p50 := fun {dst : Option Nat} {rest : List CI} {i slot slot' : Nat} {log : Log} {d : Option (Nat × List (Nat × Nat))} {K : Ex → St → Prop} {st : St} {ks : List Fr'} {xs : List O} => VA_prim (E := env P) (f := 155) (g := 184) (p := pAtoi) (dst := dst) (rest := rest) (i := i) (slot := slot) (slot' := slot') (log := log) (d := d) (K := K) (st := st) (ks := ks) (xs := xs) rfl
  have w1 : IntKind.i64.wrap (1 : Int) = 1 := wrap64_id (by omega)
  have w2 : IntKind.i64.wrap (2 : Int) = 2 := wrap64_id (by omega)
  have w3 : IntKind.i64.wrap (3 : Int) = 3 := wrap64_id (by omega)
  have nq : evNil true true (.val .nilIface) (.val .nilIface) = some (.val (.bool false)) := rfl
  refine ans_V rfl rfl ?_
  by_cases o : q.op = 2 ∨ q.op = 3
  · rw [if_pos o] at hS
    have sv4 : ∀ a b c d : List UInt8, svs [a, b, c, d] = [[sv a], [sv b], [sv c], [sv d]] := fun _ _ _ _ => rfl
    rw [sv4] at hS
    simp [c155, p37, hS, hN, hI, allLen]
    rw [V_loop]
    simp [L155_0, p50, a1, c1, nq, allLen, w1, w2, w3]
    rw [V_loop]
    simp [L155_0, p50, a2, c1, nq, allLen, w1, w2, w3]
    rw [V_loop]
    simp [L155_0, p50, a3, c1, nq, allLen, w1, w2, w3]
    rw [V_loop]
    simp [L155_0, SI.cells, RS.si]
  · rw [if_neg o] at hS
    obtain ⟨zx, zy, zs⟩ := hz o
    have sv1 : ∀ a : List UInt8, svs [a] = [[sv a]] := fun _ => rfl
    rw [sv1] at hS
    simp [c155, p37, hS, hN, hI, SI.cells, RS.si, zx, zy, zs, near0, allLen]
end Go.Evl.Zone

namespace Go.Evl.Zone
open Go Go.Evl Go.Evl.Fl
variable {P : Program}
theorem expAs_lst {H : Heap} {k : Nat} {v : PV} {ys : List (List PV)} (h : Lst H k v ys) (hp : plainss ys = some ys) : ∃ is, expA H v = some (.im ys false, is) := by
  obtain ⟨is, hi⟩ := h.exp hp
  refine ⟨is, ?_⟩
  rw [← hi]
  cases h with
  | im hv _ => subst hv; rfl
  | row _ _ hv => subst hv; rfl
theorem resV_two {st : St} {a b : Nat} : resV st [.tmp a, .tmp b] = some (.tup [st.σ a, st.σ b]) := rfl
theorem expA_bool {H : Heap} {b : Bool} : expA H (.val (.bool b)) = some (.val (.bool b), []) := rfl
theorem expA_im {H : Heap} {xs : List (List PV)} {f : Bool} : expA H (.im xs f) = some (.im xs false, []) := rfl
def stp (L : List (List UInt8 × SI)) : List SI := L.map Prod.snd
theorem loop23 {L : List (List UInt8 × SI)} (hp : ∀ p ∈ L, ans (env P) 155 [sv p.1] = some (.agg p.2.cells)) {ks : List Fr'} {K : Ex → St → Prop} (hL : L.length ≤ most) : ∀ (rest : List (List UInt8 × SI)) (i : Nat) (st : St) (v : PV), L.drop i = rest → i ≤ L.length → st.σ 8 = .im (svs (L.map Prod.fst)) false → st.σ 9 = .val (.int .i64 L.length) → st.σ 10 = .val (.int .i64 i) → st.σ 4 = v → Lst st.h 3 v (stepsV (stp (L.take i))) →
    (∀ st' v, st'.σ 0 = st.σ 0 → st'.σ 4 = v → Lst st'.h 3 v (stepsV (stp L)) → VN (env P) 107 st' ks K) → V (env P) 107 (.loop L107_0) st (.blk 0 :: ks) K
  | [], i, st, v, hr, hi, h8, h9, h10, h4, hl, hend => by
    obtain ⟨_, hlt, ht⟩ := drop_nil hr hi
    rw [ht] at hl
    rw [V_loop]
    simp [L107_0, h8, h9, h10, hlt]
    exact hend _ v (by simp) (by simp [h4]) (by simpa using hl.grow)
  | q :: rest, i, st, v, hr, hi, h8, h9, h10, h4, hl, hend => by
    obtain ⟨hq, hlt, hr', ht⟩ := drop_cons hr
    have hc : ∀ h, (svs (L.map Prod.fst))[i]'h = [sv q.1] := fun h => svs_at (by simp [hq]) h
    have hm := hp q (List.mem_of_getElem? hq)
    have hw3 := wrapS (i := i) (by unfold most at hL; omega)
    rw [SI.cells] at hm
    rw [V_loop]
    simp [L107_0, h8, h9, h10, h4, hlt, hc, hm, chunks, elems, allLen]
    refine VP_app (ys := stepsV (stp (L.take i))) (by repeat (first | exact hl | refine Lst.grow ?_ | refine Lst.putN ?_ (by simp))) (by simp) (by simp) rfl (by simp [stp]; omega) fun v' H' wr rd e2 e3 _ => ?_
    simp [h8, h9, h10, hw3, e3]
    refine loop23 hp hL rest (i + 1) _ v' hr' (by omega) ?_ ?_ ?_ ?_ ?_ ?_
    · simp [h8]
    · simp [h9]
    · simp
    · simp
    · rw [ht, show ∀ C D : List (List UInt8 × SI), stepsV (stp (C ++ D)) = stepsV (stp C) ++ stepsV (stp D) from fun C D => by simp [stp, stepsV]]
      exact e2.grow
    · intro st' v a b c
      exact hend st' v (by rw [a]; simp) b c
theorem parse_ans (T : Typed P) {L : List (List UInt8 × SI)} (hp : ∀ p ∈ L, ans (env P) 155 [sv p.1] = some (.agg p.2.cells)) (hok : ∀ p ∈ L, p.2.ok) {s : List UInt8} (hs : splitL 44 s = L.map Prod.fst) (hlen : s.length < 4294967281) (hL : L.length ≤ most) :
    ans (env P) 107 [sv s] = some (if (if zoneRight (stp L) then textL ((stp L).map SI.rs) else []) = s ∧ s ≠ [] then .tup [.im (stepsV (stp L)) false, .val (.bool true)] else .tup [.im [] false, .val (.bool false)]) := by
  have hT := text_ans (P := P) T (l := stp L) (by intro q hq; simp [stp] at hq; obtain ⟨a, h⟩ := hq; exact hok _ h)
  generalize (if zoneRight (stp L) then textL ((stp L).map SI.rs) else []) = W at *
  have p37 := fun {dst : Option Nat} {rest : List CI} {i slot slot' : Nat} {log : Log} {d : Option (Nat × List (Nat × Nat))} {K : Ex → St → Prop} {st : St} {ks : List Fr'} {xs : List O} => VA_prim (E := env P) (f := 107) (g := 154) (p := pSplit) (dst := dst) (rest := rest) (i := i) (slot := slot) (slot' := slot') (log := log) (d := d) (K := K) (st := st) (ks := ks) (xs := xs) rfl
  have hS := pSplit_ok (c := 44) hlen
  rw [hs] at hS
  refine ans_V rfl rfl ?_
  simp [c107, p37, hS]
  refine loop23 hp hL L 0 _ _ rfl (by omega) (by simp) (by simp) (by simp) rfl (by simp; exact Lst.nil) ?_
  intro st' v h0 h4 hl
  simp at h0
  have hl0 := hl.grow (m := 0)
  obtain ⟨is, he⟩ := expAs_lst hl0 (plainss_si _)
  have n1 := fun t cx cy => evBin_sneq (P := P) (t := t) (cx := cx) (cy := cy) W s
  have n2 : ∀ (t : TypeId) (cx cy : Bool), evBin P .eql t cx cy (sv s) (.val (.string ⟨#[]⟩)) = some (.val (.bool (decide (s = [])))) := fun t cx cy => evBin_seql (P := P) (t := t) (cx := cx) (cy := cy) s []
  by_cases hw : W = s
  · subst hw
    have n1' : ∀ (t : TypeId) (cx cy : Bool), evBin P .neq t cx cy (sv W) (sv W) = some (.val (.bool false)) := fun t cx cy => by rw [n1]; simp
    by_cases h : W = []
    · have n2' : ∀ (t : TypeId) (cx cy : Bool), evBin P .eql t cx cy (sv W) (.val (.string ⟨#[]⟩)) = some (.val (.bool true)) := fun t cx cy => by rw [n2]; simp [h]
      rw [if_neg (fun e => e.2 h)]
      simp [-expA, expA_bool, expA_im, he, hT, n1', n2', h4, h0, resV_two]
    · have n2' : ∀ (t : TypeId) (cx cy : Bool), evBin P .eql t cx cy (sv W) (.val (.string ⟨#[]⟩)) = some (.val (.bool false)) := fun t cx cy => by rw [n2]; simp [h]
      rw [if_pos ⟨rfl, h⟩]
      obtain ⟨is2, he2⟩ := expAs_lst (hl0.grow (m := 0)) (plainss_si _)
      obtain ⟨is3, he3⟩ := expAs_lst ((hl0.grow (m := 0)).grow (m := 0)) (plainss_si _)
      simp [-expA, expA_bool, expA_im, he, hT, n1', n2', h4, h0, resV_two, he2, he3]
  · rw [if_neg (fun e => hw e.1)]
    have n1' : ∀ (t : TypeId) (cx cy : Bool), evBin P .neq t cx cy (sv W) (sv s) = some (.val (.bool true)) := fun t cx cy => by rw [n1]; simp [hw]
    simp [-expA, expA_bool, expA_im, he, hT, n1', n2, hw, h4, h0, resV_two]
end Go.Evl.Zone

namespace Go.Evl.Zone
open Go Go.Evl Go.Evl.Fl
variable {P : Program}
theorem sv_size (l : List UInt8) : (⟨l.toArray⟩ : ByteArray).size = l.length := rfl
theorem sv_slice {H : Heap} {l : List UInt8} {a b : Nat} (h1 : a ≤ b) (h2 : b ≤ l.length) : sliceP H 0 (sv l) (some a) (some b) none = some (sv ((l.drop a).take (b - a)), []) := by
  have e : (⟨l.toArray⟩ : ByteArray).extract a b = ⟨((l.drop a).take (b - a)).toArray⟩ := by
    apply ByteArray.ext
    simp
  have : sliceP H 0 (sv l) (some a) (some b) none = if 0 = 0 ∧ a ≤ b ∧ b ≤ l.length then some (.val (.string ((⟨l.toArray⟩ : ByteArray).extract a b)), []) else none := rfl
  rw [this, if_pos ⟨rfl, h1, h2⟩, e]
theorem loop39 {s : List UInt8} {c : UInt8} {ks : List Fr'} {K : Ex → St → Prop} (hs : s.length ≤ 100000) : ∀ (m i a : Nat) (st : St) (v : PV) (D : List (List UInt8)), s.length + 1 - i ≤ m → a ≤ i → i ≤ s.length → c ∉ (s.drop a).take (i - a) → D.length ≤ a → splitL c s = D ++ splitL c (s.drop a) → st.σ 0 = sv s → st.σ 1 = .val (.int .u8 (c.toNat : Int)) → st.σ 5 = v → st.σ 6 = .val (.int .i64 a) → st.σ 7 = .val (.int .i64 i) → Lst st.h 1 v (svs D) →
    (∀ st' v, st'.σ 5 = v → Lst st'.h 1 v (svs (splitL c s)) → VN (env P) 175 st' ks K) → V (env P) 175 (.loop L175_0) st (.blk 0 :: ks) K
  | 0, i, a, st, v, D, hm, ha, hi, hc, hD, hsp, h0, h1, h5, h6, h7, hl, hend => by omega
  | m + 1, i, a, st, v, D, hm, ha, hi, hc, hD, hsp, h0, h1, h5, h6, h7, hl, hend => by
    have hle : (i : Int) ≤ (s.length : Int) := by omega
    have hw := wrapS (i := i) (by omega)
    have hsl := fun H => sv_slice (H := H) (l := s) ha hi
    rw [V_loop]
    by_cases he : i = s.length
    · subst he
      have hdrop : (s.drop a).take (s.length - a) = s.drop a := by rw [List.take_of_length_le]; simp
      rw [hdrop] at hc hsl
      have hone : splitL c (s.drop a) = [s.drop a] := splitL_one hc
      generalize hA : s.drop a = A at *
      simp [L175_0, h0, h1, h5, h6, h7, sv_size, hsl, chunks, elems, allLen]
      refine VP_app (ys := svs D) (by repeat (first | exact hl | refine Lst.grow ?_ | refine Lst.putN ?_ (by simp))) (by simp) (by simp) rfl (by simp; unfold most; omega) fun v' H' wr rd e2 e3 _ => ?_
      simp [h0, h7, hw, e3]
      rw [V_loop]
      have hno : ¬ ((s.length : Int) + 1 ≤ (s.length : Int)) := by omega
      simp [L175_0, h0, sv_size, hno]
      refine hend _ v' (by simp) ?_
      rw [hsp, hone]
      have : svs (D ++ [A]) = svs D ++ [[sv A]] := by simp [svs]
      rw [this]
      repeat (first | exact e2 | refine Lst.grow ?_)
    · have hlt : i < s.length := by omega
      have hne : ¬ ((i : Int) = (s.length : Int)) := by omega
      have hb : s[i]? = some (s[i]'hlt) := List.getElem?_eq_getElem hlt
      generalize s[i]'hlt = b at hb
      have hdr : s.drop a = (s.drop a).take (i - a) ++ b :: s.drop (i + 1) := by
        have e1 := (List.take_append_drop (i - a) (s.drop a)).symm
        rw [List.drop_drop, show a + (i - a) = i by omega] at e1
        rw [List.drop_eq_getElem_cons hlt] at e1
        have : s[i]'hlt = b := by have := List.getElem?_eq_getElem hlt; rw [hb] at this; exact (Option.some.inj this).symm
        rw [this] at e1
        exact e1
      have hix : ∀ h, s[i]'h = b := fun h => by have := List.getElem?_eq_getElem h; rw [hb] at this; exact (Option.some.inj this).symm
      by_cases hbc : b = c
      · subst hbc
        have hcut : splitL b (s.drop a) = ((s.drop a).take (i - a)) :: splitL b (s.drop (i + 1)) := by
          conv => lhs; rw [hdr]
          exact splitL_app hc
        generalize hA : (s.drop a).take (i - a) = A at *
        simp [L175_0, h0, h1, h5, h6, h7, sv_size, hsl, hle, hne, hlt, hb, hix, chunks, elems, allLen]
        refine VP_app (ys := svs D) (by repeat (first | exact hl | refine Lst.grow ?_ | refine Lst.putN ?_ (by simp))) (by simp) (by simp) rfl (by simp; unfold most; omega) fun v' H' wr rd e2 e3 _ => ?_
        simp [h0, h1, h7, hw, e3]
        refine loop39 hs m (i + 1) (i + 1) _ v' (D ++ [A]) (by omega) (by omega) (by omega) (by simp) (by simp; omega) (by rw [hsp, hcut]; simp) ?_ ?_ ?_ ?_ ?_ ?_ hend
        · simp [h0]
        · simp [h1]
        · simp
        · simp
        · simp
        · have : svs (D ++ [A]) = svs D ++ [[sv A]] := by simp [svs]
          rw [this]
          repeat (first | exact e2 | refine Lst.grow ?_)
      · have hbn : ¬ (b.toNat : Int) = (c.toNat : Int) := by
          intro e
          exact hbc (UInt8.toNat_inj.1 (by omega))
        simp [L175_0, h0, h1, h5, h6, h7, sv_size, hsl, hle, hne, hlt, hb, hix, hbn, hbc, hw]
        refine loop39 hs m (i + 1) a _ v D (by omega) (by omega) (by omega) ?_ hD hsp ?_ ?_ ?_ ?_ ?_ ?_ hend
        · rw [show i + 1 - a = (i - a) + 1 by omega, List.take_add_one]
          have : (s.drop a)[i - a]? = some b := by rw [List.getElem?_drop, show a + (i - a) = i by omega]; exact hb
          rw [this]
          simp [hc]
          exact fun e => hbc e.symm
        · simp [h0]
        · simp [h1]
        · simp [h5]
        · simp [h6]
        · simp
        · repeat (first | exact hl | refine Lst.grow ?_)
theorem refSplit_ans {s : List UInt8} {c : UInt8} (hs : s.length ≤ 100000) : ans (env P) 175 [sv s, .val (.int .u8 (c.toNat : Int))] = some (.im (svs (splitL c s)) false) := by
  refine ans_V rfl rfl ?_
  simp [c175]
  refine loop39 (s := s) (c := c) hs (s.length + 1) 0 0 _ _ [] (by omega) (by omega) (by omega) (by simp) (by simp) (by simp) (by simp) (by simp) rfl (by simp) (by simp) ?_ ?_
  · simp; exact Lst.nil
  · intro st' v h5 hl
    simp [h5]
    obtain ⟨is, he⟩ := (hl.grow (m := 0)).expV (plainss_svs _)
    simpa using ⟨is, he⟩
end Go.Evl.Zone
