/- The evaluator's texts ZPl to ZN8, joined. -/
import Derived.Test.YtcenjpdfhelkoaaGreatDoorEv4
import Derived.Lib.SplitLaws
import Derived.Lib.Join
import Derived.Lib.ItoaNum
import Derived.Lib.Strings
set_option linter.all false
set_option linter.deprecated false
set_option linter.unusedVariables false
set_option linter.unusedSimpArgs false
set_option linter.unnecessarySimpa false
/- The library's words and ours: what stands between bytes, joined texts, digits. -/
set_option linter.unusedVariables false
namespace Go.Evl.Zone
open Go Go.Evl

theorem joinL_lib (sep : List UInt8) : ∀ l : List (List UInt8), joinL sep l = Lib.join l sep
  | [] => rfl
  | [x] => by rw [Lib.join_one]; rfl
  | x :: y :: r => by
    rw [joinL, joinL_lib sep (y :: r), Lib.join_cons, Lib.join_cons]
    simp [Lib.joinTail]

theorem digL_lib : ∀ (f n : Nat) (acc : List UInt8), n < 10 ^ f → 0 < f → digL f n acc = Lib.decDigits n ++ acc
  | 0, _, _, _, h => absurd h (by decide)
  | f + 1, n, acc, hn, _ => by
    rw [digL, Lib.decDigits]
    split
    · simp
    · rename_i hge
      have hf : 0 < f := by
        cases f with
        | zero => simp at hn; omega
        | succ f => omega
      rw [digL_lib f (n / 10) _ (by rw [Nat.pow_succ] at hn; omega) hf]
      simp

theorem itoaL_lib {n : Int} (h0 : -9223372036854775808 ≤ n) (h1 : n ≤ 9223372036854775807) : itoaL n = Lib.itoa n := by
  unfold itoaL Lib.itoa
  have hp : n.natAbs < 10 ^ 20 := by
    have : (10 : Nat) ^ 20 = 100000000000000000000 := by decide
    omega
  split
  · rw [digL_lib 20 _ _ hp (by decide)]; simp
  · rename_i hn
    rw [digL_lib 20 _ _ hp (by decide), show n.natAbs = n.toNat by omega]; simp

theorem splitK_skip (c b : UInt8) (h : b ≠ c) : ∀ (k : Nat) (l : List UInt8) (x : List UInt8) (xs : List (List UInt8)), Lib.splitK [c] 0 k l = x :: xs → Lib.splitK [c] 0 k (b :: l) = (b :: x) :: xs := by
  intro k l x xs hx
  cases k with
  | zero => simp [Lib.splitK] at hx ⊢; exact hx
  | succ k =>
    have hp : ([c] : List UInt8).isPrefixOf (b :: l) = false := by simp [List.isPrefixOf, Ne.symm h]
    have hix : Lib.index (b :: l) [c] = if Lib.index l [c] == -1 then -1 else Lib.index l [c] + 1 := by rw [Lib.index, hp]; simp
    unfold Lib.splitK at hx ⊢
    by_cases hm : Lib.index l [c] = -1
    · rw [if_pos (by simpa using hm)] at hx
      rw [if_pos (by rw [hix, if_pos (by simpa using hm)]; rfl)]
      simp at hx ⊢; exact hx
    · have hge := Lib.index_ge l [c]
      obtain ⟨j, hj⟩ : ∃ j : Nat, Lib.index l [c] = j := ⟨(Lib.index l [c]).toNat, by omega⟩
      rw [if_neg (by simpa using hm)] at hx
      have hix' : Lib.index (b :: l) [c] = ((j + 1 : Nat) : Int) := by rw [hix, if_neg (by simpa using hm), hj]; omega
      rw [if_neg (by rw [hix']; simp; omega), hix']
      rw [hj] at hx
      simp at hx ⊢
      exact ⟨hx.1, hx.2⟩

theorem splitL_ne (c : UInt8) : ∀ l : List UInt8, splitL c l ≠ []
  | [] => by simp [splitL]
  | b :: l => by
    unfold splitL
    split
    · simp
    · split <;> simp

theorem splitL_lib (c : UInt8) : ∀ l : List UInt8, Lib.splitK [c] 0 (Lib.count l [c]) l = splitL c l
  | [] => by rw [Lib.count_miss (by simp [Lib.index])]; rfl
  | b :: l => by
    by_cases h : b = c
    · subst h
      rw [Lib.count_cons_eq, Nat.add_comm, Lib.splitK]
      have hix : Lib.index (b :: l) [b] = 0 := by rw [Lib.index]; simp [List.isPrefixOf]
      rw [if_neg (by rw [hix]; decide), hix, splitL, if_pos rfl]
      simp
      exact splitL_lib b l
    · rw [Lib.count_cons_ne b c l h, splitL, if_neg h]
      have ih := splitL_lib c l
      cases hs : splitL c l with
      | nil => exact absurd hs (splitL_ne c l)
      | cons x xs =>
        rw [hs] at ih
        exact splitK_skip c b h _ l x xs ih

theorem splitB_lib {s p : ByteArray} {c : UInt8} (hp : p.data.toList = [c]) : (Lib.splitB p 0 (Lib.countB s p) s).map (·.data.toList) = splitL c s.data.toList := by
  rw [Lib.splitB_data, Lib.countB, hp, splitL_lib]

end Go.Evl.Zone

/- The zone statements: strings, numbers in digits. -/
namespace Go.Evl.Zone
open Go Go.Evl Go.Evl.Fl
set_option linter.unusedSimpArgs false
set_option linter.unusedVariables false
variable {P : Program}

/-- A text, by its bytes. -/
abbrev sv (l : List UInt8) : PV := .val (.string ⟨l.toArray⟩)

theorem ba_append (a b : List UInt8) : (⟨a.toArray⟩ : ByteArray) ++ ⟨b.toArray⟩ = ⟨(a ++ b).toArray⟩ := by
  apply ByteArray.ext
  simp

theorem ba_toList (a : List UInt8) : (⟨a.toArray⟩ : ByteArray).toList = a := by
  rw [ByteArray.toList_eq]

theorem evBin_sadd {t : TypeId} {cx cy : Bool} {a b : List UInt8} (h : a.length + b.length < 9223372036854775808) : evBin P .add t cx cy (sv a) (sv b) = some (sv (a ++ b)) := by
  have : evBin P .add t cx cy (sv a) (sv b) = scal P (if ((((⟨a.toArray⟩ : ByteArray).size + (⟨b.toArray⟩ : ByteArray).size : Nat)) : Int) > IntKind.i64.max then unsupported (.resourceLimit "string concatenation: a sum of the lengths that is no int") else pure (.string ((⟨a.toArray⟩ : ByteArray) ++ ⟨b.toArray⟩))) := rfl
  rw [this, if_neg (by simp only [ByteArray.size, List.size_toArray]; show ¬ ((a.length + b.length : Nat) : Int) > 9223372036854775807; omega), ba_append]
  rfl

theorem evBin_seql {t : TypeId} {cx cy : Bool} (a b : List UInt8) : evBin P .eql t cx cy (sv a) (sv b) = some (.val (.bool (decide (a = b)))) := by
  have : evBin P .eql t cx cy (sv a) (sv b) = some (.val (.bool ((⟨a.toArray⟩ : ByteArray).toList == (⟨b.toArray⟩ : ByteArray).toList))) := rfl
  rw [this, ba_toList, ba_toList]
  congr 3
  rw [Bool.eq_iff_iff]
  simp

theorem slice_dig {H : Heap} {d : Nat} (h : d < 10) : sliceP H 0 (.val (.string ⟨#[48, 49, 50, 51, 52, 53, 54, 55, 56, 57]⟩)) (some d) (some (d + 1)) none = some (sv [UInt8.ofNat (48 + d)], []) := by
  have : d = 0 ∨ d = 1 ∨ d = 2 ∨ d = 3 ∨ d = 4 ∨ d = 5 ∨ d = 6 ∨ d = 7 ∨ d = 8 ∨ d = 9 := by omega
  rcases this with h | h | h | h | h | h | h | h | h | h <;> subst h <;> rfl

theorem max_int {t : TypeId} {ts : Array TypeId} {a b : Int} (hab : b ≤ a) : evFun P .max ts t [.int .i64 a, .int .i64 b] = some (.val (.int .i64 a)) := by
  have : evFun P .max ts t [.int .i64 a, .int .i64 b] = some (.val (.int .i64 (if b > a then b else a))) := rfl
  rw [this, if_neg (by omega)]

theorem dec_len : ∀ (u k : Nat), u < 10 ^ (k + 1) → (Lib.decDigits u).length ≤ k + 1
  | u, 0, h => by rw [Lib.decDigits, dif_pos (by simpa using h)]; simp
  | u, k + 1, h => by
    rw [Lib.decDigits]
    split
    · simp
    · simp
      exact dec_len (u / 10) k (by rw [Nat.pow_succ] at h; omega)

theorem num_nat : ∀ (n : Nat), n < 1000000000 → ans (env P) 135 [.val (.int .i64 n)] = some (sv (Lib.decDigits n)) := by
  intro n
  induction n using Nat.strongRecOn with
  | _ n IH =>
    intro hn
    refine ans_V rfl rfl ?_
    have h0 : ¬ ((n : Int) < 0) := by omega
    by_cases h : n < 10
    · have h' : (n : Int) < 10 := by omega
      have hw : IntKind.i64.wrap ((n : Int) + 1) = ((n + 1 : Nat) : Int) := by rw [wrap64_id (by omega)]; omega
      have hm : evFun P .max #[3, 3] 3 [.int .i64 n, .int .i64 0] = some (.val (.int .i64 n)) := max_int (by omega)
      have hp : (0 : Int) ≤ (n : Int) + 1 := by omega
      have hd := fun H => slice_dig (H := H) h
      rw [Lib.decDigits_one h]
      simp [c135, h0, h', hm, hw, hd, hp]
    · have h' : ¬ ((n : Int) < 10) := by omega
      have hq : IntKind.i64.wrap ((n : Int).tdiv 10) = ((n / 10 : Nat) : Int) := by rw [Int.tdiv_eq_ediv_of_nonneg (by omega), wrap64_id (by omega)]; omega
      have hr : (n : Int).tmod 10 = ((n % 10 : Nat) : Int) := by rw [Int.tmod_eq_emod_of_nonneg (by omega)]; omega
      have hq' : IntKind.i64.wrap ((n : Int) / 10) = ((n / 10 : Nat) : Int) := by rw [wrap64_id (by omega)]; omega
      have hr' : (n : Int) % 10 = ((n % 10 : Nat) : Int) := by omega
      have ih := IH (n / 10) (by omega) (by omega)
      have hl := dec_len (n / 10) 8 (by omega)
      have hd : n % 10 < 10 := by omega
      rw [Lib.decDigits, dif_neg h]
      generalize n / 10 = e at *
      generalize n % 10 = d at *
      have hw : IntKind.i64.wrap ((d : Int) + 1) = ((d + 1 : Nat) : Int) := by rw [wrap64_id (by omega)]; omega
      have hp : (0 : Int) ≤ (d : Int) + 1 := by omega
      have hd' := fun H => slice_dig (H := H) hd
      generalize UInt8.ofNat (48 + d) = c at *
      have hs : ∀ {t : TypeId} {cx cy : Bool}, evBin P .add t cx cy (sv (Lib.decDigits e)) (sv [c]) = some (sv (Lib.decDigits e ++ [c])) := by
        intro t cx cy
        refine evBin_sadd ?_
        simp; omega
      simp [c135, h0, h', hq, hr, hq', hr', hw, ih, evBin_quo, evBin_rem, hd', hp, hs]

theorem num_ans {n : Int} (h : -1000000000 < n ∧ n < 1000000000) : ans (env P) 135 [.val (.int .i64 n)] = some (sv (Lib.itoa n)) := by
  by_cases h0 : n < 0
  · refine ans_V rfl rfl ?_
    have hn := num_nat (P := P) n.natAbs (by omega)
    have hl := dec_len n.natAbs 8 (by omega)
    have hw : IntKind.i64.wrap (-n) = ((n.natAbs : Nat) : Int) := by rw [wrap64_id (by omega)]; omega
    have h1 := h.1
    rw [Lib.itoa, if_pos h0]
    generalize n.natAbs = e at *
    have hs : ∀ {t : TypeId} {cx cy : Bool}, evBin P .add t cx cy (.val (.string ⟨#[45]⟩)) (sv (Lib.decDigits e)) = some (sv (45 :: Lib.decDigits e)) := by
      intro t cx cy
      exact evBin_sadd (a := [45]) (by simp; omega)
    simp [c135, h0, h1, hw, hn, hs, un_neg]
  · obtain ⟨k, rfl⟩ : ∃ k : Nat, n = k := ⟨n.toNat, by omega⟩
    rw [num_nat k (by omega), Lib.itoa, if_neg h0]
    rfl

end Go.Evl.Zone


/- The zone statements: names, numbers in digits, where a text stands, few steps. -/
namespace Go.Evl.Zone
open Go Go.Evl Go.Evl.Fl
set_option linter.unusedSimpArgs false
set_option linter.unusedVariables false
variable {P : Program}

/-- The steps' names, by their Ops. -/
def namesL : List (List UInt8) := [[], [97, 108, 108], [100, 105, 115, 99], [104, 97, 108, 102], [110, 111, 116], [97, 110, 100], [111, 114]]

def svs (l : List (List UInt8)) : List (List PV) := l.map fun x => [sv x]

@[simp] theorem svs_length (l : List (List UInt8)) : (svs l).length = l.length := by simp [svs]
@[simp] theorem svs_len : ∀ (l : List (List UInt8)), allLen 1 (svs l) = true
  | [] => rfl
  | q :: l => by simp only [svs, List.map_cons, allLen]; rw [show (List.map (fun x => [sv x]) l) = svs l from rfl, svs_len l]; rfl
theorem svs_at {l : List (List UInt8)} {i : Nat} {q : List UInt8} (h : l[i]? = some q) (h' : i < (svs l).length) : (svs l)[i] = [sv q] := by
  simp only [svs, List.getElem_map]
  rw [(List.getElem?_eq_some_iff.1 h).2]
theorem names_ans : ans (env P) 160 [] = some (.im (svs namesL) false) := by
  refine ans_V rfl rfl ?_
  simp [c160, chunks, freeze, namesL, svs]

theorem number_ans (T : Typed P) {b : Nat} {n : Int} (h : Is b n) : ans (env P) 161 [.val (.float .f64 b)] = some (sv (Lib.itoa n)) := by
  refine ans_V rfl rfl ?_
  have hn := h.1
  have c1 : scal P (Go.convert 226 3 (.float .f64 b)) = some (.val (.int .i64 n)) := cv_fi (by rw [T.t41]; rfl) T.t3 h.toInt (by show -9223372036854775808 ≤ n ∧ n ≤ 9223372036854775807; omega)
  have c2 : ∀ H, pItoa [.val (.int .i64 n)] H = some ⟨sv (Lib.itoa n), H, [], some []⟩ := by
    intro H
    rw [← itoaL_lib (by omega) (by omega)]
    simp only [pItoa]
    rw [if_pos (by omega)]; rfl
  simp [c161, c1, VA_prim (E := env P) (g := 126) (p := pItoa) rfl, c2]

end Go.Evl.Zone


/- The zone statements: a zone's text. -/
namespace Go.Evl.Zone
open Go Go.Evl Go.Evl.Fl
set_option linter.unusedSimpArgs false
set_option linter.unusedVariables false
variable {P : Program}

def nameOf (op : Int) : List UInt8 := namesL.getD op.toNat []

/-- A step's text. -/
def textR (q : RS) : List UInt8 := if q.op = 2 ∨ q.op = 3 then joinL [32] [nameOf q.op, Lib.itoa q.x, Lib.itoa q.y, Lib.itoa q.s] else nameOf q.op

theorem strs_svs : ∀ l : List (List UInt8), strs (svs l) = some l
  | [] => rfl
  | x :: l => by
    rw [show svs (x :: l) = [sv x] :: svs l from rfl, strs, strs_svs l]
    simp

theorem pJoin_ok {v : PV} {H : Heap} {ys : List (List UInt8)} {c : UInt8} {is : List Nat} (hv : ∀ x, v ≠ .val x) (he : elems H 1 v = some (svs ys, is)) (hl : ys.length ≤ 140737488355328) (hj : (joinL [c] ys).length ≤ 140737488355328) :
    pJoin [v, .val (.string ⟨#[c]⟩)] H = some ⟨sv (joinL [c] ys), H, [], some is⟩ := by
  unfold pJoin
  split
  · rename_i x _ h; simp at h; exact absurd h.1 (hv _)
  · rename_i x p _ h
    simp at h
    obtain ⟨h1, h2⟩ := h
    subst h1 h2
    simp only [he, strs_svs]
    rw [if_pos ⟨hl, hj⟩]
    rfl
  · rename_i h1 h2
    exact absurd rfl (h2 v ⟨#[c]⟩)

theorem joinL_len {m : Nat} {c : UInt8} : ∀ l : List (List UInt8), (∀ x ∈ l, x.length ≤ m) → (joinL [c] l).length ≤ l.length * (m + 1)
  | [], _ => by simp [joinL]
  | [x], h => by have := h x (by simp); simp [joinL]; omega
  | x :: y :: r, h => by
    have h1 := h x (by simp)
    have h2 := joinL_len (c := c) (y :: r) (fun z hz => h z (by simp [hz]))
    rw [joinL]
    simp only [List.length_append, List.length_cons, List.length_nil] at h2 ⊢
    rw [Nat.add_mul _ 1 (m + 1)]
    omega

theorem itoa_len {n : Int} (h : n.natAbs < 1000000000) : (Lib.itoa n).length ≤ 10 := by
  unfold Lib.itoa
  split
  · have := dec_len n.natAbs 8 (by omega); simp; omega
  · have := dec_len n.toNat 8 (by omega); omega

def RS.okB (q : RS) : Prop := 1 ≤ q.op ∧ q.op ≤ 6 ∧ q.x.natAbs < 1000000000 ∧ q.y.natAbs < 1000000000 ∧ q.s.natAbs < 1000000000

theorem name_len (op : Int) : (nameOf op).length ≤ 4 := by
  unfold nameOf
  by_cases h : op.toNat < 7
  · have : op.toNat = 0 ∨ op.toNat = 1 ∨ op.toNat = 2 ∨ op.toNat = 3 ∨ op.toNat = 4 ∨ op.toNat = 5 ∨ op.toNat = 6 := by omega
    rcases this with h | h | h | h | h | h | h <;> rw [h] <;> decide
  · rw [List.getD_eq_getElem?_getD, List.getElem?_eq_none (by simp [namesL]; omega)]; simp

theorem text_len {q : RS} (h : q.okB) : (textR q).length ≤ 44 := by
  obtain ⟨_, _, hx, hy, hs⟩ := h
  have h1 := itoa_len hx
  have h2 := itoa_len hy
  have h3 := itoa_len hs
  have h4 := name_len q.op
  unfold textR
  split
  · refine Nat.le_trans (joinL_len (m := 10) _ ?_) (by simp)
    intro x hx
    simp at hx
    rcases hx with rfl | rfl | rfl | rfl <;> omega
  · omega

theorem names_at {op : Int} (h : 1 ≤ op ∧ op ≤ 6) : namesL[op.toNat]? = some (nameOf op) := by
  have hlt : op.toNat < namesL.length := by simp [namesL]; omega
  rw [nameOf, List.getD_eq_getElem?_getD, List.getElem?_eq_getElem hlt]; rfl

theorem right_okB {q : SI} (h : q.right = true) : q.rs.okB := by
  unfold SI.right rightB near at h
  unfold RS.okB SI.rs
  simp only
  split at h
  · simp at h; omega
  · split at h
    · simp at h; omega
    · split at h
      · simp at h; omega
      · simp at h

theorem foldS_right : ∀ (l : List SI) (n m : Int), foldR l n = some m → ∀ q ∈ l, q.right = true
  | [], _, _, _, _, hq => by simp at hq
  | p :: l, n, m, h, q, hq => by
    rw [foldR] at h
    split at h
    · simp at h
    · rename_i hno
      simp at hno
      rcases List.mem_cons.1 hq with rfl | hq
      · exact hno.1
      · exact foldS_right l _ m h q hq

theorem zoneRight_all {l : List SI} (h : zoneRight l = true) : l.length ≤ 32 ∧ l ≠ [] ∧ ∀ q ∈ l, q.right = true := by
  unfold zoneRight at h
  simp at h
  refine ⟨h.1, ?_, foldS_right l 0 1 h.2⟩
  rintro rfl
  simp [foldR] at h

set_option maxHeartbeats 4000000 in
theorem loop25 (T : Typed P) {L : List SI} (hok : ∀ q ∈ L, q.ok) (hri : ∀ q ∈ L, q.right = true) {ks : List Fr'} {K : Ex → St → Prop} (hL : L.length ≤ 32) : ∀ (rest : List SI) (i : Nat) (st : St) (v : PV), L.drop i = rest → i ≤ L.length → st.σ 10 = .im (stepsV L) false → st.σ 11 = .val (.int .i64 L.length) → st.σ 12 = .val (.int .i64 i) → st.σ 3 = v → Lst st.h 1 v (svs ((L.take i).map fun q => textR q.rs)) →
    (∀ st' v, st'.σ 3 = v → Lst st'.h 1 v (svs (L.map fun q => textR q.rs)) → VN (env P) 71 st' ks K) → V (env P) 71 (.loop L71_0) st (.blk 0 :: ks) K
  | [], i, st, v, hr, hi, h10, h11, h12, h3, hl, hend => by
    obtain ⟨_, hlt, ht⟩ := drop_nil hr hi
    rw [ht] at hl
    rw [V_loop]
    simp [L71_0, h10, h11, h12, hlt]
    exact hend _ v (by simp [h3]) (by simpa using hl.grow)
  | q :: rest, i, st, v, hr, hi, h10, h11, h12, h3, hl, hend => by
    obtain ⟨hq, hlt, hr', ht⟩ := drop_cons hr
    have hc : ∀ h, (stepsV L)[i]'h = q.cells := fun h => (List.getElem?_eq_some_iff.1 (stepsV_get hq)).2
    have hm := List.mem_of_getElem? hq
    obtain ⟨q1, q2, q3⟩ := hok q hm
    have hb := right_okB (hri q hm)
    obtain ⟨b1, b2, bx, bY, bs⟩ := hb
    simp only [SI.rs] at b1 b2 bx bY bs
    have hw3 := wrapS (i := i) (by omega)
    have hN : ans (env P) 160 [] = some (.im (svs namesL) false) := names_ans
    have hn : ∀ h, (svs namesL)[q.op.toNat]'h = [sv (nameOf q.op)] := fun h => svs_at (names_at ⟨b1, b2⟩) h
    have n1 := number_ans T q1
    have n2 := number_ans T q2
    have n3 := number_ans T q3
    have g0 : 0 ≤ q.op := by omega
    have g7 : q.op < 7 := by omega
    have gl : namesL.length = 7 := rfl
    have hj : ∀ H, pJoin [.im [[sv (nameOf q.op)], [sv (Lib.itoa q.x)], [sv (Lib.itoa q.y)], [sv (Lib.itoa q.s)]] true, .val (.string ⟨#[32]⟩)] H = some ⟨sv (joinL [32] [nameOf q.op, Lib.itoa q.x, Lib.itoa q.y, Lib.itoa q.s]), H, [], some []⟩ := by
      intro H
      refine pJoin_ok (by intro x h; cases h) ?_ (by simp) ?_
      · rfl
      · refine Nat.le_trans (joinL_len (m := 10) _ ?_) (by simp)
        intro x hx
        have h1 := itoa_len bx
        have h2 := itoa_len bY
        have h3 := itoa_len bs
        have h4 := name_len q.op
        simp at hx
        rcases hx with rfl | rfl | rfl | rfl <;> omega
    generalize hA : joinL [32] [nameOf q.op, Lib.itoa q.x, Lib.itoa q.y, Lib.itoa q.s] = A at hj
    have hJP := fun {dst : Option Nat} {rest : List CI} {i slot slot' : Nat} {log : Log} {d : Option (Nat × List (Nat × Nat))} {K : Ex → St → Prop} {st : St} {ks : List Fr'} {xs : List O} => VA_prim (E := env P) (f := 71) (g := 128) (p := pJoin) (dst := dst) (rest := rest) (i := i) (slot := slot) (slot' := slot') (log := log) (d := d) (K := K) (st := st) (ks := ks) (xs := xs) rfl
    rw [V_loop]
    have hS : ∀ C D : List SI, svs ((C ++ D).map fun q => textR q.rs) = svs (C.map fun q => textR q.rs) ++ svs (D.map fun q => textR q.rs) := fun C D => by simp [svs]
    by_cases o : q.op = 2 ∨ q.op = 3
    · have hx : textR q.rs = A := by rw [← hA]; simp [textR, SI.rs, o]
      have fin : ∀ (w : List UInt8), w = A → svs [w] = [[sv w]] := fun w _ => rfl
      obtain ⟨op, x, y, s, re, im, sz⟩ := q
      simp only at o b1 b2 bx bY bs hn n1 n2 n3 g0 g7 hj
      have hn' : (∀ h, (svs namesL)[2]'h = [sv (nameOf 2)]) ∧ (∀ h, (svs namesL)[3]'h = [sv (nameOf 3)]) := ⟨fun h => svs_at rfl h, fun h => svs_at rfl h⟩
      obtain ⟨hn2, hn3⟩ := hn'
      clear hn
      rcases o with o | o <;> subst o
      · simp [L71_0, h10, h11, h12, h3, hlt, hc, SI.cells, hN, hn2, gl, n1, n2, n3, hJP, hj, chunks, elems, allLen]
        refine VP_app (ys := svs ((L.take i).map fun q => textR q.rs)) (by repeat (first | exact hl | refine Lst.grow ?_ | refine Lst.putN ?_ (by simp))) (by simp) (by simp) rfl (by simp; unfold most; omega) fun v' H' wr rd e2 e3 _ => ?_
        simp [h10, h11, h12, hw3, e3]
        refine loop25 T hok hri hL rest (i + 1) _ v' hr' (by omega) ?_ ?_ ?_ ?_ ?_ hend
        · simp [h10]
        · simp [h11]
        · simp
        · simp
        · rw [ht, hS]
          simp only [List.map_cons, List.map_nil, hx]
          exact e2.grow
      · simp [L71_0, h10, h11, h12, h3, hlt, hc, SI.cells, hN, hn3, gl, n1, n2, n3, hJP, hj, chunks, elems, allLen]
        refine VP_app (ys := svs ((L.take i).map fun q => textR q.rs)) (by repeat (first | exact hl | refine Lst.grow ?_ | refine Lst.putN ?_ (by simp))) (by simp) (by simp) rfl (by simp; unfold most; omega) fun v' H' wr rd e2 e3 _ => ?_
        simp [h10, h11, h12, hw3, e3]
        refine loop25 T hok hri hL rest (i + 1) _ v' hr' (by omega) ?_ ?_ ?_ ?_ ?_ hend
        · simp [h10]
        · simp [h11]
        · simp
        · simp
        · rw [ht, hS]
          simp only [List.map_cons, List.map_nil, hx]
          exact e2.grow
    · have hx : textR q.rs = nameOf q.op := by simp [textR, SI.rs, o]
      obtain ⟨o2, o3⟩ := not_or.1 o
      simp [L71_0, h10, h11, h12, h3, hlt, hc, SI.cells, hN, hn, g0, g7, gl, o2, o3, chunks, elems, allLen]
      refine VP_app (ys := svs ((L.take i).map fun q => textR q.rs)) (by repeat (first | exact hl | refine Lst.grow ?_ | refine Lst.putN ?_ (by simp))) (by simp) (by simp) rfl (by simp; unfold most; omega) fun v' H' wr rd e2 e3 _ => ?_
      simp [h10, h11, h12, hw3, e3]
      refine loop25 T hok hri hL rest (i + 1) _ v' hr' (by omega) ?_ ?_ ?_ ?_ ?_ hend
      · simp [h10]
      · simp [h11]
      · simp
      · simp
      · rw [ht, hS]
        simp only [List.map_cons, List.map_nil, hx]
        exact e2.grow

/-- A zone's text. -/
def textL (l : List RS) : List UInt8 := joinL [44] (l.map textR)

theorem text_ans (T : Typed P) {l : List SI} (hok : ∀ q ∈ l, q.ok) : ans (env P) 71 [.im (stepsV l) false] = some (sv (if zoneRight l then textL (l.map SI.rs) else [])) := by
  have hr := zoneRight_ans (P := P) hok
  refine ans_V rfl rfl ?_
  cases hz : zoneRight l
  · rw [hz] at hr
    simp [c71, hr]
  · rw [hz] at hr
    obtain ⟨hl, _, hri⟩ := zoneRight_all hz
    have hJP := fun {dst : Option Nat} {rest : List CI} {i slot slot' : Nat} {log : Log} {d : Option (Nat × List (Nat × Nat))} {K : Ex → St → Prop} {st : St} {ks : List Fr'} {xs : List O} => VA_prim (E := env P) (f := 71) (g := 128) (p := pJoin) (dst := dst) (rest := rest) (i := i) (slot := slot) (slot' := slot') (log := log) (d := d) (K := K) (st := st) (ks := ks) (xs := xs) rfl
    simp [c71, hr]
    refine loop25 T hok hri hl l 0 _ _ rfl (by omega) (by simp) (by simp) (by simp) rfl ?_ ?_
    · simp; exact Lst.nil
    · intro st' v h3 hl'
      have hl'' := (hl'.grow (m := 0))
      obtain ⟨is, he⟩ := hl''.elems
      have hv : ∀ x, v ≠ .val x := by intro x h; cases hl' with
        | im hv _ => rw [hv] at h; cases h
        | row _ _ hv => rw [hv] at h; cases h
      have hj := pJoin_ok (c := 44) hv he (by simp; omega) (by
        refine Nat.le_trans (joinL_len (m := 44) _ ?_) (by simp; omega)
        intro x hx
        simp at hx
        obtain ⟨q, hq, rfl⟩ := hx
        exact text_len (right_okB (hri q hq)))
      have hT : joinL [44] (l.map fun q => textR q.rs) = textL (l.map SI.rs) := by rw [textL, List.map_map]; rfl
      rw [hT] at hj
      simp [h3, hJP, hj]

end Go.Evl.Zone


/- The zone statements: the document's text of a zone. -/
namespace Go.Evl.Zone
open Go Go.Evl Go.Evl.Fl
set_option linter.unusedSimpArgs false
set_option linter.unusedVariables false
variable {P : Program}

theorem joinL_snoc (c : UInt8) (x : List UInt8) : ∀ l : List (List UInt8), l ≠ [] → joinL [c] (l ++ [x]) = joinL [c] l ++ [c] ++ x
  | [], h => absurd rfl h
  | [y], _ => by simp [joinL]
  | y :: z :: r, _ => by
    have ih := joinL_snoc c x (z :: r) (by simp)
    rw [show (y :: z :: r) ++ [x] = y :: z :: (r ++ [x]) from rfl, joinL, joinL, show z :: (r ++ [x]) = (z :: r) ++ [x] from rfl, ih]
    simp

theorem toSI_rs : ∀ l : List RS, (toSI l).map SI.rs = l
  | [] => rfl
  | q :: l => by
    have := toSI_rs l
    simp only [toSI, List.map_cons] at this ⊢
    rw [this]; rfl

theorem textL_len {l : List RS} (h : ∀ q ∈ l, q.okB) (hl : l.length ≤ 32) : (textL l).length ≤ 1440 := by
  refine Nat.le_trans (joinL_len (m := 44) _ ?_) (by simp; omega)
  intro x hx
  simp at hx
  obtain ⟨q, hq, rfl⟩ := hx
  exact text_len (h q hq)

theorem sadd_ex (a b : List UInt8) (h : a.length + b.length ≤ 100000) : ∃ c, c = a ++ b ∧ c.length = a.length + b.length ∧ ∀ (t : TypeId) (cx cy : Bool), evBin P .add t cx cy (sv a) (sv b) = some (sv c) :=
  ⟨a ++ b, rfl, by simp, fun t cx cy => evBin_sadd (by omega)⟩

theorem sadd_ex1 (a : List UInt8) (b : UInt8) (h : a.length ≤ 100000) : ∃ c, c = a ++ [b] ∧ c.length = a.length + 1 ∧ ∀ (t : TypeId) (cx cy : Bool), evBin P .add t cx cy (sv a) (.val (.string ⟨#[b]⟩)) = some (sv c) :=
  ⟨a ++ [b], rfl, by simp, fun t cx cy => evBin_sadd (b := [b]) (by simp; omega)⟩

set_option maxHeartbeats 4000000 in
theorem loop28 {L : List RS} (hri : ∀ q ∈ L, q.okB) {ks : List Fr'} {K : Ex → St → Prop} (hL : L.length ≤ 32) : ∀ (rest : List RS) (i : Nat) (st : St), L.drop i = rest → i ≤ L.length → st.σ 0 = .im (rsV L) false → st.σ 3 = .im (svs namesL) true → st.σ 5 = .val (.int .i64 i) → st.σ 4 = sv (textL (L.take i)) →
    (∀ st', st'.σ 4 = sv (textL L) → VN (env P) 76 st' ks K) → V (env P) 76 (.loop L76_0) st (.blk 0 :: ks) K
  | [], i, st, hr, hi, h0, h3, h5, h4, hend => by
    obtain ⟨_, hlt, ht⟩ := drop_nil hr hi
    rw [ht] at h4
    rw [V_loop]
    simp [L76_0, h0, h5, hlt]
    exact hend _ (by simp [h4])
  | q :: rest, i, st, hr, hi, h0, h3, h5, h4, hend => by
    obtain ⟨hq, hlt, hr', ht⟩ := drop_cons hr
    have hc : ∀ h, (rsV L)[i]'h = q.cells := fun h => rsV_at hq h
    have hm := List.mem_of_getElem? hq
    have hb := hri q hm
    obtain ⟨b1, b2, bx, bY, bs⟩ := hb
    have hw3 := wrapS (i := i) (by omega)
    have hn : ∀ h, (svs namesL)[q.op.toNat]'h = [sv (nameOf q.op)] := fun h => svs_at (names_at ⟨b1, b2⟩) h
    have n1 := num_ans (P := P) (n := q.x) (by omega)
    have n2 := num_ans (P := P) (n := q.y) (by omega)
    have n3 := num_ans (P := P) (n := q.s) (by omega)
    have g0 : 0 ≤ q.op := by omega
    have g7 : q.op < 7 := by omega
    have gl : namesL.length = 7 := rfl
    have hT := textL_len (l := L.take i) (fun q hq => hri q (List.mem_of_mem_take hq)) (by simp; omega)
    have hA : textL (L.take (i + 1)) = (if i = 0 then [] else textL (L.take i) ++ [44]) ++ textR q := by
      rw [ht, textL, List.map_append]
      by_cases h : i = 0
      · subst h; simp [joinL]
      · rw [if_neg h, List.map_cons, List.map_nil, joinL_snoc _ _ _ (by
          intro e
          have := congrArg List.length e
          simp at this
          rcases this with r | r
          · exact h r
          · subst r; simp at hlt)]
        rfl
    have l1 := itoa_len bx
    have l2 := itoa_len bY
    have l3 := itoa_len bs
    have l4 := name_len q.op
    have hT0 : i = 0 → textL (L.take i) = [] := by rintro rfl; simp [textL, joinL]
    generalize textL (L.take i) = T at *
    obtain ⟨B0, e0, k0, f0⟩ := sadd_ex1 (P := P) T 44 (by omega)
    obtain ⟨B, hB, kB, hs⟩ : ∃ B : List UInt8, B = (if i = 0 then [] else T ++ [44]) ∧ B.length ≤ 1441 ∧ (i = 0 ∧ T = B ∨ (0 < i ∧ B0 = B)) := by
      by_cases h : i = 0
      · refine ⟨T, ?_, by omega, .inl ⟨h, rfl⟩⟩
        rw [if_pos h]
        exact hT0 h
      · exact ⟨B0, by rw [if_neg h, e0], by omega, .inr ⟨by omega, rfl⟩⟩
    rw [← hB] at hA
    obtain ⟨B1, e1, k1, f1⟩ := sadd_ex (P := P) B (nameOf q.op) (by omega)
    obtain ⟨B2, e2, k2, f2⟩ := sadd_ex1 (P := P) B1 32 (by omega)
    obtain ⟨B3, e3, k3, f3⟩ := sadd_ex (P := P) B2 (Lib.itoa q.x) (by omega)
    obtain ⟨B4, e4, k4, f4⟩ := sadd_ex1 (P := P) B3 32 (by omega)
    obtain ⟨B5, e5, k5, f5⟩ := sadd_ex (P := P) B4 (Lib.itoa q.y) (by omega)
    obtain ⟨B6, e6, k6, f6⟩ := sadd_ex1 (P := P) B5 32 (by omega)
    obtain ⟨B7, e7, k7, f7⟩ := sadd_ex (P := P) B6 (Lib.itoa q.s) (by omega)
    have w1 : q.op = 2 ∨ q.op = 3 → textL (L.take (i + 1)) = B7 := by
      intro o
      rw [hA, textR, if_pos o, e7, e6, e5, e4, e3, e2, e1]
      simp [joinL]
    have w2 : ¬ (q.op = 2 ∨ q.op = 3) → textL (L.take (i + 1)) = B1 := by
      intro o
      rw [hA, textR, if_neg o, e1]
    have hi0 : (i = 0 ∧ T = B) → ((0 : Int) < (i : Int)) = False := fun h => by simp; omega
    have hn2 : ∀ h, (svs namesL)[2]'h = [sv (nameOf 2)] := fun h => svs_at rfl h
    have hn3 : ∀ h, (svs namesL)[3]'h = [sv (nameOf 3)] := fun h => svs_at rfl h
    obtain ⟨op, x, y, s⟩ := q
    simp only at *
    rw [V_loop]
    have fin : ∀ (st' : St) (W : List UInt8), textL (L.take (i + 1)) = W → st'.σ 0 = .im (rsV L) false → st'.σ 3 = .im (svs namesL) true → st'.σ 5 = .val (.int .i64 ((i + 1 : Nat) : Int)) → st'.σ 4 = sv W → V (env P) 76 (.loop L76_0) st' (.blk 0 :: ks) K :=
      fun st' W hW a0 a3 a5 a4 => loop28 hri hL rest (i + 1) st' hr' (by omega) a0 a3 a5 (by rw [a4, hW]) hend
    clear e0 e1 e2 e3 e4 e5 e6 e7 k0 k1 k2 k3 k4 k5 k6 k7 hA hT hB
    rcases hs with ⟨z, rfl⟩ | ⟨z, rfl⟩
    · have z' : ¬ (0 < i) := by omega
      by_cases o2 : op = 2
      · have w := w1 (.inl o2)
        subst o2
        simp [L76_0, h0, h3, h4, h5, hlt, hc, RS.cells, hn, hn2, hn3, n1, n2, n3, z', gl, f1, f2, f3, f4, f5, f6, f7, hw3]
        refine fin _ _ w ?_ ?_ ?_ ?_ <;> simp [h0, h3]
      · by_cases o3 : op = 3
        · have w := w1 (.inr o3)
          subst o3
          simp [L76_0, h0, h3, h4, h5, hlt, hc, RS.cells, hn, hn2, hn3, n1, n2, n3, z', gl, f1, f2, f3, f4, f5, f6, f7, hw3]
          refine fin _ _ w ?_ ?_ ?_ ?_ <;> simp [h0, h3]
        · have w := w2 (by omega)
          simp [L76_0, h0, h3, h4, h5, hlt, hc, RS.cells, hn, o2, o3, z', g0, g7, gl, f1, hw3]
          refine fin _ _ w ?_ ?_ ?_ ?_ <;> simp [h0, h3]
    · by_cases o2 : op = 2
      · have w := w1 (.inl o2)
        subst o2
        simp [L76_0, h0, h3, h4, h5, hlt, hc, RS.cells, hn, hn2, hn3, n1, n2, n3, z, gl, f0, f1, f2, f3, f4, f5, f6, f7, hw3]
        refine fin _ _ w ?_ ?_ ?_ ?_ <;> simp [h0, h3]
      · by_cases o3 : op = 3
        · have w := w1 (.inr o3)
          subst o3
          simp [L76_0, h0, h3, h4, h5, hlt, hc, RS.cells, hn, hn2, hn3, n1, n2, n3, z, gl, f0, f1, f2, f3, f4, f5, f6, f7, hw3]
          refine fin _ _ w ?_ ?_ ?_ ?_ <;> simp [h0, h3]
        · have w := w2 (by omega)
          simp [L76_0, h0, h3, h4, h5, hlt, hc, RS.cells, hn, o2, o3, z, g0, g7, gl, f0, f1, hw3]
          refine fin _ _ w ?_ ?_ ?_ ?_ <;> simp [h0, h3]

theorem refText_ans {l : List RS} : ans (env P) 76 [.im (rsV l) false] = some (sv (if zoneRight (toSI l) then textL l else [])) := by
  have hr := refRight_ans (P := P) (l := l)
  refine ans_V rfl rfl ?_
  cases hz : zoneRight (toSI l)
  · rw [hz] at hr
    simp [c76, hr]
  · rw [hz] at hr
    obtain ⟨hl, _, hri⟩ := zoneRight_all hz
    have hri' : ∀ q ∈ l, q.okB := by
      intro q hq
      have := right_okB (hri q.si (by simp [toSI]; exact ⟨q, hq, rfl⟩))
      exact this
    simp [c76, hr, chunks]
    refine loop28 hri' (by simpa [toSI] using hl) l 0 _ rfl (by omega) (by simp) (by simp [namesL, svs]) (by simp) (by simp [textL, joinL]) ?_
    intro st' h4
    simp [h4]

end Go.Evl.Zone


/- The zone statements: words, and the numbers that they spell. -/
namespace Go.Evl.Zone
open Go Go.Evl Go.Evl.Fl
set_option linter.unusedSimpArgs false
set_option linter.unusedVariables false
variable {P : Program}

end Go.Evl.Zone


/- The zone statements: a step, and a zone, out of its text. -/
namespace Go.Evl.Zone
open Go Go.Evl Go.Evl.Fl
set_option linter.unusedSimpArgs false
set_option linter.unusedVariables false
variable {P : Program}

end Go.Evl.Zone


/- The zone statements: a zone out of its text. -/
namespace Go.Evl.Zone
open Go Go.Evl Go.Evl.Fl
set_option linter.unusedSimpArgs false
set_option linter.unusedVariables false
variable {P : Program}

end Go.Evl.Zone


/- The zone statements: the document's Split. -/
namespace Go.Evl.Zone
open Go Go.Evl Go.Evl.Fl
set_option linter.unusedSimpArgs false
set_option linter.unusedVariables false
variable {P : Program}

theorem sv_size (l : List UInt8) : (⟨l.toArray⟩ : ByteArray).size = l.length := rfl

theorem sv_slice {H : Heap} {l : List UInt8} {a b : Nat} (h1 : a ≤ b) (h2 : b ≤ l.length) : sliceP H 0 (sv l) (some a) (some b) none = some (sv ((l.drop a).take (b - a)), []) := by
  have e : (⟨l.toArray⟩ : ByteArray).extract a b = ⟨((l.drop a).take (b - a)).toArray⟩ := by
    apply ByteArray.ext
    simp
  have : sliceP H 0 (sv l) (some a) (some b) none = if 0 = 0 ∧ a ≤ b ∧ b ≤ l.length then some (.val (.string ((⟨l.toArray⟩ : ByteArray).extract a b)), []) else none := rfl
  rw [this, if_pos ⟨rfl, h1, h2⟩, e]

end Go.Evl.Zone

